/-
  Facts on the types of the arguments of layer 11.
-/
import Derived.Test.YtmkjnefongjniaaLift
namespace Go.Proofs.Ytmkjnefongjniaa
open Go Go.X Go.ChangeShapes Go.WideShapes Go.ChangeAt Go.RowKit
theorem ce40 : Try.prog.cellsOf 40 = 6 := by kernel_rfl
theorem ce3 : Try.prog.cellsOf 3 = 1 := by kernel_rfl
theorem ce22 : Try.prog.cellsOf 22 = 1 := by kernel_rfl
theorem open_sliceC {P : Program} {H : Type} {enc : TypeId × Value → H} {w : World} {base : Nat} {held : Bool} {t e : TypeId} {k : IntKind} {by_ m : Nat} {cells : List Value} {d : DataW H} {ps : List MemPlace} (ha : slc P t = some (e, 1, by_)) (he : P.underlying e = some (.int k))
    (hn : DataW.trod enc P w base (fun _ => true) held m t cells = some (d, ps)) :
    ∃ (A : Option Addr) (c : Nat) (xs : List Int), cells = [.slice A xs.length c] ∧ xs.length ≤ c ∧ Reads w A (ints k xs) ∧ ∀ z ∈ xs, (Lit.int k z).wf = true := by
  obtain ⟨hu, inf, hi, hs, hb⟩ := slc_parts ha
  have hc := cellsOf_of hi hs
  rcases open_ints hu he hc hn with ⟨h1, h2⟩ | ⟨a, len, cap, zs, h1, _, hlc, _, hzl, h2, hcell, hwf⟩
  · exact ⟨none, 0, [], h1, Nat.le_refl _, Reads.nil w none, by simp⟩
  · simp only [if_true] at hzl
    have hlt : (zs.take len).length = len := by rw [List.length_take]; omega
    refine ⟨some a, cap, zs.take len, by rw [hlt]; exact h1, by omega, ?_, fun z hz => hwf z (List.mem_of_mem_take hz)⟩
    intro j v hj
    have hjl : j < len := by
      have := (List.getElem?_eq_some_iff.1 hj).1
      simpa [hlt] using this
    refine ⟨a, rfl, ?_⟩
    rw [hcell j (by omega)]
    have hg := ints_get (k := k) (xs := zs.take len) (j := j) (by omega)
    rw [hg] at hj
    cases hj
    simp only [List.getD_eq_getElem?_getD, List.getElem?_take]
    simp [hjl]
theorem open_packet {H : Type} {enc : TypeId × Value → H} {w : World} {base b0 : Nat} {held : Bool} {r : Reach} {v : Value} {d : DataW H} {ps : List MemPlace} (hval : Value.okWide Try.prog w r b0 40 v) (hd : DataW.Trod enc Try.prog w base (fun _ => true) held 40 v d ps) :
    ∃ (pk pr pp pe pc : Int) (PA : Option Addr) (bd : List Int) (bc : Nat), v = .agg #[.int .i64 pk, .int .i64 pr, .int .i64 pp, .int .i64 pe, .int .i64 pc, .slice PA bd.length bc] ∧ bd.length ≤ bc ∧ Reads w PA (ints .u8 bd) ∧ ∀ z ∈ bd, (Lit.int .u8 z).wf = true := by
  obtain ⟨cs, rfl, hl, m, hf⟩ := open_struct Try.underlying40 hval hd
  rw [ce40] at hl
  obtain ⟨y0, h0⟩ := hf _ (List.mem_cons_self ..)
  obtain ⟨y1, h1⟩ := hf _ (List.mem_cons_of_mem _ (List.mem_cons_self ..))
  obtain ⟨y2, h2⟩ := hf _ (List.mem_cons_of_mem _ (List.mem_cons_of_mem _ (List.mem_cons_self ..)))
  obtain ⟨y3, h3⟩ := hf _ (List.mem_cons_of_mem _ (List.mem_cons_of_mem _ (List.mem_cons_of_mem _ (List.mem_cons_self ..))))
  obtain ⟨y4, h4⟩ := hf _ (List.mem_cons_of_mem _ (List.mem_cons_of_mem _ (List.mem_cons_of_mem _ (List.mem_cons_of_mem _ (List.mem_cons_self ..)))))
  obtain ⟨y5, h5⟩ := hf _ (List.mem_cons_of_mem _ (List.mem_cons_of_mem _ (List.mem_cons_of_mem _ (List.mem_cons_of_mem _ (List.mem_cons_of_mem _ (List.mem_cons_self ..))))))
  obtain ⟨z0, k0, _⟩ := DataW.trod_int u3 h0
  obtain ⟨z1, k1, _⟩ := DataW.trod_int u3 h1
  obtain ⟨z2, k2, _⟩ := DataW.trod_int u3 h2
  obtain ⟨z3, k3, _⟩ := DataW.trod_int u3 h3
  obtain ⟨z4, k4, _⟩ := DataW.trod_int u3 h4
  obtain ⟨PA, bc, bd, k5, hbc, hR, hwf⟩ := open_sliceC s22 u5 h5
  rw [ce3] at k0 k1 k2 k3 k4
  rw [ce22] at k5
  refine ⟨z0, z1, z2, z3, z4, PA, bd, bc, ?_, hbc, hR, hwf⟩
  rcases cs with _ | ⟨a0, _ | ⟨a1, _ | ⟨a2, _ | ⟨a3, _ | ⟨a4, _ | ⟨a5, _ | ⟨a6, t⟩⟩⟩⟩⟩⟩⟩ <;> try (simp at hl; done)
  simp at k0 k1 k2 k3 k4 k5
  subst k0 k1 k2 k3 k4 k5
  rfl
def zpacket : Value := .agg #[.int .i64 0, .int .i64 0, .int .i64 0, .int .i64 0, .int .i64 0, .slice none 0 0]
def zpacketD {H : Type} : DataW H := .agg [.lit (.int .i64 0), .lit (.int .i64 0), .lit (.int .i64 0), .lit (.int .i64 0), .lit (.int .i64 0), .nil]


end Go.Proofs.Ytmkjnefongjniaa
