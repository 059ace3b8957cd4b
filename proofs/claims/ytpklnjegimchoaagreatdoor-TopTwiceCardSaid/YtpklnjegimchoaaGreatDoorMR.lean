/-
  The clamp's functions: each is a function of its bytes.
-/
import Derived.Test.YtpklnjegimchoaaGreatDoorME
import Derived.Test.YtpklnjegimchoaaGreatDoorMF
namespace Go.Proofs.YtpklnjegimchoaaGreatDoor
open Go Go.X Go.Z
set_option maxRecDepth 1000000
def onesB : List Int → Cs
  | [] => []
  | x :: r => .one (.int .u8 (.k x)) :: onesB r
theorem onesB_ev {ρ : Env} : ∀ l, Cs.ev ρ (onesB l) = some (ints .u8 l)
  | [] => rfl
  | x :: r => by simp only [onesB, Cs.ev, Seg.ev, SC.ev, Lin.ev, Option.map_some, onesB_ev r]; rfl
theorem intsOf_onesB : ∀ l, intsOf .u8 (onesB l) = some l
  | [] => rfl
  | x :: r => by
    have e : Z.kq .u8 .u8 = true := rfl
    simp only [onesB, intsOf, e, cond_true, intsOf_onesB r]
def packT : List Int → Nat
  | [] => 0
  | x :: r => x.toNat + 256 * packT r
theorem packN_T : ∀ {l : List Int}, Bytes l → packN (Nat.pow 2 8) l = some (packT l)
  | [], _ => rfl
  | x :: r, h => by
    obtain ⟨h1, h2⟩ := h x (List.mem_cons_self ..)
    obtain ⟨n, rfl⟩ := Int.eq_ofNat_of_zero_le h1
    have ih := packN_T (l := r) fun y hy => h y (List.mem_cons_of_mem _ hy)
    have hb : Nat.blt n (Nat.pow 2 8) = true := blt_iff.2 (by show n < 256; omega)
    show packN (Nat.pow 2 8) (.ofNat n :: r) = _
    simp only [packN, hb, cond_true, ih]
    rfl
noncomputable def outB (m : List Nx) (l : List Int) : List Int := m.map fun e => (nxN (dig 8 (packT l)) e : Int)
noncomputable def byteE : Nx → Bool
  | .op .wrap .u8 _ _ => true
  | .op .and .u8 _ _ => true
  | .lin (.k (.ofNat n)) => Nat.blt n 256
  | .lin (.s _ [(_, _)]) => true
  | _ => false
theorem byteE_ok {e : Nx} (h : byteE e = true) (N : Nat) : nxN (dig 8 N) e < 256 := by
  unfold byteE at h
  split at h
  · next a b => show Nat.mod (nxN (dig 8 N) a) 256 < 256; exact Nat.mod_lt _ (by decide)
  · next a b => exact Nat.lt_of_le_of_lt Nat.and_le_left (Nat.mod_lt _ (by decide) : Nat.mod (nxN (dig 8 N) a) 256 < 256)
  · next n => exact blt_iff.1 h
  · next i => exact (Nat.mod_lt _ (by decide) : Nat.mod (Nat.shiftRight N (Nat.mul 8 _)) 256 < 256)
  · cases h
noncomputable def resOk (r : Option (List Nx)) (n : Nat) : Bool := match r with
  | some m => m.all byteE && Nat.beq (lenN m) n
  | none => false
noncomputable def getR : Option (List Nx) → List Nx
  | some m => m
  | none => []
theorem resOk_ok {r : Option (List Nx)} {n : Nat} (h : resOk r n = true) : r = some (getR r) ∧ (∀ l, (outB (getR r) l).length = n ∧ Bytes (outB (getR r) l)) := by
  unfold resOk at h
  split at h
  · next m =>
    simp only [Bool.and_eq_true] at h
    refine ⟨rfl, fun l => ⟨?_, fun y hy => ?_⟩⟩
    · have := Nat.eq_of_beq_eq_true h.2
      show (outB m l).length = n
      rw [outB, List.length_map, ← lenN_eq, this]
    · obtain ⟨e, he, rfl⟩ := List.mem_map.1 hy
      have := byteE_ok (List.all_eq_true.1 h.1 e he) (packT l)
      exact ⟨by omega, by omega⟩
  · cases h
def noI : In := ⟨fun op _ us vs => op = 7 ∧ ∃ t, us = [[.string t]] ∧ vs = ints .u8 (strB t), fun op _ us s => op = 13 ∧ ∃ a b, us = [[.string a], [.string b]] ∧ s = a ++ b,
  { bytes := fun op _ _ _ _ h => by
      obtain ⟨_, t, _, rfl⟩ := h
      exact ⟨_, rfl, fun x hx => by obtain ⟨b, _, rfl⟩ := List.mem_map.1 hx; have := b.toNat_lt; omega⟩
    one := fun op _ _ _ _ h h' _ => by
      obtain ⟨_, t, rfl, rfl⟩ := h
      obtain ⟨_, t', e, rfl⟩ := h'
      cases e
      rfl
    row := fun _ t => ⟨rfl, t, rfl, rfl⟩
    sone := fun op _ _ _ _ h h' => by
      obtain ⟨_, a, b, rfl, rfl⟩ := h
      obtain ⟨_, a', b', e, rfl⟩ := h'
      cases e
      rfl
    cat := fun _ a b => ⟨rfl, a, b, rfl, rfl⟩ }⟩
abbrev rho0 : Env := rhoC 0 fun _ => 0
theorem does_nx {f : FuncId} {sh : List (Option Nat)} {gl : List (Nat × List SC)} {m : List Nx} {w : World} (hent : Enters Tryz.prog f) (hm : resC Tryz.prog cfC 3000 f .u8 sh gl .u8 = some m) {args : List SV} {vs : List Value} (hvs : evVs rho0 args = some vs) {l : List Int} (hl : conA .u8 sh args = some l) (hb : Bytes l)
    (hlt : glLt gl = true) (hgl : (glOk (glT gl) gl && glCl gl) = true) (hw : ∀ p ∈ gl, p.1 < w.heap.size ∧ ∃ vs, Cs.ev rho0 (ones p.2) = some vs ∧ ∀ j v, vs[j]? = some v → w.cell? ((⟨p.1, 0, none⟩ : Addr).add j) = some v) :
    Does Tryz.prog f vs.toArray w [] fun v F => v = .agg (ints .u8 (outB m l)).toArray ∧ F = [] := by
  have hp : pNx .u8 sh gl .u8 (resC Tryz.prog cfC 3000 f .u8 sh gl .u8) args (gC gl 0 0) = some (.e (.agg (outN .u8 (dig 8 (packT l)) m)), gC gl 0 0) := by
    unfold pNx
    rw [hl, hm]
    have e : packN (Nat.pow 2 (bK .u8)) l = some (packT l) := packN_T hb
    have e2 : (glOk (gC gl 0 0).H gl && glCl gl) = true := hgl
    simp only [e, e2, cond_true, nF_eq]
    rfl
  have := pNx_ok (I := noI) (w0 := w) (cfC_ok noI) args _ _ _ hp rho0 vs w hvs (gokC hlt (fun i hi => absurd hi (Nat.not_lt_zero _)) hw)
  rcases this with ⟨h1, h2⟩ | ⟨v, h1, _⟩
  · refine Calls.mono h2 ?_
    rintro e w' ⟨ρ', v, hle, rfl, hv, hg⟩
    refine ⟨v, [], rfl, ⟨hg.mem.kept, fun b hb => (by cases hb), fun b hb => (by cases hb), .nil⟩, ?_, rfl⟩
    simp only [SV.ev, EV.ev, outN_ok, Option.map_some] at hv
    cases hv
    simp [outB, ints]
  · rw [hent] at h1; cases h1
end Go.Proofs.YtpklnjegimchoaaGreatDoor
namespace Go.Proofs.YtpklnjegimchoaaGreatDoor
open Go Go.X Go.Z
set_option maxRecDepth 1000000
abbrev glQ : List (Nat × List SC) := [(10, prQ)]
noncomputable def r264 := resC Tryz.prog cfC 3000 264 .u8 [some 16] [] .u8
noncomputable def r266 := resC Tryz.prog cfC 3000 266 .u8 [some 17, some 17] glQ .u8
noncomputable def r267 := resC Tryz.prog cfC 3000 267 .u8 [some 17, some 17] glQ .u8
noncomputable def r268 := resC Tryz.prog cfC 3000 268 .u8 [some 17, some 16] glQ .u8
theorem o264 : resOk r264 16 = true := by kernel_rfl
theorem o266 : resOk r266 17 = true := by kernel_rfl
theorem o267 : resOk r267 17 = true := by kernel_rfl
theorem o268 : resOk r268 16 = true := by kernel_rfl
theorem enters264 : Enters Tryz.prog 264 := Go.X.enters_of Tryz.func264 (by kernel_rfl) (by kernel_rfl)
theorem enters265 : Enters Tryz.prog 265 := Go.X.enters_of Tryz.func265 (by kernel_rfl) (by kernel_rfl)
theorem enters266 : Enters Tryz.prog 266 := Go.X.enters_of Tryz.func266 (by kernel_rfl) (by kernel_rfl)
theorem enters267 : Enters Tryz.prog 267 := Go.X.enters_of Tryz.func267 (by kernel_rfl) (by kernel_rfl)
theorem enters268 : Enters Tryz.prog 268 := Go.X.enters_of Tryz.func268 (by kernel_rfl) (by kernel_rfl)
theorem enters183 : Enters Tryz.prog 183 := Go.X.enters_of Tryz.func183 (by kernel_rfl) (by kernel_rfl)
theorem enters236 : Enters Tryz.prog 236 := Go.X.enters_of Tryz.func236 (by kernel_rfl) (by kernel_rfl)
theorem enters237 : Enters Tryz.prog 237 := Go.X.enters_of Tryz.func237 (by kernel_rfl) (by kernel_rfl)
theorem enters184 : Enters Tryz.prog 184 := Go.X.enters_of Tryz.func184 (by kernel_rfl) (by kernel_rfl)
theorem enters212 : Enters Tryz.prog 212 := Go.X.enters_of Tryz.func212 (by kernel_rfl) (by kernel_rfl)
theorem enters109 : Enters Tryz.prog 109 := Go.X.enters_of Tryz.func109 (by kernel_rfl) (by kernel_rfl)
def primeW : List Int := [18446744073709551611, 18446744073709551615, 3]
noncomputable def trimS (a : List Int) : List Int := outB (getR r264) a
noncomputable def mulS (a b : List Int) : List Int := outB (getR r266) (a ++ b)
noncomputable def addS (a b : List Int) : List Int := outB (getR r267) (a ++ b)
noncomputable def lowS (a b : List Int) : List Int := outB (getR r268) (a ++ b)
@[simp] theorem trimS_length (a : List Int) : (trimS a).length = 16 := ((resOk_ok o264).2 a).1
@[simp] theorem mulS_length (a b : List Int) : (mulS a b).length = 17 := ((resOk_ok o266).2 _).1
@[simp] theorem addS_length (a b : List Int) : (addS a b).length = 17 := ((resOk_ok o267).2 _).1
@[simp] theorem lowS_length (a b : List Int) : (lowS a b).length = 16 := ((resOk_ok o268).2 _).1
theorem Bytes.trimS (a : List Int) : Bytes (trimS a) := ((resOk_ok o264).2 a).2
theorem Bytes.mulS (a b : List Int) : Bytes (mulS a b) := ((resOk_ok o266).2 _).2
theorem Bytes.addS (a b : List Int) : Bytes (addS a b) := ((resOk_ok o267).2 _).2
theorem Bytes.lowS (a b : List Int) : Bytes (lowS a b) := ((resOk_ok o268).2 _).2
theorem conA1 {n : Nat} {a : List Int} (h : a.length = n) : conA .u8 [some n] [.e (.agg (onesB a))] = some a := by
  subst h
  have e : Nat.beq (lenN a) a.length = true := by rw [lenN_eq]; exact Nat.beq_refl _
  simp only [conA, intsOf_onesB, e, cond_true, List.append_nil]
theorem conA2 {n k : Nat} {a b : List Int} (h : a.length = n) (h' : b.length = k) : conA .u8 [some n, some k] [.e (.agg (onesB a)), .e (.agg (onesB b))] = some (a ++ b) := by
  subst h h'
  have e : Nat.beq (lenN a) a.length = true := by rw [lenN_eq]; exact Nat.beq_refl _
  have e' : Nat.beq (lenN b) b.length = true := by rw [lenN_eq]; exact Nat.beq_refl _
  simp only [conA, intsOf_onesB, e, e', cond_true, List.append_nil]
theorem bytes_app {a b : List Int} (ha : Bytes a) (hb : Bytes b) : Bytes (a ++ b) := fun x hx => (List.mem_append.1 hx).elim (ha x) (hb x)
theorem evVs1 {ρ : Env} (a : List Int) : evVs ρ [.e (.agg (onesB a))] = some [.agg (ints .u8 a).toArray] := by
  simp only [evVs, SV.ev, EV.ev, onesB_ev, Option.map_some]
theorem evVs2 {ρ : Env} (a b : List Int) : evVs ρ [.e (.agg (onesB a)), .e (.agg (onesB b))] = some [.agg (ints .u8 a).toArray, .agg (ints .u8 b).toArray] := by
  simp only [evVs, SV.ev, EV.ev, onesB_ev, Option.map_some]
theorem glQ_ok {w : World} (h : Reads w (some ⟨10, 0, none⟩) (ints .u64 primeW)) : ∀ p ∈ glQ, p.1 < w.heap.size ∧ ∃ vs, Cs.ev rho0 (ones p.2) = some vs ∧ ∀ j v, vs[j]? = some v → w.cell? ((⟨p.1, 0, none⟩ : Addr).add j) = some v := fun p hp => by
  have hp : p = (10, prQ) := by simpa using hp
  subst hp
  have hc : ∀ j v, (ints .u64 primeW)[j]? = some v → w.cell? ((⟨10, 0, none⟩ : Addr).add j) = some v := fun j v hj => by
    obtain ⟨ad, h1, h2⟩ := h j v hj
    cases h1
    exact h2
  refine ⟨?_, _, ev_ones (allI_ok (rfl : allI .u64 prQ = some primeW)), hc⟩
  have := World.block_lt_of_cell? w _ (hc 0 _ rfl)
  rwa [add_block] at this
theorem trim_spec (a : List Int) (ha : Bytes a) (hl : a.length = 16) (w : World) : Does Tryz.prog 264 #[.agg (ints .u8 a).toArray] w [] (fun v G => v = .agg (ints .u8 (trimS a)).toArray ∧ G = []) :=
  does_nx enters264 (resOk_ok o264).1 (evVs1 a) (conA1 hl) ha rfl rfl (fun p hp => by cases hp)
theorem mul_spec (a b : List Int) (ha : Bytes a) (hb : Bytes b) (hl : a.length = 17) (hl' : b.length = 17) (w : World) (h : Reads w (some ⟨10, 0, none⟩) (ints .u64 primeW)) : Does Tryz.prog 266 #[.agg (ints .u8 a).toArray, .agg (ints .u8 b).toArray] w [] (fun v G => v = .agg (ints .u8 (mulS a b)).toArray ∧ G = []) :=
  does_nx enters266 (resOk_ok o266).1 (evVs2 a b) (conA2 hl hl') (bytes_app ha hb) rfl (by kernel_rfl) (glQ_ok h)
theorem add_spec (a b : List Int) (ha : Bytes a) (hb : Bytes b) (hl : a.length = 17) (hl' : b.length = 17) (w : World) (h : Reads w (some ⟨10, 0, none⟩) (ints .u64 primeW)) : Does Tryz.prog 267 #[.agg (ints .u8 a).toArray, .agg (ints .u8 b).toArray] w [] (fun v G => v = .agg (ints .u8 (addS a b)).toArray ∧ G = []) :=
  does_nx enters267 (resOk_ok o267).1 (evVs2 a b) (conA2 hl hl') (bytes_app ha hb) rfl (by kernel_rfl) (glQ_ok h)
theorem low_spec (a b : List Int) (ha : Bytes a) (hb : Bytes b) (hl : a.length = 17) (hl' : b.length = 16) (w : World) (h : Reads w (some ⟨10, 0, none⟩) (ints .u64 primeW)) : Does Tryz.prog 268 #[.agg (ints .u8 a).toArray, .agg (ints .u8 b).toArray] w [] (fun v G => v = .agg (ints .u8 (lowS a b)).toArray ∧ G = []) :=
  does_nx enters268 (resOk_ok o268).1 (evVs2 a b) (conA2 hl hl') (bytes_app ha hb) rfl (by kernel_rfl) (glQ_ok h)
end Go.Proofs.YtpklnjegimchoaaGreatDoor
