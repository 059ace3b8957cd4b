/-
  Two blocks that are handed over to a call; what is read apart from them.
-/
import Derived.Test.YtmkjnefongjniaaX19
import Derived.Laws.StructEq
namespace Go.X
open Go
variable {dF : List Deferred}
section
variable {P : Program} {n : Nat} {w0 : World} {X : List Nat} {Q : Exit → Act → World → Prop} {L : Slots} {F : List Blk} {o : Oper}
theorem Mem.own2 {w : World} {b c : Blk} {k : Nat} {no : Option Nat} (hb : b.no = some k) (hc : c.no = no) (h : b.here w) (g : c.here w) (hne : no ≠ some k) : Mem w (k :: no.toList) [b, c] w := by
  subst hc
  refine ⟨Kept.refl _ w, ?_, ?_, ?_⟩
  · intro d hd
    simp only [List.mem_cons, List.not_mem_nil, or_false] at hd
    rcases hd with rfl | rfl
    · exact h
    · exact g
  · intro d hd m hm
    simp only [List.mem_cons, List.not_mem_nil, or_false] at hd
    rcases hd with rfl | rfl
    · rw [hb] at hm; cases hm; exact .inr (List.mem_cons_self ..)
    · exact .inr (List.mem_cons_of_mem _ (by rw [hm]; simp))
  · refine List.pairwise_cons.2 ⟨fun d hd m hm => ?_, List.pairwise_singleton _ _⟩
    rw [List.mem_singleton] at hd
    subst hd
    rw [hb] at hm
    cases hm
    exact hne
theorem Mem.neO {w : World} (hm : Mem w0 X F w) (i j : Nat) {k : Nat} {b c : Blk} (hij : i ≠ j) (hi : F[i]? = some b) (hb : b.no = some k) (hj : F[j]? = some c) : c.no ≠ some k := fun e => hm.ne i j hij hi hj hb e rfl
theorem ext2 {w : World} (hm : Mem w0 X F w) (i j l : Nat) {kn bk : Nat} {cells : List Value} {ty : TypeId} {fz : Nat × Nat} {b c : Blk} (hij : i ≠ j) (hil : i ≠ l) (hi : F[i]? = some ⟨some kn, cells, ty, fz⟩) (hj : F[j]? = some b) (hb : b.no = some bk) (hl : F[l]? = some c) :
    Ext w (bk :: c.no.toList) (some ⟨kn, 0, none⟩) cells := fun q v hq => by
  obtain ⟨ad, he, hc⟩ := Reads.blk (hm.at i hi) rfl q v hq
  cases he
  refine ⟨_, rfl, Blk.lt (hm.at i hi) rfl, ?_, hc⟩
  intro hmem
  rcases List.mem_cons.1 hmem with h | h
  · exact hm.ne i j hij hi hj rfl hb h
  · exact hm.ne i l hil hi hl rfl (Option.mem_toList.1 h) rfl
/-- Memory that was there is apart from a block of the call's own. -/
theorem Ext.own {w : World} {A : Option Addr} {cs : List Value} (h : Ext w0 X A cs) (hm : Mem w0 X F w) (i : Nat) {c : Blk} (hi : F[i]? = some c) : Ext w c.no.toList A cs := fun q v hq => by
  obtain ⟨ad, rfl, hlt, hX, hc⟩ := h q v hq
  have hmem := List.mem_of_getElem? hi
  obtain ⟨ad', he, hc'⟩ := Ext.reads h hm q v hq
  cases he
  refine ⟨ad, rfl, Nat.lt_of_lt_of_le hlt hm.kept.size, ?_, hc'⟩
  intro hk
  rcases hm.mine c hmem ad.block (Option.mem_toList.1 hk) with h1 | h1
  · omega
  · exact hX h1
theorem Ex.ghost {e : Exit} (t : TypeId) (h : Ex dF n w0 X e Q L (F ++ [⟨none, [], t, (0, 0)⟩])) : Ex dF n w0 X e Q L F := fun a w hf hm => h a w hf (hm.ghost t _)
theorem hx2' {m : List Bool} {b c : Blk} {k : Nat} {no : Option Nat} (h : drp m F = [c, b]) (hb : b.no = some k) (hc : c.no = no) : ∀ q, q ∈ k :: no.toList → ∃ b ∈ drp m F, b.no = some q := fun q hq => by
  rcases List.mem_cons.1 hq with rfl | hq
  · exact ⟨b, by rw [h]; exact List.mem_cons_of_mem _ (List.mem_singleton.2 rfl), hb⟩
  · exact ⟨c, by rw [h]; exact List.mem_cons_self .., by rw [hc]; exact Option.mem_toList.1 hq⟩
/-- A literal of a slice of one element. -/
theorem e_litS1 {t e : TypeId} {s by_ : Nat} {zs : List Value} {ps : List (Nat × Operand)} {d : Nat} (ha : slc P t = some (e, s, by_)) (hz : zer P e = some zs) (c : List Value) (ho : o.op = .buildSlice t 1 ps.toArray)
    (hp : evp L ps = some [(0, Value.agg c.toArray)]) (hs : c.length = s) (h24 : Nat.ble s 16777216 = true) (hd : o.dst = some d) (hn : Nat.blt d n = true) :
    Eff P dF n w0 X o L F fun L' F' => ∃ k, L' = (d, .slice (some ⟨k, 0, none⟩) 1 1) :: L ∧ F' = F ++ [⟨some k, c, e, (0, 0)⟩] := by
  have h := e_litS (dF := dF) (n := n) (w0 := w0) (X := X) (F := F) ha hz [c] ho hp rfl (by simpa using hs) (by rwa [Nat.one_mul]) hd hn
  have e : [c].flatten = c := by simp
  rwa [e] at h
/-- append of elements of several cells, of any number. -/
theorem e_appendS0 {t e : TypeId} {sz by_ : Nat} {zs : List Value} {x y : Operand} {B : Option Addr} {len cap m c : Nat} {d : Nat} {no : Option Nat} (ha : slc P t = some (e, sz, by_)) (hz : zer P e = some zs) (hzl : zs.length = sz) (hsz : 0 < sz) (i : Nat) (old junk news : List Value)
    (hR : ∀ w, Mem w0 X F w → Reads w B news)
    (ho : o.op = .call { callee := .builtin .append, args := #[x, y], argTypes := #[t, t] }) (hx : ev L x = some (.slice (no.map fun k => (⟨k, 0, none⟩ : Addr)) len cap)) (hy : ev L y = some (.slice B m c)) (hi : F[i]? = some ⟨no, old ++ junk, e, (0, 0)⟩)
    (hol : old.length = len * sz) (hcl : (old ++ junk).length = cap * sz) (hnl : news.length = m * sz) (h1 : ∀ v ∈ news, v.oneCell' = true) (hbytes : (len + m) * by_ ≤ 140737488355328) (h63 : len + m ≤ 9223372036854775807) (hd : o.dst = some d) (hn : Nat.blt d n = true) :
    Eff P dF n w0 X o L F fun L' F' => ∃ (no' : Option Nat) (cap' : Nat) (junk' : List Value), (old ++ news ++ junk').length = cap' * sz ∧ len + m ≤ cap' ∧ L' = (d, .slice (no'.map fun k => (⟨k, 0, none⟩ : Addr)) (len + m) cap') :: L ∧ F' = F.set i ⟨no', old ++ news ++ junk', e, (0, 0)⟩ := by
  have hlc : len ≤ cap := by
    refine Nat.le_of_mul_le_mul_right ?_ hsz
    rw [← hol, ← hcl, List.length_append]
    omega
  have h := e_append (dF := dF) (n := n) (w0 := w0) (X := X) ha hz hzl hsz i (no := no) old junk news hR ho hx hy hi (.inr rfl) hol hcl hlc hnl h1 hbytes h63 hd hn
  intro Q K hK
  refine h Q K fun L' F' hg => ?_
  obtain ⟨A', no', cap', junk', hA, hl, hcap, _, hm0, rfl, rfl⟩ := hg
  have hA' : A' = no'.map fun k => (⟨k, 0, none⟩ : Addr) := by
    rcases hA with h1 | h1
    · obtain ⟨rfl, rfl⟩ := hm0 (by omega)
      rfl
    · exact h1
  subst hA'
  exact hK _ _ ⟨no', cap', junk', hl, hcap, rfl, rfl⟩
/-- A struct of whole numbers alone. -/
def intStruct (P : Program) (t : TypeId) (n : Nat) : Bool :=
  isStruct P t && !P.stoodInHeld t && !P.eqGuardType P.depth t && (P.fieldsOf t).toList.all fun f => scalar P f.type && (match P.underlying f.type with | some (.int _) => true | _ => false) && Nat.blt f.offset n
theorem eqFields_same (k : IntKind) (xs : List Int) (w : World) (d : Nat) : ∀ fs : List Field, (∀ f ∈ fs, scalar P f.type = true ∧ (∃ k', P.underlying f.type = some (.int k')) ∧ f.offset < xs.length) → (Op.eqFields (d + 1) (ints k xs).toArray (ints k xs).toArray fs).run P w = .ok true w
  | [], _ => by simp [Op.eqFields]
  | f :: fs, h => by
    obtain ⟨h1, ⟨k', h2⟩, h3⟩ := h f (List.mem_cons_self ..)
    have hp : (part f.type (ints k xs).toArray f.offset).run P w = .ok (.int k (xs.getD f.offset 0)) w := run_part_scalar h1 _ _ _ (by simpa using ints_get h3)
    have ih := eqFields_same k xs w d fs fun g hg => h g (List.mem_cons_of_mem _ hg)
    simp only [Op.eqFields, Sem.run_bind, Sem.run_ite]
    split
    · simp [hp, run_equalIn_int w d f.type k k' _ _ h2, ih]
    · simpa using ih
theorem q_neqSame {S : World → Prop} {t t' : TypeId} {x y : Operand} {k : IntKind} {xs : List Int} (hs : intStruct P t xs.length = true) (ho : o.op = .binOp .neq t x y t') (hx : ev L x = some (.agg (ints k xs).toArray)) (hy : ev L y = some (.agg (ints k xs).toArray)) : Qt P dF n L S o (.bool false) := fun a w hf _ => by
  unfold intStruct at hs
  simp only [Bool.and_eq_true, Bool.not_eq_true'] at hs
  obtain ⟨⟨⟨h1, h2⟩, h3⟩, h4⟩ := hs
  obtain ⟨fs, hu⟩ := isStruct_parts h1
  have hfo : P.fieldsOf t = fs := by simp [Program.fieldsOf, hu]
  have hu' : P.underlying t = some (.struct (P.fieldsOf t)) := by rw [hfo]; exact hu
  have he := eqFields_same (P := P) k xs w 9998 (P.fieldsOf t).toList fun f hf => by
    have := List.all_eq_true.1 h4 f hf
    simp only [Bool.and_eq_true] at this
    obtain ⟨⟨g1, g2⟩, g3⟩ := this
    refine ⟨g1, ?_, Nat.le_of_ble_eq_true g3⟩
    split at g2
    · exact ⟨_, by assumption⟩
    · cases g2
  have hq := run_equalIn_struct (P := P) w 9999 t (ints k xs).toArray (ints k xs).toArray hu' h2
  rw [he] at hq
  simp only [execOp, ho, hf.eval hx, hf.eval hy]
  simp [run_eqGuard_agg w _ _ _ _ _ _ h3, run_neq_struct, hq]
theorem perm3 {a b c r q : Blk} {Bs Gs : List Blk} : ((a :: b :: c :: Bs) ++ (r :: q :: Gs)).Perm (a :: b :: c :: r :: q :: (Gs ++ Bs)) :=
  .cons _ (.cons _ (.cons _ List.perm_append_comm))
theorem two_sub {a b : Blk} {R : List Blk} : [a, b].Sublist (a :: b :: R) := ((List.nil_sublist R).cons_cons b).cons_cons a
end
end Go.X
