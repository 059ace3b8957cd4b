/-
  What the ladder makes of the ends' secrets.
-/
import Derived.Test.YtpklnjegimchoaaGreatDoorME
import Derived.Test.YtpklnjegimchoaaGreatDoorML1
import Derived.Test.YtpklnjegimchoaaGreatDoorML2
import Derived.Test.YtpklnjegimchoaaGreatDoorML3
import Derived.Test.YtpklnjegimchoaaGreatDoorML4
namespace Go.Proofs.YtpklnjegimchoaaGreatDoor
open Go Go.X Go.Z
set_option maxRecDepth 1000000
def uniqH : List Code → Bool
  | [] => true
  | b :: r => !(r.any fun c => Nat.beq (headId c) (headId b)) && uniqH r
theorem find_uniq {h : Nat} {b : Code} : ∀ {l : List Code}, uniqH l = true → b ∈ l → headId b = h → l.find? (fun b => Nat.beq (headId b) h) = some b
  | c :: r, hu, hb, hh => by
    simp only [uniqH, Bool.and_eq_true, Bool.not_eq_true'] at hu
    rw [List.find?_cons]
    rcases List.mem_cons.1 hb with rfl | hb
    · rw [hh, Nat.beq_refl]
    · cases hc : Nat.beq (headId c) h with
      | false => exact find_uniq hu.2 hb hh
      | true =>
        have h1 := nat_ok hc
        have h2 := List.any_eq_false.1 hu.1 b hb
        rw [hh, h1, Nat.beq_refl] at h2
        exact absurd rfl h2
theorem loopAt_ok {c b : Code} {h : Nat} (hu : uniqH (loopsOf c) = true) (hb : b ∈ loopsOf c) (hh : headId b = h) : b = loopAt (some c) h := by
  unfold loopAt
  simp only [find_uniq hu hb hh]
theorem loops_codeOk {C : Cf} {f : FuncId} {b : Code} : ∀ {c : Code}, codeOk C f c = true → b ∈ loopsOf c → codeOk C f b = true
  | .seq x y, h, hb => by
    simp only [codeOk, Bool.and_eq_true] at h
    rcases List.mem_append.1 hb with hb | hb
    · exact loops_codeOk h.1 hb
    · exact loops_codeOk h.2 hb
  | .cond _ x y, h, hb => by
    simp only [codeOk, Bool.and_eq_true] at h
    rcases List.mem_append.1 hb with hb | hb
    · exact loops_codeOk h.1 hb
    · exact loops_codeOk h.2 hb
  | .block _ x, h, hb => loops_codeOk (c := x) h hb
  | .loop x, h, hb => by
    rcases List.mem_cons.1 hb with rfl | hb
    · exact h
    · exact loops_codeOk (c := x) h hb
  | .skip, _, hb => by cases hb
  | .region _ _ _, _, hb => by cases hb
  | .exit _, _, hb => by cases hb
  | .ret, _, hb => by cases hb
  | .rangeFunc .., _, hb => by cases hb
  | .scope .., _, hb => by cases hb
  | .label .., _, hb => by cases hb
  | .goto .., _, hb => by cases hb
  | .refuse .., _, hb => by cases hb
noncomputable def segT : List ((Sl × G) × (Sl × G)) := [(sPT0, sPT85), (sPT85, sPT170), (sPT170, sPT255), (sQT0, sQT85), (sQT85, sQT170), (sQT170, sQT255)]
noncomputable def segI : List ((Sl × G) × (Sl × G)) := [(sPI254, sPI127), (sPI127, sPIm1), (sQI254, sQI127), (sQI127, sQIm1)]
noncomputable def skT : Nat → Nat → Option (Nat → Sl → G → Option (Sl × G))
  | 49, 7 => some (segSk 124 segT)
  | 92, 4 => some (segSk 50 segI)
  | _, _ => none
noncomputable def cfT : Cf := { zt := [], keep := keepF, pl := plF, tmps := tmpF, use := fun f => memN f useL, prim := primL, dfr := fun _ _ => false, skip := skT, lpd := lpdF }
theorem useT_ok : allUse Tryz.prog cfT useL = true := by kernel_rfl
def uniqB : Option Code → Bool
  | some c => uniqH (loopsOf c)
  | none => false
theorem uniq49 : uniqB Tryz.f49.body = true := by kernel_rfl
theorem uniq92 : uniqB Tryz.f92.body = true := by kernel_rfl
theorem bodyOk {I : In} {w : World} {f h : Nat} {fn : Func} {c : Code} (hm : memN f useL = true) (hf : Tryz.prog.funcs[f]? = some fn) (hc : fn.body = some c) (hu : uniqB fn.body = true) {b : Code} (hb : b ∈ loopsOf c) (hh : headId b = h) : b = loopAt fn.body h ∧ CodeOk Tryz.prog I w cfL f b := by
  rw [hc] at hu ⊢
  refine ⟨loopAt_ok hu hb hh, loops_codeOk (allUse_ok useL_ok f hm fn hf c hc).2 hb, fun b' _ sk hs => by cases hs⟩
theorem segT_ok : ∀ p ∈ segT, ∃ m, m ≤ 256 ∧ rndS Tryz.prog cfL 3000 49 124 (loopAt Tryz.f49.body 7) m p.1.1 p.1.2 = some p.2 := fun p hp => by
  simp only [segT, List.mem_cons, List.not_mem_nil, or_false] at hp
  rcases hp with rfl | rfl | rfl | rfl | rfl | rfl
  · exact ⟨85, by decide, segOk_ok gPT0⟩
  · exact ⟨85, by decide, segOk_ok gPT85⟩
  · exact ⟨85, by decide, segOk_ok gPT170⟩
  · exact ⟨85, by decide, segOk_ok gQT0⟩
  · exact ⟨85, by decide, segOk_ok gQT85⟩
  · exact ⟨85, by decide, segOk_ok gQT170⟩
theorem segI_ok : ∀ p ∈ segI, ∃ m, m ≤ 256 ∧ rndS Tryz.prog cfL 3000 92 50 (loopAt Tryz.f92.body 4) m p.1.1 p.1.2 = some p.2 := fun p hp => by
  simp only [segI, List.mem_cons, List.not_mem_nil, or_false] at hp
  rcases hp with rfl | rfl | rfl | rfl
  · exact ⟨127, by decide, segOk_ok gPI254⟩
  · exact ⟨128, by decide, segOk_ok gPI127⟩
  · exact ⟨127, by decide, segOk_ok gQI254⟩
  · exact ⟨128, by decide, segOk_ok gQI127⟩
theorem cfT_ok (I : In) (w : World) : CfOk Tryz.prog I w cfT :=
  cfOk_of (fun p hp => by cases hp) mixed rfl useT_ok (fun f hm fn hf c hc b hb sk hs => by
    have hs : skT f (headId b) = some sk := hs
    generalize hh : headId b = h at hs
    unfold skT at hs
    split at hs
    · cases hs
      rw [Tryz.func49] at hf
      cases hf
      obtain ⟨rfl, h2⟩ := bodyOk (I := I) (w := w) hm Tryz.func49 hc uniq49 hb hh
      exact seg_skip (k := 3000) 124 (cfL_ok I w) h2 segT_ok
    · cases hs
      rw [Tryz.func92] at hf
      cases hf
      obtain ⟨rfl, h2⟩ := bodyOk (I := I) (w := w) hm Tryz.func92 hc uniq92 hb hh
      exact seg_skip (k := 3000) 50 (cfL_ok I w) h2 segI_ok
    · cases hs) primL_ok (fun f k hd => by cases hd)
def keyS : EV := .agg (.one (.int .u8 (.s 0 [(1, 0)])) :: ones (List.replicate 31 (.int .u8 (.k 0))))
def pointP : Nat := 52573937849532372069814888178136277301931757964231753054399601207743438775599
def pointQ : Nat := 47371584340190434397458396784519032097355506450803964851670834165077996928659
noncomputable def gL : G := ⟨(((T.e : Hp).set 2 (some (.glb 2 (ones prP)))).set 1 (some (.glb 1 (ones smallB)))).set 0 (some (.glb 0 (ones beginB))), 13, [], ⟨(T.e : Bi).set 0 (some (1, 4)), 1, .e, 0, .e, 0⟩⟩
noncomputable def bytesN (N : Nat) : Cs := [.num .u8 8 32 N]
noncomputable def runIs (r : Option (SV × G)) (x : SV) : Bool := match r with
  | some (y, _) => SV.beq y x
  | none => false
noncomputable def listP : Cs := ones ((numI 8 32 pointP).map fun x => .int .u8 (.k x))
theorem runP : runIs (callF Tryz.prog cfT (exec Tryz.prog cfT 3000) 20 [.e keyS] gL) (.e (.agg (bytesN pointP))) = true := by kernel_rfl
theorem runQ : runIs (callF Tryz.prog cfT (exec Tryz.prog cfT 3000) 198 [.e keyS, .e (.agg listP)] gL) (.tup [.agg (bytesN pointQ), .c (.int .i64 (.k 0))]) = true := by kernel_rfl
end Go.Proofs.YtpklnjegimchoaaGreatDoor
namespace Go.Proofs.YtpklnjegimchoaaGreatDoor
open Go Go.X Go.Z
set_option maxRecDepth 1000000
theorem runIs_ok {r : Option (SV × G)} {x : SV} (h : runIs r x = true) : ∃ g, r = some (x, g) := by
  unfold runIs at h
  split at h
  · next y g => exact ⟨g, by rw [SV.beq_ok h]⟩
  · cases h
noncomputable def keyOk (cs : Cs) : Bool := match fst32 cs with
  | some n => Nat.ble 1 n && Nat.ble n 4
  | none => false
noncomputable def glL (H : Hp) : Bool := (match H.get 0 with
  | some (.glb k c) => Nat.beq 0 k && Cs.beq c (ones beginB)
  | _ => false) && ((match H.get 1 with
  | some (.glb k c) => Nat.beq 1 k && Cs.beq c (ones smallB)
  | _ => false) && (match H.get 2 with
  | some (.glb k c) => Nat.beq 2 k && Cs.beq c (ones prP)
  | _ => false))
noncomputable def pPub (args : List SV) (g : G) : Option (SV × G) :=
  match args with
  | [.e (.agg k)] => bif keyOk k && glL g.H then some (.e (.agg (bytesN pointP)), g) else none
  | _ => none
noncomputable def pSh (args : List SV) (g : G) : Option (SV × G) :=
  match args with
  | [.e (.agg k), .e (.agg u)] => match fst32 u with
    | some n => bif keyOk k && (Nat.beq n pointP && glL g.H) then some (.tup [.agg (bytesN pointQ), .c (.int .i64 (.k 0))], g) else none
    | none => none
  | _ => none
def rhoL (n : Nat) : Env := ⟨fun g => if g < 13 then some ⟨g, 0, none⟩ else none, fun i => if i = 0 then some (n : Int) else none, fun _ => none, fun _ => none, fun _ => none⟩
theorem glL_ok {H : Hp} (h : glL H = true) : H.get 0 = some (.glb 0 (ones beginB)) ∧ H.get 1 = some (.glb 1 (ones smallB)) ∧ H.get 2 = some (.glb 2 (ones prP)) := by
  simp only [glL, Bool.and_eq_true] at h
  obtain ⟨h0, h1, h2⟩ := h
  refine ⟨?_, ?_, ?_⟩
  · split at h0
    · next k c hk => simp only [Bool.and_eq_true] at h0; rw [hk, ← nat_ok h0.1, Cs.beq_ok h0.2]
    · cases h0
  · split at h1
    · next k c hk => simp only [Bool.and_eq_true] at h1; rw [hk, ← nat_ok h1.1, Cs.beq_ok h1.2]
    · cases h1
  · split at h2
    · next k c hk => simp only [Bool.and_eq_true] at h2; rw [hk, ← nat_ok h2.1, Cs.beq_ok h2.2]
    · cases h2
theorem gL_get {i : Nat} {hb : HB} (h : gL.H.get i = some hb) : (i = 0 ∧ hb = .glb 0 (ones beginB)) ∨ (i = 1 ∧ hb = .glb 1 (ones smallB)) ∨ (i = 2 ∧ hb = .glb 2 (ones prP)) := by
  have h : ((((T.e : Hp).set 2 (some (.glb 2 (ones prP)))).set 1 (some (.glb 1 (ones smallB)))).set 0 (some (.glb 0 (ones beginB)))).get i = some hb := h
  rw [T.get_set] at h
  by_cases h0 : 0 = i
  · rw [if_pos h0] at h; cases h; exact .inl ⟨h0.symm, rfl⟩
  · rw [if_neg h0, T.get_set] at h
    by_cases h1 : 1 = i
    · rw [if_pos h1] at h; cases h; exact .inr (.inl ⟨h1.symm, rfl⟩)
    · rw [if_neg h1, T.get_set] at h
      by_cases h2 : 2 = i
      · rw [if_pos h2] at h; cases h; exact .inr (.inr ⟨h2.symm, rfl⟩)
      · rw [if_neg h2, T.get_e] at h; cases h
section
variable {I : In} {w0 w : World} {ρ : Env} {g : G}
theorem gokL (hg : Gok I w0 ρ g w) (hl : glL g.H = true) {n : Nat} (h1 : 1 ≤ n) (h4 : n ≤ 4) : Gok I w (rhoL n) gL w := by
  obtain ⟨g0, g1, g2⟩ := glL_ok hl
  have cl : ∀ {cs : List SC} {k : IntKind} {l : List Int}, allI k cs = some l → ∀ (i : Nat), g.H.get i = some (.glb i (ones cs)) → i < w.heap.size ∧ ∃ vs, Cs.ev (rhoL n) (ones cs) = some vs ∧ ∀ j v, vs[j]? = some v → w.cell? ((⟨i, 0, none⟩ : Addr).add j) = some v := fun ha i hi => by
    obtain ⟨ad, _, hok⟩ := hg.mem.has _ _ hi
    obtain ⟨rfl, hlt, vs, hv, hr⟩ := hok
    rw [ev_ones (allI_ok ha)] at hv
    cases hv
    exact ⟨hlt, _, ev_ones (allI_ok ha), hr⟩
  have a0 : ∃ l, allI .u8 beginB = some l := ⟨_, rfl⟩
  have a1 : ∃ l, allI .u8 smallB = some l := ⟨_, rfl⟩
  have a2 : ∃ l, allI .u64 prP = some l := ⟨_, rfl⟩
  obtain ⟨_, a0⟩ := a0
  obtain ⟨_, a1⟩ := a1
  obtain ⟨_, a2⟩ := a2
  refine ⟨⟨Kept.refl [] w, fun i hb h => ?_, fun i j hi hj ai aj h1 h2 hne ho _ _ => ?_, fun i hi ai h1 ho _ => ?_⟩, fun i hi => ?_, fun i hi => (by cases hi), ⟨fun i lo hi h => ?_, fun i hi => ?_, fun i x h => ?_, fun _ _ => rfl, fun i x h => ?_, fun _ _ => rfl⟩⟩
  · rcases gL_get h with ⟨rfl, rfl⟩ | ⟨rfl, rfl⟩ | ⟨rfl, rfl⟩
    · exact ⟨⟨0, 0, none⟩, rfl, rfl, (cl a0 0 g0).1, (cl a0 0 g0).2⟩
    · exact ⟨⟨1, 0, none⟩, rfl, rfl, (cl a1 1 g1).1, (cl a1 1 g1).2⟩
    · exact ⟨⟨2, 0, none⟩, rfl, rfl, (cl a2 2 g2).1, (cl a2 2 g2).2⟩
  · rcases gL_get h1 with ⟨rfl, rfl⟩ | ⟨rfl, rfl⟩ | ⟨rfl, rfl⟩ <;> cases ho
  · rcases gL_get h1 with ⟨rfl, rfl⟩ | ⟨rfl, rfl⟩ | ⟨rfl, rfl⟩ <;> cases ho
  · have : 13 ≤ i := hi
    simp only [rhoL]
    rw [if_neg (by omega)]
  · have h : ((T.e : Bi).set 0 (some (1, 4))).get i = some (lo, hi) := h
    rw [T.get_set] at h
    by_cases h0 : 0 = i
    · subst h0
      rw [if_pos rfl] at h
      cases h
      exact ⟨(n : Int), rfl, by omega, by omega⟩
    · rw [if_neg h0, T.get_e] at h; cases h
  · have : 1 ≤ i := hi
    simp only [rhoL]
    rw [if_neg (by omega)]
  · have h : (T.e : T LI).get i = some x := h
    rw [T.get_e] at h; cases h
  · have h : (T.e : T LD).get i = some x := h
    rw [T.get_e] at h; cases h
theorem keyOk_ok {cs : Cs} (h : keyOk cs = true) : ∃ n, fst32 cs = some n ∧ 1 ≤ n ∧ n ≤ 4 := by
  unfold keyOk at h
  split at h
  · next n hn =>
    simp only [Bool.and_eq_true] at h
    exact ⟨n, hn, Nat.le_of_ble_eq_true h.1, Nat.le_of_ble_eq_true h.2⟩
  · cases h
theorem packN_inj : ∀ {a b : List Int} {n : Nat}, a.length = b.length → packN 256 a = some n → packN 256 b = some n → a = b := fun {a b n} hl ha hb => by
  apply List.ext_getElem?
  intro i
  by_cases hi : i < a.length
  · rw [(packN_ok (w := 8) ha i hi).1, (packN_ok (w := 8) hb i (by omega)).1]
  · rw [List.getElem?_eq_none (by omega), List.getElem?_eq_none (by omega)]
theorem fst32_ev {cs : Cs} {n : Nat} (h : fst32 cs = some n) (hn : n < 256 ^ 32) (ρ : Env) : Cs.ev ρ cs = some (ints .u8 (numI 8 32 n)) := by
  obtain ⟨l, h1, h2, h3⟩ := fst32_ok h
  rw [intsOf_ok h1, packN_inj (by rw [h2, numI_length]) h3 (packN_num 0 32 n hn)]
theorem keyS_ev {n : Nat} (h1 : 1 ≤ n) (h4 : n ≤ 4) : (SV.e keyS).ev (rhoL n) = some (.agg (ints .u8 (numI 8 32 n)).toArray) := by
  have : n = 1 ∨ n = 2 ∨ n = 3 ∨ n = 4 := by omega
  rcases this with rfl | rfl | rfl | rfl <;> rfl
theorem listP_ev (ρ : Env) : Cs.ev ρ listP = some (ints .u8 (numI 8 32 pointP)) := by
  have h : ∀ l : List Int, Cs.ev ρ (ones (l.map fun x => SC.int .u8 (.k x))) = some (ints .u8 l) := fun l => by
    induction l with
    | nil => rfl
    | cons x r ih => simp only [List.map_cons, ones, Cs.ev, Seg.ev, SC.ev, Lin.ev, Option.map_some, ih]; rfl
  exact h _
theorem pPub_ok : PrimOk Tryz.prog I w0 20 pPub := by
  intro args g r g' h ρ vs w hvs hg
  unfold pPub at h
  split at h
  · next k =>
    cases hb : (keyOk k && glL g.H) with
    | false => rw [hb, cond_false] at h; cases h
    | true =>
      rw [hb, cond_true] at h
      cases h
      simp only [Bool.and_eq_true] at hb
      obtain ⟨n, hn, h1, h4⟩ := keyOk_ok hb.1
      have hk := fst32_ev hn (Nat.lt_of_le_of_lt h4 (by decide)) ρ
      simp only [evVs, SV.ev, EV.ev, hk, Option.map_some] at hvs
      cases hvs
      obtain ⟨g1, hrun⟩ := runIs_ok runP
      refine ent_of_run (cfT_ok I w) hrun (ρ0 := rhoL n) ?_ (gokL hg hb.2 h1 h4) hg fun ρ' v _ hv => hv
      simp only [evVs, keyS_ev h1 h4]
  · cases h
theorem pSh_ok : PrimOk Tryz.prog I w0 198 pSh := by
  intro args g r g' h ρ vs w hvs hg
  unfold pSh at h
  split at h
  · next k u =>
    split at h
    · next m hm =>
      cases hb : (keyOk k && (Nat.beq m pointP && glL g.H)) with
      | false => rw [hb, cond_false] at h; cases h
      | true =>
        rw [hb, cond_true] at h
        cases h
        simp only [Bool.and_eq_true] at hb
        obtain ⟨n, hn, h1, h4⟩ := keyOk_ok hb.1
        have hmp := nat_ok hb.2.1
        subst hmp
        have hk := fst32_ev hn (Nat.lt_of_le_of_lt h4 (by decide)) ρ
        have hu := fst32_ev hm (by decide) ρ
        simp only [evVs, SV.ev, EV.ev, hk, hu, Option.map_some] at hvs
        cases hvs
        obtain ⟨g1, hrun⟩ := runIs_ok runQ
        refine ent_of_run (cfT_ok I w) hrun (ρ0 := rhoL n) ?_ (gokL hg hb.2.2 h1 h4) hg fun ρ' v _ hv => hv
        have hl : (SV.e (.agg listP)).ev (rhoL n) = some (.agg (ints .u8 (numI 8 32 pointP)).toArray) := by
          simp only [SV.ev, EV.ev, listP_ev, Option.map_some]
        simp only [evVs, keyS_ev h1 h4, hl]
    · cases h
  · cases h
end
end Go.Proofs.YtpklnjegimchoaaGreatDoor
