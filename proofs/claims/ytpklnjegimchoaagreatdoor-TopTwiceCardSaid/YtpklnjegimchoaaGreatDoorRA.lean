/-
  From a run by forms to the statement's call.
-/
import Derived.Test.YtpklnjegimchoaaGreatDoorMW
import Derived.Test.YtpklnjegimchoaaGreatDoorR0
namespace Go.Proofs.YtpklnjegimchoaaGreatDoor
open Go Go.X Go.Z
set_option maxRecDepth 1000000
noncomputable def pShown (args : List SV) (g : G) : Option (SV × G) := match args with
  | [] => bif glL g.H then some (.e (.c (.bool true)), g) else none
  | _ => none
noncomputable def primX : Nat → Option (List SV → G → Option (SV × G)) := fun f => bif Nat.beq f 4 then some pShown else primW f
noncomputable def cfX : Cf := { zt := zt0, keep := keepF, pl := plF, tmps := tmpF, use := fun f => bitN useN f, prim := primX, dfr := fun f k => Nat.beq f 114 && Nat.beq k 2, skip := skipW, lpd := lpdF }
def lenS : Lin := .s 0 [(1, 1)]
def capS : Lin := .s 0 [(1, 1), (1, 2)]
noncomputable def gC (L : Lin) (lo hi : Int) : G := ⟨glH.set 12 (some (.ro [.run 0 0 L])), 13, [], ⟨(((T.e : Bi).set 2 (some (0, 9223372036854775807))).set 1 (some (lo, hi))).set 0 (some (-9223372036854775808, 9223372036854775807)), 3, (T.e : T LI).set 0 (some ⟨L, some ⟨0, [], []⟩⟩), 1, .e, 0⟩⟩
def polS : SV := .e (.c (.int .i64 (.s 0 [(1, 0)])))
noncomputable def isTrue (r : Option (SV × G)) : Bool := match r with
  | some (.e (.c (.bool true)), _) => true
  | _ => false
noncomputable def runC (lo hi : Int) (once : Bool) : Bool := isTrue (callF Tryz.prog cfX (exec Tryz.prog cfX 3000) 3 [polS, .e (.c (.slc 12 0 lenS capS)), .e (.c (.bool once))] (gC lenS lo hi))
noncomputable def run0 (x : SV) (once : Bool) : Bool := isTrue (callF Tryz.prog cfX (exec Tryz.prog cfX 3000) 3 [polS, x, .e (.c (.bool once))] (gC (.k 0) 0 0))
def sl0 : SV := .e (.c (.slc 12 0 (.k 0) (.s 0 [(1, 2)])))
def nil0 : SV := .e (.c .snil)
end Go.Proofs.YtpklnjegimchoaaGreatDoor
namespace Go.Proofs.YtpklnjegimchoaaGreatDoor
open Go Go.X Go.Z
set_option maxRecDepth 1000000
structure Base (w : World) : Prop where
  ready : Ready w
  begin_ : ∃ l, allI .u8 beginB = some l ∧ Reads w (some ⟨0, 0, none⟩) (ints .u8 l)
  small : ∃ l, allI .u8 smallB = some l ∧ Reads w (some ⟨1, 0, none⟩) (ints .u8 l)
  curve : ∃ l, allI .u64 prP = some l ∧ Reads w (some ⟨2, 0, none⟩) (ints .u64 l)
theorem Base.kept {w w' : World} (h : Base w) (hk : Kept [] w w') : Base w' where
  ready := h.ready.kept hk
  begin_ := by obtain ⟨l, h1, h2⟩ := h.begin_; exact ⟨l, h1, reads_kept h2 hk⟩
  small := by obtain ⟨l, h1, h2⟩ := h.small; exact ⟨l, h1, reads_kept h2 hk⟩
  curve := by obtain ⟨l, h1, h2⟩ := h.curve; exact ⟨l, h1, reads_kept h2 hk⟩
theorem glH_get {i : Nat} {hb : HB} (h : glH.get i = some hb) : (i = 0 ∧ hb = .glb 0 (ones beginB)) ∨ (i = 1 ∧ hb = .glb 1 (ones smallB)) ∨ (i = 2 ∧ hb = .glb 2 (ones prP)) := gL_get (i := i) h
theorem glb_ok {w : World} {ρ : Env} {g : Nat} {k : IntKind} {cs : List SC} {l : List Int} (ha : allI k cs = some l) (hR : Reads w (some ⟨g, 0, none⟩) (ints k l)) (hne : l ≠ []) : (HB.glb g (ones cs)).ok ρ w ⟨g, 0, none⟩ := by
  have hr : ∀ (j : Nat) v, (ints k l)[j]? = some v → w.cell? ((⟨g, 0, none⟩ : Addr).add j) = some v := fun j v hj => by
    obtain ⟨ad, h1, h2⟩ := hR j v hj
    cases h1
    exact h2
  refine ⟨rfl, ?_, _, ev_ones (allI_ok ha), hr⟩
  cases l with
  | nil => exact absurd rfl hne
  | cons x r =>
    have := World.block_lt_of_cell? w _ (hr 0 (.int k x) rfl)
    rw [add_block] at this
    exact this
theorem glH_has {w : World} (h : Base w) {ρ : Env} (hρ : ∀ i, i < 3 → ρ.b i = some ⟨i, 0, none⟩) {i : Nat} {hb : HB} (hg : glH.get i = some hb) : ∃ ad, ρ.b i = some ad ∧ hb.ok ρ w ad := by
  rcases glH_get hg with ⟨rfl, rfl⟩ | ⟨rfl, rfl⟩ | ⟨rfl, rfl⟩
  · obtain ⟨l, h1, h2⟩ := h.begin_
    exact ⟨_, hρ 0 (by decide), glb_ok h1 h2 (fun e => by subst e; cases h1)⟩
  · obtain ⟨l, h1, h2⟩ := h.small
    exact ⟨_, hρ 1 (by decide), glb_ok h1 h2 (fun e => by subst e; cases h1)⟩
  · obtain ⟨l, h1, h2⟩ := h.curve
    exact ⟨_, hρ 2 (by decide), glb_ok h1 h2 (fun e => by subst e; cases h1)⟩
def rho0' : Env := ⟨fun i => if i < 3 then some ⟨i, 0, none⟩ else none, fun _ => none, fun _ => none, fun _ => none, fun _ => none⟩
theorem gok0 {I : In} {w : World} (h : Base w) : Gok I w rho0' gW0 w where
  mem := {
    kept := Kept.refl [] w
    has := fun i hb hg => glH_has h (fun i hi => by simp [rho0', hi]) hg
    apart := fun i j hi hj ai aj h1 h2 hne ho _ _ => by
      rcases glH_get h1 with ⟨_, rfl⟩ | ⟨_, rfl⟩ | ⟨_, rfl⟩ <;> cases ho
    mine := fun i hi ai h1 ho _ => by
      rcases glH_get h1 with ⟨_, rfl⟩ | ⟨_, rfl⟩ | ⟨_, rfl⟩ <;> cases ho }
  fb := fun i hi => by
    have : 13 ≤ i := hi
    simp only [rho0']
    rw [if_neg (by omega)]
  fr := fun i hi => by cases hi
  env := {
    bok := fun i lo hi hg => by
      have hg : (T.e : Bi).get i = some (lo, hi) := hg
      rw [T.get_e] at hg; cases hg
    fi := fun _ _ => rfl
    lok := fun i x hg => by
      have hg : (T.e : T LI).get i = some x := hg
      rw [T.get_e] at hg; cases hg
    fl := fun _ _ => rfl
    sok := fun i x hg => by
      have hg : (T.e : T LD).get i = some x := hg
      rw [T.get_e] at hg; cases hg
    fs := fun _ _ => rfl }
def rhoS (p : Int) (ad : Addr) (xs : List Int) (c : Nat) : Env :=
  ⟨fun i => if i < 3 then some ⟨i, 0, none⟩ else if i = 12 then some ad else none, fun i => if i = 0 then some p else if i = 1 then some (xs.length : Int) else if i = 2 then some ((c : Int) - xs.length) else none, fun i => if i = 0 then some (ints .u8 xs) else none, fun _ => none, fun _ => none⟩
theorem gokS {w : World} (h : Base w) {p : Int} (hp0 : -9223372036854775808 ≤ p) (hp1 : p ≤ 9223372036854775807) {ad : Addr} {xs : List Int} {c : Nat} (hb : Bytes xs) (hR : Reads w (some ad) (ints .u8 xs)) (hc : xs.length ≤ c) (hc1 : c ≤ 9223372036854775807) {L : Lin} (hL : L.ev (rhoS p ad xs c) = some (xs.length : Int)) {lo hi : Int} (hlo : lo ≤ xs.length) (hhi : (xs.length : Int) ≤ hi) :
    Gok inS w (rhoS p ad xs c) (gC L lo hi) w := by
  have hrun : Cs.ev (rhoS p ad xs c) [.run 0 0 L] = some (ints .u8 xs) := run_allL (by simp [rhoS]) (by rw [hL, ints_length]) (ints_all _)
  have get : ∀ {i : Nat} {hb' : HB}, (gC L lo hi).H.get i = some hb' → (i = 12 ∧ hb' = .ro [.run 0 0 L]) ∨ (i ≠ 12 ∧ glH.get i = some hb') := fun {i hb'} hg => by
    have hg : (glH.set 12 (some (.ro [.run 0 0 L]))).get i = some hb' := hg
    rw [T.get_set] at hg
    by_cases h0 : 12 = i
    · rw [if_pos h0] at hg; cases hg; exact .inl ⟨h0.symm, rfl⟩
    · rw [if_neg h0] at hg; exact .inr ⟨fun e => h0 e.symm, hg⟩
  have notown : ∀ {i : Nat} {hb' : HB}, (gC L lo hi).H.get i = some hb' → hb'.own = true → False := fun hg ho => by
    rcases get hg with ⟨_, rfl⟩ | ⟨_, hg⟩
    · cases ho
    · rcases glH_get hg with ⟨_, rfl⟩ | ⟨_, rfl⟩ | ⟨_, rfl⟩ <;> cases ho
  refine ⟨⟨Kept.refl [] w, fun i hb' hg => ?_, fun i j hi hj ai aj h1 h2 hne ho _ _ => (notown h1 ho).elim, fun i hi ai h1 ho _ => (notown h1 ho).elim⟩, fun i hi => ?_, fun i hi => (by cases hi), ⟨fun i l u hg => ?_, fun i hi => ?_, fun i x hg => ?_, fun i hi => ?_, fun i x hg => ?_, fun _ _ => rfl⟩⟩
  · rcases get hg with ⟨rfl, rfl⟩ | ⟨_, hg⟩
    · refine ⟨ad, by simp [rhoS], _, hrun, fun j v hj => ?_⟩
      obtain ⟨ad', h1, h2⟩ := hR j v hj
      cases h1
      exact h2
    · exact glH_has h (fun i hi => by simp [rhoS, hi]) hg
  · have hi : 13 ≤ i := hi
    simp only [rhoS]
    rw [if_neg (by omega), if_neg (by omega)]
  · have hg : ((((T.e : Bi).set 2 (some (0, 9223372036854775807))).set 1 (some (lo, hi))).set 0 (some (-9223372036854775808, 9223372036854775807))).get i = some (l, u) := hg
    rw [T.get_set] at hg
    by_cases h0 : 0 = i
    · subst h0; rw [if_pos rfl] at hg; cases hg; exact ⟨p, rfl, hp0, hp1⟩
    · rw [if_neg h0, T.get_set] at hg
      by_cases h1 : 1 = i
      · subst h1; rw [if_pos rfl] at hg; cases hg; exact ⟨_, rfl, hlo, hhi⟩
      · rw [if_neg h1, T.get_set] at hg
        by_cases h2 : 2 = i
        · subst h2; rw [if_pos rfl] at hg; cases hg; exact ⟨_, rfl, by omega, by omega⟩
        · rw [if_neg h2, T.get_e] at hg; cases hg
  · have hi : 3 ≤ i := hi
    simp only [rhoS]
    rw [if_neg (by omega), if_neg (by omega), if_neg (by omega)]
  · have hg : ((T.e : T LI).set 0 (some ⟨L, some ⟨0, [], []⟩⟩)).get i = some x := hg
    rw [T.get_set] at hg
    by_cases h0 : 0 = i
    · subst h0
      rw [if_pos rfl] at hg
      cases hg
      refine ⟨_, rfl, by rw [ints_length]; exact hL, ints_all _, fun d hd => ?_⟩
      cases hd
      exact ⟨[], rfl, bytesV hb⟩
    · rw [if_neg h0, T.get_e] at hg; cases hg
  · have hi : 1 ≤ i := hi
    simp only [rhoS]
    rw [if_neg (by omega)]
  · have hg : (T.e : T LD).get i = some x := hg
    rw [T.get_e] at hg; cases hg
theorem enters3 : Enters Tryz.prog 3 := Go.X.enters_of Tryz.func3 (by kernel_rfl) (by kernel_rfl)
theorem pShown_ok {w0 : World} (h : Base w0) : PrimOk Tryz.prog inS w0 4 pShown := by
  intro args g r g' hp ρ vs w hvs hg
  unfold pShown at hp
  split at hp
  · cases hgl : glL g.H with
    | false => rw [hgl, cond_false] at hp; cases hp
    | true =>
      rw [hgl, cond_true] at hp
      cases hp
      cases hvs
      have hB := h.kept hg.mem.kept
      obtain ⟨g1, hrun⟩ := runIs_ok runShown
      exact ent_of_run (cfW_ok hB.ready) hrun rfl (gok0 hB) hg (fun ρ' v _ hv => hv)
  · cases hp
theorem useX_ok : allUse Tryz.prog cfX useW = true := by kernel_rfl
theorem cfX_ok {w : World} (h : Base w) : CfOk Tryz.prog inS w cfX where
  zt := zt0_ok
  mixed := mixed
  use := fun f hu fn hf c hc => by
    obtain ⟨h1, h2⟩ := allUse_ok useX_ok f (use_mem hu) fn hf c hc
    exact ⟨h1, h2, skipW_ok inS w f fn hf c hc⟩
  prim := fun f p hp => by
    have hp : (bif Nat.beq f 4 then some pShown else primW f) = some p := hp
    cases h4 : Nat.beq f 4 with
    | true =>
      rw [h4, cond_true] at hp
      cases hp
      obtain rfl := nat_ok h4
      exact pShown_ok h
    | false => rw [h4, cond_false] at hp; exact primW_ok h.ready f p hp
  dfr := fun _ _ hd => dfrW hd
theorem isTrue_ok {r : Option (SV × G)} (h : isTrue r = true) : ∃ g, r = some (.e (.c (.bool true)), g) := by
  unfold isTrue at h
  split at h
  · exact ⟨_, rfl⟩
  · cases h
theorem of_run {w : World} (h : Base w) {args : List SV} {vs : List Value} {g : G} {ρ : Env} (hrun : isTrue (callF Tryz.prog cfX (exec Tryz.prog cfX 3000) 3 args g) = true) (hvs : evVs ρ args = some vs) (hg : Gok inS w ρ g w) :
    Calls Tryz.prog 3 vs.toArray w fun e w' => e = .returned (.bool true) ∧ Kept [] w w' := by
  obtain ⟨g', hr⟩ := isTrue_ok hrun
  rcases callF_ok (cfX_ok h) (fun f n c L g xt L' g' hx hc => exec_ok (cfX_ok h) 3000 3000 (Nat.le_refl _) f n c L g xt L' g' hx hc) 3 _ _ _ _ hr ρ vs w hvs hg with ⟨_, h2⟩ | ⟨v, h1, _⟩
  · refine Calls.mono h2 ?_
    rintro e w' ⟨ρ', v, _, rfl, hv, hg'⟩
    cases hv
    exact ⟨rfl, hg'.mem.kept⟩
  · rw [enters3] at h1; cases h1
theorem run_some {lo hi : Int} {once : Bool} (hrun : runC lo hi once = true) {w : World} (h : Base w) {p : Int} (hp0 : -9223372036854775808 ≤ p) (hp1 : p ≤ 9223372036854775807) {A : Option Addr} {xs : List Int} {c : Nat} (hb : Bytes xs) (hR : Reads w A (ints .u8 xs)) (hc : xs.length ≤ c) (hc1 : c ≤ 9223372036854775807) (hlo : lo ≤ xs.length) (hhi : (xs.length : Int) ≤ hi) (hpos : 0 < xs.length) :
    Calls Tryz.prog 3 #[.int .i64 p, .slice A xs.length c, .bool once] w fun e w' => e = .returned (.bool true) ∧ Kept [] w w' := by
  obtain ⟨ad, rfl⟩ : ∃ ad, A = some ad := by
    obtain ⟨ad, h1, _⟩ := hR 0 (.int .u8 (xs.getD 0 0)) (by
      cases xs with
      | nil => simp at hpos
      | cons x r => rfl)
    exact ⟨ad, h1⟩
  have hi : (rhoS p ad xs c).i 1 = some (xs.length : Int) := rfl
  have hi2 : (rhoS p ad xs c).i 2 = some ((c : Int) - xs.length) := rfl
  have hL : lenS.ev (rhoS p ad xs c) = some (xs.length : Int) := by
    simp only [lenS, Lin.ev, evTs, hi, Option.map_some]; congr 1; omega
  have hC : capS.ev (rhoS p ad xs c) = some (c : Int) := by
    simp only [capS, Lin.ev, evTs, hi, hi2, Option.map_some]; congr 1; omega
  refine of_run h hrun (vs := [.int .i64 p, .slice (some ad) xs.length c, .bool once]) ?_ (gokS h hp0 hp1 hb hR hc hc1 hL hlo hhi)
  have e0 : (SV.ev (rhoS p ad xs c) polS) = some (.int .i64 p) := by
    have : (rhoS p ad xs c).i 0 = some p := rfl
    simp only [polS, SV.ev, EV.ev, SC.ev, Lin.ev, evTs, this, Option.map_some]; congr 2; omega
  have e1 : SV.ev (rhoS p ad xs c) (.e (.c (.slc 12 0 lenS capS))) = some (.slice (some ad) xs.length c) := by
    have hb : (rhoS p ad xs c).b 12 = some ad := rfl
    simp only [SV.ev, EV.ev, SC.ev, hb, hL, hC]
    rw [if_pos (by omega)]
    congr 2
  simp only [evVs, e0, e1]
  rfl
theorem run_none {x : SV} {once : Bool} (hrun : run0 x once = true) {w : World} (h : Base w) {p : Int} (hp0 : -9223372036854775808 ≤ p) (hp1 : p ≤ 9223372036854775807) {ad : Addr} {c : Nat} (hc1 : c ≤ 9223372036854775807) {v : Value} (hx : x.ev (rhoS p ad [] c) = some v) :
    Calls Tryz.prog 3 #[.int .i64 p, v, .bool once] w fun e w' => e = .returned (.bool true) ∧ Kept [] w w' := by
  refine of_run h hrun (vs := [.int .i64 p, v, .bool once]) (ρ := rhoS p ad [] c) ?_ (gokS h hp0 hp1 (xs := []) (fun x hx => by cases hx) (fun j v hj => by cases hj) (Nat.zero_le _) hc1 rfl (by simp) (by simp))
  have e0 : (SV.ev (rhoS p ad [] c) polS) = some (.int .i64 p) := by
    have : (rhoS p ad [] c).i 0 = some p := rfl
    simp only [polS, SV.ev, EV.ev, SC.ev, Lin.ev, evTs, this, Option.map_some]; congr 2; omega
  simp only [evVs, e0, hx]
  rfl
end Go.Proofs.YtpklnjegimchoaaGreatDoor
