/-
  A run by forms: rows and texts that are made of others; one operation; open orders; code and calls.
-/
import Derived.LoopN
import Derived.Test.YtpklnjegimchoaaGreatDoorMC
namespace Go.Z
open Go Go.X
def consN (s : Seg) (r : Cs) : Cs :=
  match s with
  | .run l o (.k (.ofNat n)) => match r with
    | .run l' o' m :: r' => bif Nat.beq l l' && Nat.beq (Nat.add o n) o' then .run l o ((Lin.k (.ofNat n)).add m) :: r' else .run l o (.k (.ofNat n)) :: r
    | r => .run l o (.k (.ofNat n)) :: r
  | .rep p n => onesN (Nat.mul (lenN p) n) p n r
  | .zs x (.k (.ofNat n)) => repS x n r
  | s => s :: r
  where
  repS (x : SC) : Nat → Cs → Cs
    | 0, r => r
    | n + 1, r => .one x :: repS x n r
  onesN (_ : Nat) (p : List SC) : Nat → Cs → Cs
    | 0, r => r
    | n + 1, r => ones p ++ onesN 0 p n r
def normC : Cs → Cs
  | [] => []
  | s :: r => consN s (normC r)
noncomputable def byteSC (e : E) : SC → Bool
  | .int .u8 x => match rng e.bi x with
    | some (lo, hi) => ile 0 lo && ile hi 255
    | none => false
  | .cell l _ => match e.li.get l with
    | some ⟨_, some d⟩ => isB d.op
    | _ => false
  | _ => false
noncomputable def byteSeg (e : E) : Seg → Bool
  | .one x => byteSC e x
  | .run l _ _ => match e.li.get l with
    | some ⟨_, some d⟩ => isB d.op
    | _ => false
  | .rep p _ => p.all (byteSC e)
  | .zs x _ => byteSC e x
  | .num k w _ _ => kq k .u8 && Nat.ble w 8
noncomputable def bytesC (e : E) (cs : Cs) : Bool := cs.all (byteSeg e)
noncomputable def lenUp (e : E) (cs : Cs) (n : Int) : Bool := match rng e.bi (Cs.len cs) with
  | some (_, hi) => ile hi n
  | none => false
noncomputable def lenIs (e : E) (cs : Cs) (n : Nat) : Bool := match eq? e.bi (Cs.len cs) (.k (.ofNat n)) with
  | some b => b
  | none => false
noncomputable def lenPos (e : E) (cs : Cs) : Bool := match lt? e.bi (.k 0) (Cs.len cs) with
  | some b => b
  | none => false
def fndG (fl fr : Option Nat) : Option Nat := match fl with
  | some j => some (Nat.succ (Nat.mul 2 j))
  | none => match fr with
    | some j => some (Nat.succ (Nat.succ (Nat.mul 2 j)))
    | none => none
def fndN (q : LD → Bool) (fl fr : Option Nat) (v : Option LI) : Option Nat := match v with
  | some ⟨_, some d⟩ => bif q d then some 0 else fndG fl fr
  | _ => fndG fl fr
noncomputable def T.findD (q : LD → Bool) (t : T LI) : Option Nat :=
  @T.rec LI (fun _ => Option Nat) none (fun _ v _ fl fr => fndN q fl fr v) t
noncomputable def findL (e : E) (d : LD) : Option Nat := T.findD (fun d' => d.beq d') e.li
noncomputable def mkL (e : E) (d : LD) (n : Lin) : Nat × E :=
  match findL e d with
  | some i => (i, e)
  | none => (e.nl, { e with li := e.li.set e.nl (some ⟨n, some d⟩), nl := Nat.succ e.nl })
noncomputable def argCs (g : G) (x : SV) : Option Cs :=
  match x with
  | .e (.c .snil) => some []
  | .e (.c (.slc b o l _)) => match zero? g.e.bi l with
    | some true => some []
    | some false => slCs g b o l
    | none => none
  | _ => none
theorem BytesV.nil : BytesV [] := ⟨[], rfl, fun x hx => by cases hx⟩
theorem BytesV.app {a b : List Value} (ha : BytesV a) (hb : BytesV b) : BytesV (a ++ b) := by
  obtain ⟨x, rfl, hx⟩ := ha
  obtain ⟨y, rfl, hy⟩ := hb
  exact ⟨x ++ y, by rw [ints_append], fun z hz => (List.mem_append.1 hz).elim (hx z) (hy z)⟩
theorem BytesV.take {a : List Value} (ha : BytesV a) (n : Nat) : BytesV (a.take n) := by
  obtain ⟨x, rfl, hx⟩ := ha
  exact ⟨x.take n, by simp [ints], fun z hz => hx z (List.mem_of_mem_take hz)⟩
theorem BytesV.drop {a : List Value} (ha : BytesV a) (n : Nat) : BytesV (a.drop n) := by
  obtain ⟨x, rfl, hx⟩ := ha
  exact ⟨x.drop n, by simp [ints], fun z hz => hx z (List.mem_of_mem_drop hz)⟩
theorem BytesV.get {a : List Value} (ha : BytesV a) {i : Nat} {v : Value} (h : a[i]? = some v) : BytesV [v] := by
  obtain ⟨x, rfl, hx⟩ := ha
  simp only [ints, List.getElem?_map] at h
  obtain ⟨z, hz, rfl⟩ := Option.map_eq_some_iff.1 h
  exact ⟨[z], rfl, fun y hy => by rw [List.mem_singleton.1 hy]; exact hx z (List.mem_of_getElem? hz)⟩
theorem BytesV.times {a : List Value} (ha : BytesV a) : ∀ n, BytesV (times n a)
  | 0 => BytesV.nil
  | n + 1 => by
    have e : Z.times (n + 1) a = a ++ Z.times n a := by simp [Z.times, List.replicate_succ]
    rw [e]; exact ha.app (ha.times n)
section
variable {P : Program} {I : In} {w0 w : World} {ρ : Env} {g : G} {e : E}
theorem byteSC_ok (hI : InOk I.l I.s) (he : Eok I ρ e) {x : SC} {v : Value} (h : byteSC e x = true) (hv : x.ev ρ = some v) : BytesV [v] := by
  unfold byteSC at h
  split at h
  · next l =>
    split at h
    · next lo hi hr =>
      obtain ⟨z, hz, h1, h2⟩ := rng_ok he.bok hr
      simp only [Bool.and_eq_true] at h
      have h3 := ile_true h.1
      have h4 := ile_true h.2
      simp only [SC.ev, hz, Option.map_some] at hv
      cases hv
      exact ⟨[z], rfl, fun y hy => by rw [List.mem_singleton.1 hy]; omega⟩
    · cases h
  · next l j =>
    split at h
    · next n d hl =>
      obtain ⟨vs, h1, _, _, h4⟩ := he.lok _ _ hl
      obtain ⟨us, _, h5⟩ := h4 d rfl
      have hb := hI.bytes _ _ _ _ h h5
      simp only [SC.ev, h1] at hv
      split at hv
      · next u hu =>
        split at hv
        · cases hv; exact hb.get hu
        · cases hv
      · cases hv
    · cases h
  · cases h
theorem byteSs_ok (hI : InOk I.l I.s) (he : Eok I ρ e) : ∀ {p : List SC} {vs : List Value}, p.all (byteSC e) = true → evSs ρ p = some vs → BytesV vs
  | [], vs, _, hv => by cases hv; exact BytesV.nil
  | x :: r, vs, h, hv => by
    simp only [List.all_cons, Bool.and_eq_true] at h
    simp only [evSs] at hv
    split at hv
    · next a b ha hb => cases hv; exact (byteSC_ok hI he h.1 ha).app (byteSs_ok hI he h.2 hb)
    · cases hv
theorem numI_bytes {w : Nat} (hw : w ≤ 8) : ∀ n x, Bytes (numI w n x)
  | 0, _ => fun x hx => by cases hx
  | n + 1, x => fun y hy => by
    rcases List.mem_cons.1 hy with rfl | hy
    · have h1 : x % 2 ^ w < 2 ^ w := Nat.mod_lt _ (Nat.two_pow_pos w)
      have h2 : 2 ^ w ≤ 2 ^ 8 := Nat.pow_le_pow_right (by decide) hw
      show 0 ≤ ((x % 2 ^ w : Nat) : Int) ∧ ((x % 2 ^ w : Nat) : Int) < 256
      omega
    · exact numI_bytes hw n _ y hy
theorem bytesC_ok (hI : InOk I.l I.s) (he : Eok I ρ e) : ∀ {cs : Cs} {vs : List Value}, bytesC e cs = true → Cs.ev ρ cs = some vs → BytesV vs
  | [], vs, _, hv => by cases hv; exact BytesV.nil
  | s :: r, vs, h, hv => by
    simp only [bytesC, List.all_cons, Bool.and_eq_true] at h
    obtain ⟨a, b, ha, hb, rfl⟩ := Cs.ev_cons hv
    refine BytesV.app ?_ (bytesC_ok hI he h.2 hb)
    have h1 := h.1
    unfold byteSeg at h1
    split at h1
    · next x =>
      simp only [Seg.ev] at ha
      obtain ⟨v, hv', rfl⟩ := Option.map_eq_some_iff.1 ha
      exact byteSC_ok hI he h1 hv'
    · next l o n =>
      split at h1
      · next n' d hl =>
        obtain ⟨xs, h2, _, _, h5⟩ := he.lok _ _ hl
        obtain ⟨us, _, h6⟩ := h5 d rfl
        have hbx := hI.bytes _ _ _ _ h1 h6
        simp only [Seg.ev, h2] at ha
        split at ha
        · next m hm hxs =>
          cases hm
          split at ha
          · cases ha; exact (hbx.drop _).take _
          · cases ha
        · cases ha
      · cases h1
    · next p n =>
      simp only [Seg.ev] at ha
      obtain ⟨v, hv', rfl⟩ := Option.map_eq_some_iff.1 ha
      exact (byteSs_ok hI he h1 hv').times n
    · next x n =>
      simp only [Seg.ev] at ha
      split at ha
      · next v m hv' hm =>
        split at ha
        · cases ha
          have := (byteSC_ok hI he h1 hv').times m.toNat
          have e : times m.toNat [v] = List.replicate m.toNat v := by simp [times]
          rwa [e] at this
        · cases ha
      · cases ha
    · next k w n x =>
      simp only [Bool.and_eq_true] at h1
      have := kq_ok h1.1
      subst this
      simp only [Seg.ev] at ha
      cases ha
      exact ⟨numI w n x, rfl, numI_bytes (Nat.le_of_ble_eq_true h1.2) n x⟩
theorem ones_rep {x : SC} : ∀ {n : Nat} {r : Cs} {v : Value} {b : List Value}, x.ev ρ = some v → Cs.ev ρ r = some b → Cs.ev ρ (consN.repS x n r) = some (List.replicate n v ++ b)
  | 0, r, v, b, hx, hr => by simpa [consN.repS] using hr
  | n + 1, r, v, b, hx, hr => by
    simp only [consN.repS, Cs.ev, Seg.ev, hx, Option.map_some, ones_rep hx hr, List.replicate_succ, List.cons_append]
    rfl
theorem onesN_rep {p : List SC} {vp : List Value} (hp : evSs ρ p = some vp) : ∀ {m n : Nat} {r : Cs} {b : List Value}, Cs.ev ρ r = some b → Cs.ev ρ (consN.onesN m p n r) = some (times n vp ++ b)
  | m, 0, r, b, hr => by simpa [consN.onesN, times] using hr
  | m, n + 1, r, b, hr => by
    simp only [consN.onesN]
    rw [Cs.ev_append (ev_ones hp) (onesN_rep hp (m := 0) (n := n) hr)]
    simp [times, List.replicate_succ]
theorem consN_ok {s : Seg} {r : Cs} {a b : List Value} (ha : s.ev ρ = some a) (hb : Cs.ev ρ r = some b) : Cs.ev ρ (consN s r) = some (a ++ b) := by
  have base : ∀ s : Seg, s.ev ρ = some a → Cs.ev ρ (s :: r) = some (a ++ b) := fun s ha => by simp only [Cs.ev, ha, hb]
  unfold consN
  split
  · next l o n =>
    split
    · next l' o' m r' =>
      cases hc : (Nat.beq l l' && Nat.beq (Nat.add o n) o') with
      | false => rw [cond_false]; exact base _ ha
      | true =>
        rw [cond_true]
        simp only [Bool.and_eq_true] at hc
        have h1 := nat_ok hc.1
        have h2 := nat_ok hc.2
        subst h1 h2
        obtain ⟨c, d, hc1, hd, rfl⟩ := Cs.ev_cons hb
        simp only [Seg.ev, Lin.ev] at ha hc1
        split at ha
        · next xs k hxs hk =>
          cases hk
          split at ha
          · next hh =>
            cases ha
            split at hc1
            · next xs' k' hxs' hk' =>
              rw [hxs] at hxs'
              cases hxs'
              split at hc1
              · next hh' =>
                cases hc1
                have hadd := Lin.ev_add (a := .k (.ofNat n)) (b := m) (rfl : (Lin.k (.ofNat n)).ev ρ = some (Int.ofNat n)) hk'
                have e1 : (Int.ofNat n : Int).toNat = n := rfl
                have e2 : (Int.ofNat n + k').toNat = n + k'.toNat := by have : (Int.ofNat n : Int) = (n : Int) := rfl; omega
                have e3 : Nat.add o n = o + n := rfl
                rw [e3] at hh'
                rw [e1] at hh
                simp only [Cs.ev, Seg.ev, hxs, hadd, hd]
                rw [if_pos ⟨by have : (Int.ofNat n : Int) = (n : Int) := rfl; omega, by omega, hh.2.2⟩, e2, e1, e3]
                simp only [← List.append_assoc]
                rw [List.take_add, List.drop_drop]
              · cases hc1
            · cases hc1
          · cases ha
        · cases ha
    · exact base _ ha
  · next p n =>
    simp only [Seg.ev] at ha
    obtain ⟨v, hv, rfl⟩ := Option.map_eq_some_iff.1 ha
    exact onesN_rep hv hb
  · next x n =>
    simp only [Seg.ev, Lin.ev] at ha
    split at ha
    · next v k hv hk =>
      cases hk
      split at ha
      · cases ha; exact ones_rep hv hb
      · cases ha
    · cases ha
  · exact base _ ha
theorem normC_ok : ∀ {cs : Cs} {vs : List Value}, Cs.ev ρ cs = some vs → Cs.ev ρ (normC cs) = some vs
  | [], vs, h => h
  | s :: r, vs, h => by
    obtain ⟨a, b, ha, hb, rfl⟩ := Cs.ev_cons h
    exact consN_ok ha (normC_ok hb)
def Env.setL (ρ : Env) (l : Nat) (vs : List Value) : Env := { ρ with l := fun j => if j = l then some vs else ρ.l j }
theorem T.get_odd {α : Type} (l : T α) (v : Option α) (r : T α) (j : Nat) : (T.n l v r).get (Nat.succ (Nat.mul 2 j)) = l.get j := by
  rw [T.get_n]
  have h1 : Nat.beq (Nat.succ (Nat.mul 2 j)) 0 = false := rfl
  have h2 : Nat.mod (Nat.succ (Nat.mul 2 j)) 2 = 1 := by show (2 * j + 1) % 2 = 1; omega
  have h3 : Nat.div (Nat.succ (Nat.mul 2 j)) 2 = j := by show (2 * j + 1) / 2 = j; omega
  rw [h1, h2, h3]
  rfl
theorem T.get_even {α : Type} (l : T α) (v : Option α) (r : T α) (j : Nat) : (T.n l v r).get (Nat.succ (Nat.succ (Nat.mul 2 j))) = r.get j := by
  rw [T.get_n]
  have h1 : Nat.beq (Nat.succ (Nat.succ (Nat.mul 2 j))) 0 = false := rfl
  have h2 : Nat.mod (Nat.succ (Nat.succ (Nat.mul 2 j))) 2 = 0 := by show (2 * j + 2) % 2 = 0; omega
  have h3 : Nat.sub (Nat.div (Nat.succ (Nat.succ (Nat.mul 2 j))) 2) 1 = j := by show (2 * j + 2) / 2 - 1 = j; omega
  rw [h1, h2, h3]
  rfl
theorem T.findD_ok {q : LD → Bool} : ∀ {t : T LI} {i : Nat}, T.findD q t = some i → ∃ m d, t.get i = some ⟨m, some d⟩ ∧ q d = true
  | .e, i, h => by cases h
  | .n l v r, i, h => by
    have e : T.findD q (.n l v r) = fndN q (T.findD q l) (T.findD q r) v := rfl
    rw [e] at h
    have go : fndG (T.findD q l) (T.findD q r) = some i → ∃ m d, (T.n l v r).get i = some ⟨m, some d⟩ ∧ q d = true := fun hg => by
      unfold fndG at hg
      split at hg
      · next j hj =>
        cases hg
        obtain ⟨m, d, h1, h2⟩ := T.findD_ok hj
        exact ⟨m, d, by rw [T.get_odd]; exact h1, h2⟩
      · split at hg
        · next j hj =>
          cases hg
          obtain ⟨m, d, h1, h2⟩ := T.findD_ok hj
          exact ⟨m, d, by rw [T.get_even]; exact h1, h2⟩
        · cases hg
    unfold fndN at h
    split at h
    · next m d =>
      cases hq : q d with
      | true =>
        rw [hq, cond_true] at h
        cases h
        exact ⟨m, d, rfl, hq⟩
      | false => rw [hq, cond_false] at h; exact go h
    · exact go h
theorem findL_ok {e : E} {d : LD} {i : Nat} (h : findL e d = some i) : ∃ m, e.li.get i = some ⟨m, some d⟩ := by
  obtain ⟨m, d', h1, h2⟩ := T.findD_ok h
  exact ⟨m, by rw [h1, LD.beq_ok h2]⟩
theorem mkL_ok (hI : InOk I.l I.s) (hg : Gok I w0 ρ g w) {d : LD} {n : Lin} {i : Nat} {e' : E} (h : mkL g.e d n = (i, e')) {vs : List Value} {us : List (List Value)} (hn : n.ev ρ = some (vs.length : Int)) (h1 : vs.all Value.oneCell' = true) (hus : evAs ρ d.as = some us) (hl : I.l d.op d.ks us vs) (h0 : d.op ≠ 0) :
    ∃ ρ', ρ.le ρ' ∧ ρ'.l i = some vs ∧ Gok I w0 ρ' ⟨g.H, g.nb, g.rs, e'⟩ w := by
  unfold mkL at h
  split at h
  · next j hj =>
    cases h
    obtain ⟨m, hm⟩ := findL_ok hj
    obtain ⟨vs', h2, _, _, h3⟩ := hg.env.lok _ _ hm
    obtain ⟨us', h4, h5⟩ := h3 d rfl
    rw [hus] at h4
    cases h4
    have := hI.one _ _ _ _ _ hl h5 h0
    subst this
    exact ⟨ρ, Env.le.refl ρ, h2, hg⟩
  · cases h
    have hfr := hg.env.fl g.e.nl (Nat.le_refl _)
    have hle : ρ.le (ρ.setL g.e.nl vs) := ⟨fun _ _ h => h, fun _ _ h => h, fun k x hk => by
      show (if k = g.e.nl then some vs else ρ.l k) = some x
      by_cases hkn : k = g.e.nl
      · subst hkn; rw [hfr] at hk; cases hk
      · rw [if_neg hkn]; exact hk, fun _ _ h => h, fun _ _ h => h⟩
    have hself : (ρ.setL g.e.nl vs).l g.e.nl = some vs := by show (if g.e.nl = g.e.nl then some vs else _) = _; rw [if_pos rfl]
    refine ⟨ρ.setL g.e.nl vs, hle, hself, ⟨hg.mem.same hle (Kept.refl [] w), hg.fb, hg.fr, ⟨hg.env.bok, hg.env.fi, fun k x hk => ?_, fun k hk => ?_, fun k x hk => ?_, hg.env.fs⟩⟩⟩
    · have hk : (g.e.li.set g.e.nl (some ⟨n, some d⟩)).get k = some x := hk
      rw [T.get_set] at hk
      by_cases hkn : g.e.nl = k
      · subst hkn
        rw [if_pos rfl] at hk
        cases hk
        exact ⟨vs, hself, Lin.ev_mono hle hn, h1, fun d' hd => by cases hd; exact ⟨us, evAs_mono hle hus, hl⟩⟩
      · rw [if_neg hkn] at hk
        obtain ⟨vs', h2, h3, h4, h5⟩ := hg.env.lok k x hk
        exact ⟨vs', hle.l k vs' h2, Lin.ev_mono hle h3, h4, fun d' hd => by
          obtain ⟨us', h6, h7⟩ := h5 d' hd
          exact ⟨us', evAs_mono hle h6, h7⟩⟩
    · have hk : Nat.succ g.e.nl ≤ k := hk
      show (if k = g.e.nl then some vs else ρ.l k) = none
      rw [if_neg (by omega)]
      exact hg.env.fl k (by omega)
    · obtain ⟨s, h2, hb, us', h3, h4⟩ := hg.env.sok k x hk
      exact ⟨s, h2, hb, us', evAs_mono hle h3, h4⟩
theorem run_all {l n : Nat} {vs : List Value} (h : ρ.l l = some vs) (hn : vs.length = n) (h1 : vs.all Value.oneCell' = true) : Cs.ev ρ [.run l 0 (.k (.ofNat n))] = some vs := by
  subst hn
  have e : (Int.ofNat vs.length : Int).toNat = vs.length := rfl
  have e2 : (Int.ofNat vs.length : Int) = (vs.length : Int) := rfl
  simp only [Cs.ev, Seg.ev, h, Lin.ev]
  rw [if_pos ⟨by omega, by omega, h1⟩, e]
  simp
theorem argCs_ok (hg : Gok I w0 ρ g w) {x : SV} {cs : Cs} {v : Value} (h : argCs g x = some cs) (hv : x.ev ρ = some v) : ∃ A l c vs, v = .slice A l c ∧ l ≤ c ∧ Cs.ev ρ cs = some vs ∧ vs.length = l ∧ Reads w A vs := by
  unfold argCs at h
  split at h
  · cases h
    cases hv
    exact ⟨none, 0, 0, [], rfl, Nat.le_refl _, rfl, rfl, fun j v hj => by simp at hj⟩
  · next b o l c =>
    obtain ⟨ad, lv, cv, had, hl, hc, hlc, rfl⟩ := slc_ev hv
    split at h
    · next hz =>
      cases h
      have := of_decide_eq_true (zero_ok hg.env.bok hl hz).symm
      have : lv = 0 := by omega
      subst this
      exact ⟨_, 0, cv, [], rfl, hlc, rfl, rfl, fun j v hj => by simp at hj⟩
    · next hz =>
      obtain ⟨ad', vs, h1, h2, h3, h4⟩ := slCs_ok hg h hl
      rw [had] at h1
      cases h1
      exact ⟨_, lv, cv, vs, rfl, hlc, h2, by omega, fun j v hj => ⟨_, rfl, h4 j v hj⟩⟩
    · cases h
  · cases h
noncomputable def findS (e : E) (d : LD) : Option Nat :=
  nrec none (fun i ih => match e.si.get i with
    | some d' => bif d.beq d' then some i else ih
    | none => ih) e.ns
noncomputable def mkS (e : E) (d : LD) : Nat × E :=
  match findS e d with
  | some i => (i, e)
  | none => (e.ns, { e with si := e.si.set e.ns (some d), ns := Nat.succ e.ns })
def Env.setS (ρ : Env) (l : Nat) (s : ByteArray) : Env := { ρ with s := fun j => if j = l then some s else ρ.s j }
theorem findS_ok {d : LD} : ∀ {n i : Nat}, nrec none (fun i ih => match e.si.get i with
    | some d' => bif d.beq d' then some i else ih
    | none => ih) n = some i → e.si.get i = some d
  | 0, i, h => by cases h
  | n + 1, i, h => by
    have e' : nrec none (fun i ih => match e.si.get i with
      | some d' => bif d.beq d' then some i else ih
      | none => ih) (n + 1) = match e.si.get n with
      | some d' => bif d.beq d' then some n else nrec none (fun i ih => match e.si.get i with
        | some d' => bif d.beq d' then some i else ih
        | none => ih) n
      | none => nrec none (fun i ih => match e.si.get i with
        | some d' => bif d.beq d' then some i else ih
        | none => ih) n := rfl
    rw [e'] at h
    split at h
    · next d' hg =>
      cases hb : d.beq d' with
      | true => rw [hb, cond_true] at h; cases h; rw [hg, LD.beq_ok hb]
      | false => rw [hb, cond_false] at h; exact findS_ok h
    · exact findS_ok h
theorem mkS_ok (hg : Gok I w0 ρ g w) {d : LD} {i : Nat} {e' : E} (h : mkS g.e d = (i, e')) {s : ByteArray} {us : List (List Value)} (hb : (s.size : Int) ≤ d.ks.headD 0) (hus : evAs ρ d.as = some us) (hs : I.s d.op d.ks us s) :
    ∃ ρ', ρ.le ρ' ∧ ρ'.s i = some s ∧ Gok I w0 ρ' ⟨g.H, g.nb, g.rs, e'⟩ w := by
  unfold mkS at h
  split at h
  · next j hj =>
    cases h
    obtain ⟨s', h2, _, us', h4, h5⟩ := hg.env.sok _ _ (findS_ok hj)
    rw [hus] at h4
    cases h4
    have := I.ok.sone _ _ _ _ _ hs h5
    subst this
    exact ⟨ρ, Env.le.refl ρ, h2, hg⟩
  · cases h
    have hfr := hg.env.fs g.e.ns (Nat.le_refl _)
    have hle : ρ.le (ρ.setS g.e.ns s) := ⟨fun _ _ h => h, fun _ _ h => h, fun _ _ h => h, fun k x hk => by
      show (if k = g.e.ns then some s else ρ.s k) = some x
      by_cases hkn : k = g.e.ns
      · subst hkn; rw [hfr] at hk; cases hk
      · rw [if_neg hkn]; exact hk, fun _ _ h => h⟩
    have hself : (ρ.setS g.e.ns s).s g.e.ns = some s := by show (if g.e.ns = g.e.ns then some s else _) = _; rw [if_pos rfl]
    refine ⟨ρ.setS g.e.ns s, hle, hself, ⟨hg.mem.same hle (Kept.refl [] w), hg.fb, hg.fr, ⟨hg.env.bok, hg.env.fi, fun k x hk => ?_, hg.env.fl, fun k x hk => ?_, fun k hk => ?_⟩⟩⟩
    · obtain ⟨vs', h2, h3, h4, h5⟩ := hg.env.lok k x hk
      exact ⟨vs', h2, Lin.ev_mono hle h3, h4, fun d' hd => by
        obtain ⟨us', h6, h7⟩ := h5 d' hd
        exact ⟨us', evAs_mono hle h6, h7⟩⟩
    · have hk : (g.e.si.set g.e.ns (some d)).get k = some x := hk
      rw [T.get_set] at hk
      by_cases hkn : g.e.ns = k
      · subst hkn
        rw [if_pos rfl] at hk
        cases hk
        exact ⟨s, hself, hb, us, evAs_mono hle hus, hs⟩
      · rw [if_neg hkn] at hk
        obtain ⟨s', h2, hb', us', h3, h4⟩ := hg.env.sok k x hk
        exact ⟨s', hle.s k s' h2, hb', us', evAs_mono hle h3, h4⟩
    · have hk : Nat.succ g.e.ns ≤ k := hk
      show (if k = g.e.ns then some s else ρ.s k) = none
      rw [if_neg (by omega)]
      exact hg.env.fs k (by omega)
noncomputable def mkR (e : E) (i : Nat) (n : Int) : Option (Nat × Lin × E) :=
  match findL e ⟨7, [], [[.one (.sym i)]]⟩ with
  | some j => match e.li.get j with
    | some x => some (j, x.n, e)
    | none => none
  | none => some (e.nl, .s 0 [(1, e.ni)], { e with bi := e.bi.set e.ni (some (0, n)), ni := Nat.succ e.ni, li := e.li.set e.nl (some ⟨.s 0 [(1, e.ni)], some ⟨7, [], [[.one (.sym i)]]⟩⟩), nl := Nat.succ e.nl })
theorem strB_one (s : ByteArray) : (ints .u8 (strB s)).all Value.oneCell' = true := List.all_eq_true.2 fun v hv => by
  obtain ⟨x, _, rfl⟩ := List.mem_map.1 hv
  rfl
theorem strB_length (s : ByteArray) : (ints .u8 (strB s)).length = s.size := by simp [strB, ints]
theorem mkR_ok (hg : Gok I w0 ρ g w) {i j : Nat} {n : Int} {m : Lin} {e' : E} (h : mkR g.e i n = some (j, m, e')) {s : ByteArray} (hs : ρ.s i = some s) (hn : (s.size : Int) ≤ n) :
    ∃ ρ', ρ.le ρ' ∧ ρ'.l j = some (ints .u8 (strB s)) ∧ m.ev ρ' = some (s.size : Int) ∧ Gok I w0 ρ' ⟨g.H, g.nb, g.rs, e'⟩ w := by
  have hus : evAs ρ [[Seg.one (.sym i)]] = some [[.string s]] := by simp only [evAs, Cs.ev, Seg.ev, SC.ev, hs, Option.map_some]; rfl
  unfold mkR at h
  split at h
  · next j' hj =>
    split at h
    · next x hx =>
      cases h
      obtain ⟨m', hm⟩ := findL_ok hj
      rw [hx] at hm
      cases hm
      obtain ⟨vs', h2, h6, _, h3⟩ := hg.env.lok _ _ hx
      obtain ⟨us', h4, h5⟩ := h3 _ rfl
      rw [hus] at h4
      cases h4
      have := I.ok.one _ _ _ _ _ (I.ok.row _ s) h5 (by decide)
      subst this
      rw [strB_length] at h6
      exact ⟨ρ, Env.le.refl ρ, h2, h6, hg⟩
    · cases h
  · cases h
    have hfl := hg.env.fl g.e.nl (Nat.le_refl _)
    have hfi := hg.env.fi g.e.ni (Nat.le_refl _)
    let ρ' := ρ.setIL g.e.ni g.e.nl s.size (ints .u8 (strB s))
    have hle : ρ.le ρ' := ⟨fun _ _ h => h, fun k y hk => by
        show (if k = g.e.ni then some _ else ρ.i k) = some y
        by_cases he : k = g.e.ni
        · subst he; rw [hfi] at hk; cases hk
        · rw [if_neg he]; exact hk, fun k y hk => by
        show (if k = g.e.nl then some _ else ρ.l k) = some y
        by_cases he : k = g.e.nl
        · subst he; rw [hfl] at hk; cases hk
        · rw [if_neg he]; exact hk, fun _ _ h => h, fun _ _ h => h⟩
    have hi' : ρ'.i g.e.ni = some (s.size : Int) := by simp [ρ', Env.setIL]
    have hl' : ρ'.l g.e.nl = some (ints .u8 (strB s)) := by simp [ρ', Env.setIL]
    have hm : (Lin.s 0 [(1, g.e.ni)]).ev ρ' = some (s.size : Int) := by
      simp only [Lin.ev, evTs, hi', Option.map_some]
      congr 1
      omega
    refine ⟨ρ', hle, hl', hm, ⟨hg.mem.same hle (Kept.refl [] w), hg.fb, hg.fr, ?_⟩⟩
    refine ⟨fun i lo hi hgt => ?_, fun i hi => ?_, fun i y hgt => ?_, fun i hi => ?_, fun i y hgt => ?_, hg.env.fs⟩
    · have hgt : (g.e.bi.set g.e.ni (some (0, n))).get i = some (lo, hi) := hgt
      rw [T.get_set] at hgt
      by_cases he : g.e.ni = i
      · rw [if_pos he] at hgt
        cases hgt
        subst he
        exact ⟨_, hi', by omega, hn⟩
      · rw [if_neg he] at hgt
        obtain ⟨y, h1, h2⟩ := hg.env.bok i lo hi hgt
        exact ⟨y, hle.i i y h1, h2⟩
    · have hi : g.e.ni + 1 ≤ i := hi
      show (if i = g.e.ni then some _ else ρ.i i) = none
      rw [if_neg (by omega)]
      exact hg.env.fi i (by omega)
    · have hgt : (g.e.li.set g.e.nl (some ⟨.s 0 [(1, g.e.ni)], some ⟨7, [], [[.one (.sym _)]]⟩⟩)).get i = some y := hgt
      rw [T.get_set] at hgt
      by_cases he : g.e.nl = i
      · rw [if_pos he] at hgt
        cases hgt
        subst he
        exact ⟨_, hl', by rw [strB_length]; exact hm, strB_one s, fun d hd => by cases hd; exact ⟨_, evAs_mono hle hus, I.ok.row _ s⟩⟩
      · rw [if_neg he] at hgt
        obtain ⟨us, h1, h2, h3, h4⟩ := hg.env.lok i y hgt
        exact ⟨us, hle.l i us h1, Lin.ev_mono hle h2, h3, fun d hd => by obtain ⟨us, h5, h6⟩ := h4 d hd; exact ⟨us, evAs_mono hle h5, h6⟩⟩
    · have hi : g.e.nl + 1 ≤ i := hi
      show (if i = g.e.nl then some _ else ρ.l i) = none
      rw [if_neg (by omega)]
      exact hg.env.fl i (by omega)
    · obtain ⟨s', h1, hb', us, h2, h3⟩ := hg.env.sok i y hgt
      exact ⟨s', h1, hb', us, evAs_mono hle h2, h3⟩
end
end Go.Z
namespace Go.Z
open Go Go.X
section
variable {P : Program} {I : In} {w0 w : World} {ρ : Env} {g : G} {n : Nat} {L : Sl} {a : Act} {o : Oper} {zt : Zt}
def ofB : List UInt8 → Cs
  | [] => []
  | b :: r => .one (.int .u8 (.k (.ofNat b.toNat))) :: ofB r
theorem ofB_ok : ∀ (l : List UInt8), Cs.ev ρ (ofB l) = some (l.map fun b => Value.int .u8 b.toNat)
  | [] => rfl
  | b :: r => by simp only [ofB, Cs.ev, Seg.ev, SC.ev, Lin.ev, Option.map_some, ofB_ok r]; rfl
noncomputable def fText (P : Program) (g : G) (L : Sl) (nid : Option Nat) (t t' : TypeId) (x : Operand) : Option Res :=
  match P.underlying t, P.underlying t' with
  | some .string, some (.slice e) => match P.underlying e, evS L x, newId g nid with
    | some (.int .u8), some (.e (.c (.str s))), some (id, nb, rs) => bif Nat.blt s.size 9223372036854775807 then some ⟨some (.e (.c (.slc id 0 (.k (.ofNat s.size)) ((Lin.k (.ofNat s.size)).add (slackL g.e.ni 1))))), g.H.set id (some (.frz (ofB s.data.toList) e)), nb, rs, g.e.junk 1⟩ else none
    | some (.int .u8), some (.e (.c (.sym i))), some (id, nb, rs) => match g.e.si.get i with
      | some d => bif ile (d.ks.headD 0) 1000000000 then (match mkR g.e i (d.ks.headD 0) with
        | some (j, m, e1) => some ⟨some (.e (.c (.slc id 0 m (m.add (slackL e1.ni 1))))), g.H.set id (some (.frz [.run j 0 m] e)), nb, rs, e1.junk 1⟩
        | none => none) else none
      | none => none
    | _, _, _ => none
  | some (.slice e), some (.slice _) => bif Nat.beq t t' then (match P.underlying e, evS L x with
    | some (.int .u8), some (.e (.c (.slc b k l c))) => match g.H.get b with
      | some (.cells cs ty) => some ⟨some (.e (.c (.slc b k l c))), g.H.set b (some (.frz cs ty)), g.nb, g.rs, g.e⟩
      | _ => none
    | _, _ => none) else none
  | some (.slice e), some .string => match P.underlying e, slc P t, evS L x with
    | some (.int .u8), some (_, 1, _), some (.e (.c (.slc b k l _))) => match slCs g b k l with
      | some cs => match intsOf .u8 cs with
        | some xs => some ⟨some (.e (.c (.str (bstr xs)))), g.H, g.nb, g.rs, g.e⟩
        | none => match normC cs with
          | [.run i o m] => bif bytesC g.e [.run i o m] then some ⟨some (.e (.c (.tr i o m))), g.H, g.nb, g.rs, g.e⟩ else none
          | _ => none
      | none => none
    | some (.int .u8), some (_, 1, _), some (.e (.c .snil)) => some ⟨some (.e (.c (.str (bstr [])))), g.H, g.nb, g.rs, g.e⟩
    | _, _, _ => none
  | _, _ => none
theorem text_run {t t' e : TypeId} {y : Operand} {s : ByteArray} (ht : P.underlying t = some .string) (ht' : P.underlying t' = some (.slice e)) (he : P.underlying e = some (.int .u8)) (ho : o.op = .convert t t' y) (hay : a.eval y = .string s) (hs' : s.size < 9223372036854775807) :
    ∃ (cap : Nat) (w' : World), s.size ≤ cap ∧ cap ≤ 9223372036854775807 ∧ (execOp a.eval o).run P w = .ok (.value (.slice (some ⟨w.heap.size, 0, none⟩) s.size cap)) w' ∧ w'.heap[w.heap.size]? = some (.cells (ints .u8 (strB s) ++ List.replicate (cap - s.size) (Value.int .u8 0)).toArray e (cap, cap + 1)) ∧ Kept [] w w' := by
  obtain ⟨cap, hcapdef⟩ : ∃ cap, cap = (Question.appendCap s.size 0 e).cut (w.tape w.drawn (.appendCap s.size 0 e)) := ⟨_, rfl⟩
  have hcap : s.size ≤ cap := by rw [hcapdef]; simp only [Question.cut]; omega
  have hcap2 : cap ≤ 9223372036854775807 := by
    rw [hcapdef]
    have hlt := Nat.mod_lt (w.tape w.drawn (.appendCap s.size 0 e)) (show 0 < 2 ^ 63 - s.size by omega)
    simp only [Question.cut]; omega
  obtain ⟨cs, hcsdef⟩ : ∃ cs : List Value, cs = ints .u8 (strB s) ++ List.replicate (cap - s.size) (.int .u8 0) := ⟨_, rfl⟩
  have hcs : (s.data.map fun b => Value.int .u8 b.toNat) ++ Array.replicate (cap - s.size) (.int .u8 0) = cs.toArray := by
    rw [← Array.toList_inj, hcsdef]; simp [ints, strB]
  have hlen : cs.length = cap := by rw [hcsdef]; simp [ints, strB]; omega
  have hlk : (w.drew.alloc (.cells cs.toArray e)).heap[w.heap.size]? = some (.cells cs.toArray e) := heap_alloc_new w.drew _
  have hr : (execOp a.eval o).run P w = .ok (.value (.slice (some ⟨w.heap.size, 0, none⟩) s.size cap)) ((w.drew.alloc (.cells cs.toArray e)).freeze ⟨w.heap.size, cap, none⟩ 1) := by
    simp only [execOp, ho, hay, convert]
    simp only [Sem.run_bind, run_underlying ht, run_underlying ht', run_underlying he, Result.andThen_ok, Conv.stringToBytes, run_choose, Question.forced, Bool.false_eq_true, if_false]
    simp only [← hcapdef, hcs, newRow, Sem.run_bind, run_newObj, Sem.run_pure, Result.andThen_ok, markStringish, run_shape]
    have hsh : World.shape? { heap := w.heap.push (.cells cs.toArray e), tape := w.tape, drawn := w.drawn + 1, os := w.os, output := w.output } w.heap.size = some (e, cap) := by
      simp [World.shape?, hlen]
    simp only [hsh, run_freeze, Result.andThen_ok]
    rfl
  obtain ⟨w', hw'⟩ : ∃ w', w' = (w.drew.alloc (.cells cs.toArray e)).freeze ⟨w.heap.size, cap, none⟩ 1 := ⟨_, rfl⟩
  rw [← hw'] at hr
  have hfr : w'.heap[w.heap.size]? = some (.cells cs.toArray e (cap, cap + 1)) := by
    rw [hw']
    simp only [World.freeze, Nat.one_ne_zero, if_false, Array.getElem?_modify, hlk]
    rfl
  have hkept : Kept [] w w' := by
    rw [hw']
    refine ⟨by simp only [World.freeze, Nat.one_ne_zero, if_false]; rfl, by simp only [World.freeze, Nat.one_ne_zero, if_false]; rfl, by simp only [World.freeze, Nat.one_ne_zero, if_false]; rfl, by have := (kept_alloc w.drew (.cells cs.toArray e)).size; simp only [World.freeze, Nat.one_ne_zero, if_false, Array.size_modify]; exact this, fun k hk _ => ?_⟩
    simp only [World.freeze, Nat.one_ne_zero, if_false]
    rw [Array.getElem?_modify, if_neg (by show w.heap.size ≠ k; omega)]
    exact heap_alloc_old w.drew _ hk
  exact ⟨cap, w', hcap, hcap2, hr, by rw [hfr, hcsdef], hkept⟩
theorem ofB_strB (s : ByteArray) : Cs.ev ρ (ofB s.data.toList) = some (ints .u8 (strB s)) := by
  rw [ofB_ok, strB, ints, List.map_map]; rfl
theorem fText_ok (hf : Frm ρ n L a) (h : Gok I w0 ρ g w) {nid : Option Nat} {t t' : TypeId} {y : Operand} {x : Res} (ho : o.op = .convert t t' y) (hx : fText P g L nid t t' y = some x) : EfOk P I w0 ρ a w o x := by
  unfold fText at hx
  split at hx
  · next e ht ht' =>
    split at hx
    · next s id nb rs he hy hn =>
      cases hs : Nat.blt s.size 9223372036854775807 with
      | false => rw [hs, cond_false] at hx; cases hx
      | true =>
        rw [hs, cond_true] at hx
        cases hx
        have hs' := blt_iff.1 hs
        obtain ⟨vy, hvy, hay⟩ := evA hf hy
        cases hvy
        obtain ⟨cap, w', hcap, hcap2, hr, hfr, hkept⟩ := text_run (w := w) ht ht' he ho hay hs'
        obtain ⟨hle1, hg1, hs1, hj1⟩ := h.junk (cap - s.size) 1 (by omega) (List.replicate (cap - s.size) (.int .u8 0)) (by simp) (fun v hv => by rw [List.eq_of_mem_replicate hv]; rfl)
        obtain ⟨hle2, hg2⟩ := hg1.new (nid := nid) (id := id) (nb' := nb) (rs' := rs) hn hkept (Nat.le_refl _) (hb := .frz (ofB s.data.toList) e) (fun ρ' hle => ⟨w.heap.size, _, List.replicate (cap - s.size) (.int .u8 0), (cap, cap + 1), rfl, ofB_strB s, hfr⟩)
        refine ⟨w', _, hle1.trans hle2, hg2, .inl ⟨_, .slice (some ⟨w.heap.size, 0, none⟩) s.size cap, rfl, ?_, hr⟩⟩
        have h2 := Lin.ev_add (a := .k (.ofNat s.size)) rfl (Lin.ev_mono hle2 hs1)
        have e1 : (Int.ofNat s.size : Int) = (s.size : Int) := rfl
        simp only [SV.ev, EV.ev, SC.ev, Env.setB_self, h2]
        simp only [Lin.ev]
        rw [if_pos (by omega)]
        congr 2
        omega
    · next i id nb rs he hy hn =>
      split at hx
      · next d hd =>
        cases hs : ile (d.ks.headD 0) 1000000000 with
        | false => rw [hs, cond_false] at hx; cases hx
        | true =>
          rw [hs, cond_true] at hx
          have hs' := ile_true hs
          split at hx
          · next j m e1 hmk =>
            cases hx
            obtain ⟨vy, hvy, hay⟩ := evA hf hy
            obtain ⟨s, hsi, hsb, _⟩ := h.env.sok _ _ hd
            simp only [SV.ev, EV.ev, SC.ev, hsi, Option.map_some] at hvy
            cases hvy
            obtain ⟨ρ0, hle0, hl0, hm0, hg0⟩ := mkR_ok h hmk hsi hsb
            obtain ⟨cap, w', hcap, hcap2, hr, hfr, hkept⟩ := text_run (w := w) ht ht' he ho hay (by omega)
            obtain ⟨hle1, hg1, hs1, hj1⟩ := hg0.junk (cap - s.size) 1 (by omega) (List.replicate (cap - s.size) (.int .u8 0)) (by simp) (fun v hv => by rw [List.eq_of_mem_replicate hv]; rfl)
            have hrun : Cs.ev ρ0 [.run j 0 m] = some (ints .u8 (strB s)) := by
              have e1 : Seg.ev ρ0 (.run j 0 m) = some (ints .u8 (strB s)) := by
                simp only [Seg.ev, hl0, hm0]
                rw [if_pos ⟨by omega, by rw [strB_length]; omega, strB_one s⟩, List.drop_zero, List.take_of_length_le (by rw [strB_length]; omega)]
              simp only [Cs.ev, e1, List.append_nil]
            obtain ⟨hle2, hg2⟩ := hg1.new (nid := nid) (id := id) (nb' := nb) (rs' := rs) hn hkept (Nat.le_refl _) (hb := .frz [.run j 0 m] e) (fun ρ' hle => ⟨w.heap.size, _, List.replicate (cap - s.size) (.int .u8 0), (cap, cap + 1), rfl, Cs.ev_mono (hle1.trans hle) hrun, hfr⟩)
            refine ⟨w', _, hle0.trans (hle1.trans hle2), hg2, .inl ⟨_, .slice (some ⟨w.heap.size, 0, none⟩) s.size cap, rfl, ?_, hr⟩⟩
            have hm2 := Lin.ev_mono (hle1.trans hle2) hm0
            have h2 := Lin.ev_add hm2 (Lin.ev_mono hle2 hs1)
            simp only [SV.ev, EV.ev, SC.ev, Env.setB_self, h2, hm2]
            rw [if_pos (by omega)]
            congr 2
            omega
          · cases hx
      · cases hx
    · cases hx
  · next e e' ht ht' =>
    cases htt : Nat.beq t t' with
    | false => rw [htt, cond_false] at hx; cases hx
    | true =>
      rw [htt, cond_true] at hx
      have := Nat.eq_of_beq_eq_true htt
      subst this
      rw [ht] at ht'
      cases ht'
      split at hx
      · next b k l c he hy =>
        split at hx
        · next cs ty hg =>
          cases hx
          obtain ⟨vy, hvy, hay⟩ := evA hf hy
          obtain ⟨ad, lv, cv, had, hl, hc, hlc, rfl⟩ := slc_ev hvy
          obtain ⟨ad', had', kk, vs, rfl, hvs, hblk⟩ := h.mem.has b _ hg
          rw [had] at had'
          cases had'
          have hsh : w.shape? kk = some (ty, vs.length) := by simp [World.shape?, hblk]
          have hr : (execOp a.eval o).run P w = .ok (.value (.slice (some ((⟨kk, 0, none⟩ : Addr).add k)) lv cv)) (w.freeze ⟨kk, vs.length, none⟩ 1) := by
            simp only [execOp, ho, hay, convert, add_lit]
            simp [run_underlying ht, run_underlying he, markStringish, hsh]
          obtain ⟨w', hw'⟩ : ∃ w', w' = w.freeze ⟨kk, vs.length, none⟩ 1 := ⟨_, rfl⟩
          rw [← hw'] at hr
          have hfr : ∃ fz', w'.heap[kk]? = some (.cells vs.toArray ty fz') := by
            rw [hw']
            simp only [World.freeze, Nat.one_ne_zero, if_false, Array.getElem?_modify, hblk]
            exact ⟨_, rfl⟩
          obtain ⟨fz', hfz⟩ := hfr
          have hkept : Kept [kk] w w' := by
            rw [hw']
            refine ⟨by simp only [World.freeze, Nat.one_ne_zero, if_false], by simp only [World.freeze, Nat.one_ne_zero, if_false], by simp only [World.freeze, Nat.one_ne_zero, if_false], by simp only [World.freeze, Nat.one_ne_zero, if_false, Array.size_modify]; exact Nat.le_refl _, fun q hq hx => ?_⟩
            simp only [World.freeze, Nat.one_ne_zero, if_false]
            rw [Array.getElem?_modify, if_neg (fun e => hx (by simp [← e]))]
          exact ⟨w', ρ, Env.le.refl ρ, h.wrt hg rfl had hkept (hb' := .frz cs ty) ⟨kk, vs, [], fz', rfl, hvs, by simpa using hfz⟩, .inl ⟨_, _, rfl, hvy, hr⟩⟩
        · cases hx
      · cases hx
  · next e ht ht' =>
    split at hx
    · next e' by_ b k l c he ha hy =>
      obtain ⟨vy, hvy, hay⟩ := evA hf hy
      obtain ⟨ad, lv, cv, had, hl, hc, hlc, rfl⟩ := slc_ev hvy
      split at hx
      · next cs hcs =>
        split at hx
        · next xs hxs =>
          cases hx
          obtain ⟨ad', vn, had', hvn, hnl, hrd⟩ := slCs_ok h hcs hl
          rw [had] at had'
          cases had'
          rw [intsOf_ok hxs] at hvn
          cases hvn
          rw [ints_length] at hnl
          have hload := run_loadCells_list (P := P) (w := w) (ad.add k) (ints .u8 xs) hrd
          rw [ints_length, show xs.length = lv from by omega] at hload
          refine ⟨w, ρ, Env.le.refl ρ, h, .inl ⟨_, .string (bstr xs), rfl, rfl, ?_⟩⟩
          have hb := run_bytesToString (P := P) w (ad.add k) lv cv xs hload
          rw [bstr_fold] at hb
          simp only [execOp, ho, hay, convert]
          simp [run_underlying ht, run_underlying ht', run_underlying he, hb]
        · split at hx
          · next i oo m hno =>
            cases hbc : bytesC g.e [.run i oo m] with
            | false => rw [hbc, cond_false] at hx; cases hx
            | true =>
              rw [hbc, cond_true] at hx
              cases hx
              obtain ⟨ad', vn, had', hvn, hnl, hrd⟩ := slCs_ok h hcs hl
              rw [had] at had'
              cases had'
              have hno2 := normC_ok hvn
              rw [hno] at hno2
              obtain ⟨xs, rfl, _⟩ := bytesC_ok I.ok h.env hbc hno2
              rw [ints_length] at hnl
              have hload := run_loadCells_list (P := P) (w := w) (ad.add k) (ints .u8 xs) hrd
              rw [ints_length, show xs.length = lv from by omega] at hload
              refine ⟨w, ρ, Env.le.refl ρ, h, .inl ⟨_, .string (bstr xs), rfl, ?_, ?_⟩⟩
              · simp only [Cs.ev, Seg.ev] at hno2
                simp only [SV.ev, EV.ev, SC.ev]
                split at hno2
                · next p q hp hq =>
                  cases hq
                  split at hp
                  · next ys mv hys hmv =>
                    split at hp
                    · next hc =>
                      cases hp
                      rw [List.append_nil, Option.some.injEq] at hno2
                      rw [if_pos ⟨hc.1, hc.2.1⟩, hno2, intsV_ints]
                    · cases hp
                  · cases hp
                · cases hno2
              · have hb := run_bytesToString (P := P) w (ad.add k) lv cv xs hload
                rw [bstr_fold] at hb
                simp only [execOp, ho, hay, convert]
                simp [run_underlying ht, run_underlying ht', run_underlying he, hb]
          · cases hx
      · cases hx
    · next e' by_ he ha hy =>
      cases hx
      obtain ⟨vy, hvy, hay⟩ := evA hf hy
      cases hvy
      refine ⟨w, ρ, Env.le.refl ρ, h, .inl ⟨_, .string (bstr []), rfl, rfl, ?_⟩⟩
      have hb : (Conv.bytesToString (.slice none 0 0)).run P w = .ok (.string (bstr [])) w := rfl
      simp only [execOp, ho, hay, convert]
      simp [run_underlying ht, run_underlying ht', run_underlying he, hb]
    · cases hx
  · cases hx
noncomputable def txtUp (g : G) : SC → Option Int
  | .str s => some (.ofNat s.size)
  | .sym i => match g.e.si.get i with
    | some d => some (d.ks.headD 0)
    | none => none
  | .tr _ _ m => match rng g.e.bi m with
    | some (_, hi) => some hi
    | none => none
  | _ => none
theorem txtUp_ok (h : Gok I w0 ρ g w) {u : SC} {k : Int} {v : Value} (hu : txtUp g u = some k) (hv : u.ev ρ = some v) : ∃ s, v = .string s ∧ (s.size : Int) ≤ k := by
  unfold txtUp at hu
  split at hu
  · cases hu; cases hv; exact ⟨_, rfl, Int.le_refl _⟩
  · split at hu
    · next d hd =>
      cases hu
      obtain ⟨s, h1, h2, _⟩ := h.env.sok _ _ hd
      simp only [SC.ev, h1, Option.map_some] at hv
      cases hv
      exact ⟨s, rfl, h2⟩
    · cases hu
  · split at hu
    · next lo hi hr =>
      cases hu
      obtain ⟨z, hz, h1, h2⟩ := rng_ok h.env.bok hr
      simp only [SC.ev] at hv
      split at hv
      · next xs m hxs hm =>
        rw [hz] at hm
        cases hm
        split at hv
        · next hc =>
          split at hv
          · next b hb =>
            cases hv
            have := congrArg List.length (intsV_ok hb)
            rw [ints_length, List.length_take, List.length_drop] at this
            exact ⟨_, rfl, by rw [bstr_size]; omega⟩
          · cases hv
        · cases hv
      · cases hv
    · cases hu
  · cases hu
noncomputable def fCat (g : G) (L : Sl) (x y : Operand) : Option Res :=
  match evS L x, evS L y with
  | some (.e (.c u)), some (.e (.c v)) => match txtUp g u, txtUp g v with
    | some p, some q => bif ile (Int.add p q) 1000000000 then (match mkS g.e ⟨13, [Int.add p q], [[.one u], [.one v]]⟩ with
      | (i, e) => some ⟨some (.e (.c (.sym i))), g.H, g.nb, g.rs, e⟩) else none
    | _, _ => none
  | _, _ => none
noncomputable def fBin (g : G) (L : Sl) (op : BinOp) (x y : Operand) : Option Res :=
  match op with
  | .add => fCat g L x y
  | _ => none
theorem fBin_ok (hf : Frm ρ n L a) (h : Gok I w0 ρ g w) {op : BinOp} {t t' : TypeId} {x y : Operand} {r : Res} (ho : o.op = .binOp op t x y t') (hx : fBin g L op x y = some r) : EfOk P I w0 ρ a w o r := by
  unfold fBin at hx
  split at hx
  · unfold fCat at hx
    split at hx
    · next u v hu hv =>
      split at hx
      · next p q hp hq =>
        cases hs : ile (Int.add p q) 1000000000 with
        | false => rw [hs, cond_false] at hx; cases hx
        | true =>
          rw [hs, cond_true] at hx
          have hs' := ile_true hs
          have e1 : Int.add p q = p + q := rfl
          rw [e1] at hs'
          split at hx
          next i e' hmk =>
          cases hx
          obtain ⟨uv, huv, hau⟩ := evA hf hu
          obtain ⟨vv, hvv, hav⟩ := evA hf hv
          simp only [SV.ev, EV.ev] at huv hvv
          obtain ⟨s1, rfl, hs1⟩ := txtUp_ok h hp huv
          obtain ⟨s2, rfl, hs2⟩ := txtUp_ok h hq hvv
          obtain ⟨ρ', hle, hsi, hg'⟩ := mkS_ok h hmk (s := s1 ++ s2) (us := [[.string s1], [.string s2]]) (by
            show (((s1 ++ s2).size : Nat) : Int) ≤ Int.add p q
            rw [ByteArray.size_append, e1]; omega) (by simp only [evAs, Cs.ev, Seg.ev, huv, hvv, Option.map_some]; rfl) (I.ok.cat _ _ _)
          refine ⟨w, ρ', hle, hg', .inl ⟨_, .string (s1 ++ s2), rfl, by simp only [SV.ev, EV.ev, SC.ev, hsi, Option.map_some], ?_⟩⟩
          have := run_string_add_sum (P := P) (w := w) s1 s2 (by omega)
          simp [execOp, ho, hau, hav, eqGuard, binOp_string_add, this]
      · cases hx
    · cases hx
  · cases hx
noncomputable def ef0 (P : Program) (zt : Zt) (g : G) (L : Sl) (nid : Option Nat) (o : Op) : Option Res :=
  match o with
  | .alloc t => fAlloc P zt g nid t
  | .box t x => fBox g L nid t x
  | .makeMap _ r => fMap g nid r
  | .store t x y => fStore P g L t x y
  | .makeSlice t l c => fMake P zt g L nid t l c
  | .buildSlice t len ps => fLit P zt g L nid t len ps.toList
  | .mapUpdate t m k v => fUpd P g L t m k v
  | .convert t t' x => fText P g L nid t t' x
  | .binOp b _ x y _ => fBin g L b x y
  | .call ⟨.builtin b, args, tys⟩ => match b, args.toList, tys.toList with
    | .append, [x, y], [t, t2] => fAppend P zt g L nid t t2 x y
    | .copy, [x, y], [t, _] => fCopy P g L t x y
    | .clear, [x], [t] => fClear P zt g L t x
    | .delete, [x, y], [t, _] => fDel P g L t x y
    | _, _, _ => none
  | _ => none
abbrev EF := Program → Zt → G → Sl → Option Nat → Option Res
def eNo : EF := fun _ _ _ _ _ => none
noncomputable def eAlloc (t : TypeId) : EF := fun P zt g _ nid => fAlloc P zt g nid t
noncomputable def eBox (t : TypeId) (x : Operand) : EF := fun _ _ g L nid => fBox g L nid t x
noncomputable def eMap (_ : TypeId) (r : Option Operand) : EF := fun _ _ g _ nid => fMap g nid r
noncomputable def eStore (t : TypeId) (x y : Operand) : EF := fun P _ g L _ => fStore P g L t x y
noncomputable def eMake (t : TypeId) (l c : Operand) : EF := fun P zt g L nid => fMake P zt g L nid t l c
noncomputable def eLit (t : TypeId) (len : Nat) (ps : Array (Nat × Operand)) : EF := fun P zt g L nid => fLit P zt g L nid t len ps.toList
noncomputable def eUpd (t : TypeId) (m k v : Operand) : EF := fun P _ g L _ => fUpd P g L t m k v
noncomputable def eBin (op : BinOp) (_ : TypeId) (x y : Operand) (_ : TypeId) : EF := fun _ _ g L _ => fBin g L op x y
noncomputable def eText (t t' : TypeId) (x : Operand) : EF := fun P _ g L nid => fText P g L nid t t' x
noncomputable def eBuiltin (b : Builtin) (args : List Operand) (tys : List TypeId) : EF := fun P zt g L nid => match b, args, tys with
  | .append, [x, y], [t, t2] => fAppend P zt g L nid t t2 x y
  | .copy, [x, y], [t, _] => fCopy P g L t x y
  | .clear, [x], [t] => fClear P zt g L t x
  | .delete, [x, y], [t, _] => fDel P g L t x y
  | _, _, _ => none
noncomputable def eCall (c : Call) : EF := match c with
  | ⟨.builtin b, args, tys⟩ => eBuiltin b args.toList tys.toList
  | _ => eNo
noncomputable def efR (o : Op) : EF := @Op.rec (fun _ => EF) (fun _ => eNo) (fun _ => eNo) (fun _ _ _ => eNo) eAlloc eBox (fun _ _ => eNo) eLit (fun _ _ _ _ => eNo) (fun _ _ => eNo) eStore (fun _ => eNo) (fun _ => eNo) (fun _ => eNo) eBin (fun _ _ _ => eNo) eText (fun _ _ => eNo) (fun _ _ => eNo) (fun _ _ _ => eNo) eMap (fun _ _ => eNo) eMake (fun _ _ _ _ _ => eNo) (fun _ _ _ => eNo) (fun _ _ _ => eNo) (fun _ _ _ => eNo) (fun _ _ _ => eNo) (fun _ _ _ _ => eNo) eUpd (fun _ _ _ => eNo) (fun _ _ _ _ => eNo) (fun _ _ => eNo) (fun _ _ => eNo) (fun _ => eNo) (fun _ _ _ _ => eNo) (fun _ _ => eNo) eCall (fun _ => eNo) (fun _ => eNo) (fun _ => eNo) (fun _ _ => eNo) (fun _ _ _ => eNo) (fun _ _ => eNo) o
noncomputable def ef (P : Program) (zt : Zt) (g : G) (L : Sl) (nid : Option Nat) (o : Op) : Option Res := efR o P zt g L nid
theorem ef_eq (P : Program) (zt : Zt) (g : G) (L : Sl) (nid : Option Nat) (o : Op) : ef P zt g L nid o = ef0 P zt g L nid o := by
  cases o with
  | call c =>
    obtain ⟨callee, args, tys⟩ := c
    cases callee <;> rfl
  | _ => rfl
theorem ef_ok (hz : zt.Ok P) (hf : Frm ρ n L a) (h : Gok I w0 ρ g w) {nid : Option Nat} {x : Res} (hx : ef P zt g L nid o.op = some x) : EfOk P I w0 ρ a w o x := by
  rw [ef_eq] at hx
  generalize ho : o.op = op at hx
  cases op <;> simp only [ef0] at hx
  case alloc => exact fAlloc_ok hz h ho hx
  case box => exact fBox_ok hf h ho hx
  case makeMap => exact fMap_ok h ho hx
  case store => exact fStore_ok hf h ho hx
  case makeSlice => exact fMake_ok hz hf h ho hx
  case buildSlice => exact fLit_ok hz hf h ho hx
  case mapUpdate => exact fUpd_ok hf h ho hx
  case convert => exact fText_ok hf h ho hx
  case binOp => exact fBin_ok hf h ho hx
  case call c =>
    obtain ⟨callee, args, tys⟩ := c
    cases callee with
    | builtin b =>
      simp only at hx
      split at hx
      · next h1 h2 => exact fAppend_ok hz hf h (by rw [ho, arr2 h1, arr2 h2]) hx
      · next h1 h2 => exact fCopy_ok hf h (by rw [ho, arr2 h1, arr2 h2]) hx
      · next h1 h2 => exact fClear_ok hz hf h (by rw [ho, arr1 h1, arr1 h2]) hx
      · next h1 h2 => exact fDel_ok hf h (by rw [ho, arr2 h1, arr2 h2]) hx
      · cases hx
    | value f => cases hx
    | invoke f m => cases hx
  all_goals cases hx
end
abbrev CallF := FuncId → List SV → G → Option (SV × G)
def evVs (ρ : Env) : List SV → Option (List Value)
  | [] => some []
  | x :: r => match x.ev ρ, evVs ρ r with
    | some v, some vs => some (v :: vs)
    | _, _ => none
def Back (I : In) (w0 : World) (ρ : Env) (r : SV) (g' : G) : Ending → World → Prop := fun e w' => ∃ ρ' v, ρ.le ρ' ∧ e = .returned v ∧ r.ev ρ' = some v ∧ Gok I w0 ρ' g' w'
def Ent (P : Program) (I : In) (w0 : World) (ρ : Env) (f : FuncId) (vs : List Value) (w : World) (r : SV) (g' : G) : Prop :=
  ((∀ w, (callFunc f vs.toArray).run P w = .ok (.enter f vs.toArray) w) ∧ Calls P f vs.toArray w (Back I w0 ρ r g')) ∨ (∃ v, (callFunc f vs.toArray).run P w = .ok (.value v) w ∧ r.ev ρ = some v ∧ Gok I w0 ρ g' w)
def CallOk (P : Program) (I : In) (w0 : World) (cf : CallF) : Prop :=
  ∀ f args g r g', cf f args g = some (r, g') → ∀ ρ vs w, evVs ρ args = some vs → Gok I w0 ρ g w → Ent P I w0 ρ f vs w r g'
noncomputable def evL (L : Sl) : List Operand → Option (List SV)
  | [] => some []
  | x :: r => match evS L x, evL L r with
    | some v, some vs => some (v :: vs)
    | _, _ => none
def ptrSV : List (Nat × Nat) → List SV
  | [] => []
  | (b, o) :: r => .e (.c (.ptr b o)) :: ptrSV r
def appSV : List SV → List SV → List SV
  | [], l => l
  | x :: r, l => x :: appSV r l
section
variable {P : Program} {I : In} {w0 w : World} {ρ : Env} {g : G} {n : Nat} {L : Sl} {a : Act} {o : Oper} {zt : Zt}
theorem evL_ok (hf : Frm ρ n L a) : ∀ {xs : List Operand} {us : List SV}, evL L xs = some us → ∃ vs, evVs ρ us = some vs ∧ xs.map a.eval = vs
  | [], _, h => by simp only [evL] at h; cases h; exact ⟨[], rfl, rfl⟩
  | x :: r, _, h => by
    simp only [evL] at h
    split at h
    · next v us hx hu =>
      cases h
      obtain ⟨xv, h1, h2⟩ := evA hf hx
      obtain ⟨vs, h3, h4⟩ := evL_ok hf hu
      exact ⟨xv :: vs, by simp only [evVs, h1, h3], by simp [h2, h4]⟩
    · cases h
theorem ptrSV_ok : ∀ {us : List (Nat × Nat)} {vs : List Value}, evPs ρ us = some vs → evVs ρ (ptrSV us) = some vs
  | [], _, h => by simp only [evPs] at h; cases h; rfl
  | (b, k) :: r, _, h => by
    simp only [evPs] at h
    split at h
    · next ad vs ha hb => cases h; simp only [ptrSV, evVs, SV.ev, EV.ev, SC.ev, ha, Option.map_some, ptrSV_ok hb]
    · cases h
theorem appSV_ok : ∀ {us qs : List SV} {vs ws : List Value}, evVs ρ us = some vs → evVs ρ qs = some ws → evVs ρ (appSV us qs) = some (vs ++ ws)
  | [], qs, vs, ws, h, g => by simp only [evVs] at h; cases h; simpa [appSV] using g
  | x :: r, qs, vs, ws, h, g => by
    simp only [evVs] at h
    split at h
    · next u us hu hus => cases h; simp only [appSV, evVs, hu, appSV_ok hus g]; rfl
    · cases h
noncomputable def op10 (P : Program) (zt : Zt) (cf : CallF) (L : Sl) (g : G) (nid : Option Nat) (o : Op) : Option Res :=
  match o with
  | .call ⟨.value x, args, _⟩ => match evS L x, evL L args.toList with
    | some (.e (.c (.fn f ps us))), some vs => match cf f (appSV (ptrSV ps) (appSV vs (ptrSV us))) g with
      | some (r, g') => some ⟨some r, g'.H, g'.nb, g'.rs, g'.e⟩
      | none => none
    | _, _ => none
  | o => match qv P zt g.e.bi g.H L o with
    | some r => some ⟨some r, g.H, g.nb, g.rs, g.e⟩
    | none => ef P zt g L nid o
abbrev OF := Program → Zt → CallF → Sl → G → Option Nat → Op → Option Res
noncomputable def opO : OF := fun P zt _ L g nid o => match qv P zt g.e.bi g.H L o with
  | some r => some ⟨some r, g.H, g.nb, g.rs, g.e⟩
  | none => ef P zt g L nid o
noncomputable def opV (x : Operand) (args : List Operand) : OF := fun _ _ cf L g _ _ => match evS L x, evL L args with
  | some (.e (.c (.fn f ps us))), some vs => match cf f (appSV (ptrSV ps) (appSV vs (ptrSV us))) g with
    | some (r, g') => some ⟨some r, g'.H, g'.nb, g'.rs, g'.e⟩
    | none => none
  | _, _ => none
noncomputable def opCall (c : Call) : OF := match c with
  | ⟨.value x, args, _⟩ => opV x args.toList
  | _ => opO
noncomputable def op1R (o : Op) : OF := @Op.rec (fun _ => OF) (fun _ => opO) (fun _ => opO) (fun _ _ _ => opO) (fun _ => opO) (fun _ _ => opO) (fun _ _ => opO) (fun _ _ _ => opO) (fun _ _ _ _ => opO) (fun _ _ => opO) (fun _ _ _ => opO) (fun _ => opO) (fun _ => opO) (fun _ => opO) (fun _ _ _ _ _ => opO) (fun _ _ _ => opO) (fun _ _ _ => opO) (fun _ _ => opO) (fun _ _ => opO) (fun _ _ _ => opO) (fun _ _ => opO) (fun _ _ => opO) (fun _ _ _ => opO) (fun _ _ _ _ _ => opO) (fun _ _ _ => opO) (fun _ _ _ => opO) (fun _ _ _ => opO) (fun _ _ _ => opO) (fun _ _ _ _ => opO) (fun _ _ _ _ => opO) (fun _ _ _ => opO) (fun _ _ _ _ => opO) (fun _ _ => opO) (fun _ _ => opO) (fun _ => opO) (fun _ _ _ _ => opO) (fun _ _ => opO) opCall (fun _ => opO) (fun _ => opO) (fun _ => opO) (fun _ _ => opO) (fun _ _ _ => opO) (fun _ _ => opO) o
noncomputable def op1 (P : Program) (zt : Zt) (cf : CallF) (L : Sl) (g : G) (nid : Option Nat) (o : Op) : Option Res := op1R o P zt cf L g nid o
theorem op1_eq (P : Program) (zt : Zt) (cf : CallF) (L : Sl) (g : G) (nid : Option Nat) (o : Op) : op1 P zt cf L g nid o = op10 P zt cf L g nid o := by
  cases o with
  | call c =>
    obtain ⟨callee, args, tys⟩ := c
    cases callee <;> rfl
  | _ => rfl
theorem op1_q {P : Program} {zt : Zt} {cf : CallF} {L : Sl} {g : G} {nid : Option Nat} {o : Op} {r : SV} (h : qv P zt g.e.bi g.H L o = some r) : op1 P zt cf L g nid o = some ⟨some r, g.H, g.nb, g.rs, g.e⟩ := by
  rw [op1_eq]
  unfold op10
  split
  · cases h
  · rw [h]
def Nxt (I : In) (w0 : World) (ρ : Env) (n : Nat) (L : Sl) (g : G) (a : Act) : Act → World → Prop := fun a' w' => a'.defers = a.defers ∧ ∃ ρ', ρ.le ρ' ∧ Frm ρ' n L a' ∧ Gok I w0 ρ' g w'
def putD (n : Nat) (L : Sl) (d : Option Nat) (r : Option SV) : Option Sl :=
  match d, r with
  | none, _ => some L
  | some d, some x => bif Nat.blt d n then some ((d, x) :: L) else none
  | some _, none => none
theorem Gok.exs (h : Gok I w0 ρ g w) : ∀ b hb', g.H.get b = some hb' → (∀ cs, hb'.cs = some cs → ∃ vs, Cs.ev ρ cs = some vs) ∧ (∀ es, hb'.ms = some es → ∃ ps, evMs ρ es = some ps) := fun b hb' hg => by
  obtain ⟨ad, had, hok⟩ := h.mem.has b hb' hg
  refine ⟨fun cs hc => ?_, fun es he => ?_⟩
  · obtain ⟨vs, h1, _⟩ := HB.reads hok hc
    exact ⟨vs, h1⟩
  · obtain ⟨k, ms, c, _, h2, _⟩ := HB.ms_ok hok he
    exact ⟨_, h2⟩
theorem upon_put {v : Value} {K : Act → World → Prop} {Q : Exit → Act → World → Prop} {w' : World} (hr : (execOp a.eval o).run P w = .ok (.value v) w') (h : K (a.put o.dst v) w') : o.wp P a w K Q := by
  unfold Oper.wp
  rw [hr, Oper.upon_value]
  exact h
theorem frm_putD {ρ' : Env} (hf : Frm ρ' n L a) {d : Option Nat} {x : SV} {v : Value} {L' : Sl} (hp : putD n L d (some x) = some L') (hx : x.ev ρ' = some v) : Frm ρ' n L' (a.put d v) ∧ (a.put d v).defers = a.defers := by
  cases d with
  | none => simp only [putD] at hp; cases hp; exact ⟨hf, rfl⟩
  | some d =>
    simp only [putD] at hp
    cases hd : Nat.blt d n with
    | false => rw [hd, cond_false] at hp; cases hp
    | true =>
      rw [hd, cond_true] at hp
      cases hp
      exact ⟨hf.put (blt_iff.1 hd) hx, rfl⟩
theorem op1_ok (hz : zt.Ok P) {cf : CallF} (hcf : CallOk P I w0 cf) (hf : Frm ρ n L a) (h : Gok I w0 ρ g w) {nid : Option Nat} {x : Res} {L' : Sl} (hx : op1 P zt cf L g nid o.op = some x) (hp : putD n L o.dst x.r = some L') (Q : Exit → Act → World → Prop) :
    o.wp P a w (Nxt I w0 ρ n L' ⟨x.H, x.nb, x.rs, x.e⟩ a) Q := by
  have other : (match qv P zt g.e.bi g.H L o.op with
    | some r => some ⟨some r, g.H, g.nb, g.rs, g.e⟩
    | none => ef P zt g L nid o.op) = some x → o.wp P a w (Nxt I w0 ρ n L' ⟨x.H, x.nb, x.rs, x.e⟩ a) Q := fun hx => by
    split at hx
    · next r hr =>
      cases hx
      obtain ⟨v, hv, hrun⟩ := qv_ok hz h.env.bok hf (glo_of h.mem.has) h.exs hr
      obtain ⟨h1, h2⟩ := frm_putD hf hp hv
      exact upon_put (hrun w h.mem.has) ⟨h2, ρ, Env.le.refl ρ, h1, h⟩
    · obtain ⟨w', ρ', hle, hg, hcase⟩ := ef_ok hz hf h hx
      rcases hcase with ⟨s, v, hr, hv, hrun⟩ | ⟨hr, hrun⟩
      · rw [hr] at hp
        obtain ⟨h1, h2⟩ := frm_putD (hf.mono hle) hp hv
        exact upon_put hrun ⟨h2, ρ', hle, h1, hg⟩
      · rw [hr] at hp
        cases hd : o.dst with
        | none =>
          rw [hd] at hp
          simp only [putD] at hp
          cases hp
          unfold Oper.wp
          rw [hrun, Oper.upon_skip, hd]
          exact ⟨rfl, ρ', hle, hf.mono hle, hg⟩
        | some d => rw [hd] at hp; simp [putD] at hp
  rw [op1_eq] at hx
  unfold op10 at hx
  split at hx
  · next x' args ts ho =>
    split at hx
    · next f ps us vs hx' hvs =>
      split at hx
      · next r g' hc =>
        cases hx
        obtain ⟨xv, hxv, hax⟩ := evA hf hx'
        simp only [SV.ev, EV.ev, SC.ev] at hxv
        have : ∃ fps ups, evPs ρ ps = some fps ∧ evPs ρ us = some ups ∧ xv = .func (.func f) fps.toArray ups.toArray := by
          split at hxv
          · next fps ups hfps hups => cases hxv; exact ⟨fps, ups, hfps, hups, rfl⟩
          · cases hxv
        obtain ⟨fps, ups, hfps, hups, rfl⟩ := this
        obtain ⟨avs, havs, hargs⟩ := evL_ok hf hvs
        have hall := appSV_ok (ptrSV_ok hfps) (appSV_ok havs (ptrSV_ok hups))
        have hr0 : (execOp a.eval o).run P w = (callFunc f (fps ++ (avs ++ ups)).toArray).run P w := by
          simp only [execOp, ho, resolve, hax, Deferred.ofValue, invoke]
          simp only [Sem.run_bind, Sem.run_pure, Result.andThen_ok, Array.empty_append]
          have e2 : args.map a.eval = avs.toArray := by rw [← Array.toList_inj, Array.toList_map, hargs]
          show ((callFunc f (fps.toArray ++ args.map a.eval ++ ups.toArray)).run P w) = _
          rw [e2]
          have e3 : fps.toArray ++ avs.toArray ++ ups.toArray = (fps ++ (avs ++ ups)).toArray := by simp
          rw [e3]
        rcases hcf _ _ _ _ _ hc ρ _ w hall h with ⟨henter, hcalls⟩ | ⟨v, hrun, hv, hg'⟩
        · rw [henter] at hr0
          unfold Oper.wp
          rw [hr0, Oper.upon_enter]
          refine Calls.mono hcalls ?_
          rintro _ w' ⟨ρ', v, hle, rfl, hv, hg'⟩
          obtain ⟨h1, h2⟩ := frm_putD (hf.mono hle) hp hv
          exact ⟨h2, ρ', hle, h1, hg'⟩
        · rw [hrun] at hr0
          obtain ⟨h1, h2⟩ := frm_putD hf hp hv
          exact upon_put hr0 ⟨h2, ρ, Env.le.refl ρ, h1, hg'⟩
      · cases hx
    · cases hx
  · exact other hx
end
end Go.Z
namespace Go.Z
open Go Go.X
def eeq (a b : Int × EV) : Bool := ieq a.1 b.1 && a.2.beq b.2
theorem eeq_ok {a b : Int × EV} (h : eeq a b = true) : a = b := by
  simp only [eeq, Bool.and_eq_true] at h
  exact Prod.ext (ieq_true h.1) (EV.beq_ok h.2)
def HB.beq : HB → HB → Bool
  | .cells a t, .cells b u => Nat.beq t u && Cs.beq a b
  | .ro a, .ro b => Cs.beq a b
  | .frz a t, .frz b u => Nat.beq t u && Cs.beq a b
  | .map a, .map b => leq eeq a b
  | .rom a, .rom b => leq eeq a b
  | .glb g a, .glb h b => Nat.beq g h && Cs.beq a b
  | _, _ => false
theorem HB.beq_ok {a b : HB} (h : a.beq b = true) : a = b := by
  cases a <;> cases b <;> simp only [HB.beq, Bool.and_eq_true] at h <;> try cases h; done
  · rw [nat_ok h.1, Cs.beq_ok h.2]
  · rw [Cs.beq_ok h]
  · rw [nat_ok h.1, Cs.beq_ok h.2]
  · rw [leq_ok (fun _ _ h => eeq_ok h) h]
  · rw [leq_ok (fun _ _ h => eeq_ok h) h]
  · rw [nat_ok h.1, Cs.beq_ok h.2]
def T.beq {α : Type} (f : α → α → Bool) : T α → T α → Bool
  | .e, .e => true
  | .n l v r, .n l' v' r' => oeq f v v' && (T.beq f l l' && T.beq f r r')
  | _, _ => false
theorem T.beq_ok {α : Type} {f : α → α → Bool} (hf : ∀ x y, f x y = true → x = y) : ∀ {a b : T α}, T.beq f a b = true → a = b
  | .e, .e, _ => rfl
  | .n l v r, .n l' v' r', h => by
    simp only [T.beq, Bool.and_eq_true] at h
    rw [oeq_ok hf h.1, T.beq_ok hf h.2.1, T.beq_ok hf h.2.2]
  | .e, .n _ _ _, h => by cases h
  | .n _ _ _, .e, h => by cases h
def ipeq (a b : Int × Int) : Bool := ieq a.1 b.1 && ieq a.2 b.2
theorem ipeq_ok {a b : Int × Int} (h : ipeq a b = true) : a = b := by
  simp only [ipeq, Bool.and_eq_true] at h
  exact Prod.ext (ieq_true h.1) (ieq_true h.2)
def LI.beq (a b : LI) : Bool := a.n.beq b.n && oeq LD.beq a.d b.d
theorem LI.beq_ok {a b : LI} (h : a.beq b = true) : a = b := by
  obtain ⟨x, y⟩ := a
  obtain ⟨x', y'⟩ := b
  simp only [LI.beq, Bool.and_eq_true] at h
  rw [Lin.beq_ok h.1, oeq_ok (fun _ _ h => LD.beq_ok h) h.2]
def E.beq (a b : E) : Bool := Nat.beq a.ni b.ni && (Nat.beq a.nl b.nl && (Nat.beq a.ns b.ns && (T.beq ipeq a.bi b.bi && (T.beq LI.beq a.li b.li && T.beq LD.beq a.si b.si))))
theorem E.beq_ok {a b : E} (h : a.beq b = true) : a = b := by
  obtain ⟨a1, a2, a3, a4, a5, a6⟩ := a
  obtain ⟨b1, b2, b3, b4, b5, b6⟩ := b
  simp only [E.beq, Bool.and_eq_true] at h
  rw [nat_ok h.1, nat_ok h.2.1, nat_ok h.2.2.1, T.beq_ok (fun _ _ h => ipeq_ok h) h.2.2.2.1, T.beq_ok (fun _ _ h => LI.beq_ok h) h.2.2.2.2.1, T.beq_ok (fun _ _ h => LD.beq_ok h) h.2.2.2.2.2]
def G.beq (a b : G) : Bool := Nat.beq a.nb b.nb && (leq Nat.beq a.rs b.rs && (E.beq a.e b.e && T.beq HB.beq a.H b.H))
theorem G.beq_ok {a b : G} (h : a.beq b = true) : a = b := by
  obtain ⟨a1, a2, a3, a4⟩ := a
  obtain ⟨b1, b2, b3, b4⟩ := b
  simp only [G.beq, Bool.and_eq_true] at h
  rw [nat_ok h.1, leq_ok (fun _ _ h => nat_ok h) h.2.1, E.beq_ok h.2.2.1, T.beq_ok (fun _ _ h => HB.beq_ok h) h.2.2.2]
def sleq (a b : Nat × SV) : Bool := Nat.beq a.1 b.1 && a.2.beq b.2
theorem sleq_ok {a b : Nat × SV} (h : sleq a b = true) : a = b := by
  simp only [sleq, Bool.and_eq_true] at h
  exact Prod.ext (nat_ok h.1) (SV.beq_ok h.2)
noncomputable def pickL (L : Sl) (ks : List Nat) : Sl := lrec [] (fun k _ ih => match lk L k with
  | some v => (k, v) :: ih
  | none => ih) ks
theorem pickL_ok (L : Sl) : ∀ (ks : List Nat) {t : Nat} {x : SV}, lk (pickL L ks) t = some x → lk L t = some x
  | [], t, x, h => by simp [pickL, lrec, lk] at h
  | k :: r, t, x, h => by
    have e : pickL L (k :: r) = match lk L k with
      | some v => (k, v) :: pickL L r
      | none => pickL L r := rfl
    rw [e] at h
    split at h
    · next v hv =>
      rw [lk_cons] at h
      by_cases hk : k = t
      · subst hk; rw [Nat.beq_refl, cond_true] at h; cases h; exact hv
      · rw [nbeq hk, cond_false] at h; exact pickL_ok L r h
    · exact pickL_ok L r h
noncomputable def keepL (L : Sl) (ks : Option (List Nat)) : Sl := match ks with
  | some ks => pickL L ks
  | none => L
theorem Frm.keep {ρ : Env} {n : Nat} {L : Sl} {a : Act} (hf : Frm ρ n L a) (ks : Option (List Nat)) : Frm ρ n (keepL L ks) a := by
  cases ks with
  | none => exact hf
  | some ks => exact ⟨hf.size, fun t x h => hf.holds t x (pickL_ok L ks h)⟩
def bitN (m i : Nat) : Bool := Nat.beq (Nat.land (Nat.shiftRight m i) 1) 1
theorem bitN_test (m i : Nat) : bitN m i = m.testBit i := by
  have e : Nat.land (Nat.shiftRight m i) 1 = (m >>> i) &&& 1 := rfl
  unfold bitN Nat.testBit
  rw [e, Nat.and_comm 1]
  have h : (m >>> i) &&& 1 = (m >>> i) % 2 := Nat.and_one_is_mod _
  rw [h]
  have h2 : (m >>> i) % 2 < 2 := Nat.mod_lt _ (by decide)
  generalize (m >>> i) % 2 = y at h2
  match y, h2 with
  | 0, _ => rfl
  | 1, _ => rfl
noncomputable def pickM (L : Sl) : Nat → Sl :=
  @List.rec (Nat × SV) (fun _ => Nat → Sl) (fun _ => []) (fun p _ ih m => @Prod.rec Nat SV (fun _ => Sl) (fun k v => @Bool.rec (fun _ => Sl) (ih m) ((k, v) :: ih (Nat.xor m (Nat.shiftLeft 1 k))) (bitN m k)) p) L
theorem pickM_ok : ∀ (L : Sl) (m : Nat) {t : Nat} {x : SV}, lk (pickM L m) t = some x → lk L t = some x ∧ m.testBit t = true
  | [], m, t, x, h => by cases h
  | (k, v) :: r, m, t, x, h => by
    have e : pickM ((k, v) :: r) m = @Bool.rec (fun _ => Sl) (pickM r m) ((k, v) :: pickM r (Nat.xor m (Nat.shiftLeft 1 k))) (bitN m k) := rfl
    rw [e] at h
    rw [lk_cons]
    cases hb : bitN m k with
    | false =>
      rw [hb] at h
      obtain ⟨h1, h2⟩ := pickM_ok r m h
      have hk : k ≠ t := fun hk => by subst hk; rw [bitN_test, h2] at hb; cases hb
      rw [nbeq hk, cond_false]
      exact ⟨h1, h2⟩
    | true =>
      rw [hb] at h
      simp only [lk_cons] at h
      by_cases hk : k = t
      · subst hk
        rw [Nat.beq_refl, cond_true] at h ⊢
        exact ⟨h, by rw [← bitN_test]; exact hb⟩
      · rw [nbeq hk, cond_false] at h ⊢
        obtain ⟨h1, h2⟩ := pickM_ok r _ h
        have e2 : Nat.xor m (Nat.shiftLeft 1 k) = m ^^^ (1 <<< k) := rfl
        rw [e2, Nat.testBit_xor, Nat.one_shiftLeft, Nat.testBit_two_pow] at h2
        refine ⟨h1, ?_⟩
        rw [decide_eq_false hk] at h2
        simpa using h2
noncomputable def keepM (L : Sl) (m : Option Nat) : Sl := match m with
  | some m => pickM L m
  | none => L
theorem Frm.keepM {ρ : Env} {n : Nat} {L : Sl} {a : Act} (hf : Frm ρ n L a) (m : Option Nat) : Frm ρ n (keepM L m) a := by
  cases m with
  | none => exact hf
  | some m => exact ⟨hf.size, fun t x h => hf.holds t x (pickM_ok L m h).1⟩
noncomputable def bitsL (m : Nat) : List Nat := nrec (fun _ => []) (fun _ ih i => bif bitN m i then i :: ih (Nat.succ i) else ih (Nat.succ i)) (Nat.succ (Nat.log2 m)) 0
noncomputable def keepB : Option Nat → Option (List Nat)
  | some m => some (bitsL m)
  | none => none
def guardS (ops : List Oper) (o : Oper) : Option (Option (Nat × Bool)) :=
  match o.guard with
  | none => some none
  | some (j, want) => match nth ops j with
    | some oj => match oj.dst with
      | some t => some (some (t, want))
      | none => none
    | none => none
noncomputable def wantsS (ops : List Oper) (L : Sl) (o : Oper) : Option Bool :=
  match guardS ops o with
  | some none => some true
  | some (some (t, want)) => match lk L t with
    | some (.e (.c (.bool b))) => some (bif b then want else !want)
    | some (.tup []) => some false
    | _ => none
  | none => none
section
variable {P : Program} {I : In} {w0 w : World} {ρ : Env} {g : G} {n : Nat} {L : Sl} {a : Act} {o : Oper} {zt : Zt}
theorem wantsS_ok (hf : Frm ρ n L a) {ops : Array Oper} {b : Bool} (h : wantsS ops.toList L o = some b) : Region.wanted o (yielded ops a.tmps) = b := by
  unfold wantsS guardS at h
  split at h
  · next hg =>
    cases h
    split at hg
    · next hg' => simp [Region.wanted, hg']
    · split at hg
      · split at hg <;> cases hg
      · cases hg
  · next t want hg =>
    split at hg
    · cases hg
    · next j want' hgd =>
      split at hg
      · next oj hj =>
        split at hg
        · next t' ht =>
          cases hg
          rw [nth_eq] at hj
          have hj' : (ops[j]?).bind (·.dst) = some t := by
            have : ops[j]? = some oj := by simpa using hj
            rw [this]; exact ht
          split at h
          · next b' hl =>
            obtain ⟨v, hv, hm⟩ := hf.holds _ _ hl
            cases hv
            cases h
            simp only [Region.wanted, hgd, yielded, hj', Option.bind_some, hm]
            cases b' <;> cases want <;> rfl
          · next hl =>
            obtain ⟨v, hv, hm⟩ := hf.holds _ _ hl
            cases hv
            cases h
            simp [Region.wanted, hgd, yielded, hj', hm]
          · cases h
        · cases hg
      · cases hg
  · cases h
noncomputable def row (P : Program) (zt : Zt) (cf : CallF) (n : Nat) (all : List Oper) (ops : List Oper) : Sl → G → Option (Sl × G) :=
  lrec (fun L g => some (L, g)) (fun o _ ih L g => match wantsS all L o with
    | some true => match qv P zt g.e.bi g.H L o.op with
      | some r => match putD n L o.dst (some r) with
        | some L' => ih L' g
        | none => none
      | none => match op1 P zt cf L g none o.op with
        | some x => match putD n L o.dst x.r with
          | some L' => gF x (ih L')
          | none => none
        | none => none
    | some false => match putD n L o.dst (some (.tup [])) with
      | some L' => ih L' g
      | none => none
    | none => none) ops
theorem row_ok (hz : zt.Ok P) {cf : CallF} (hcf : CallOk P I w0 cf) {ops : Array Oper} {Q : Exit → Act → World → Prop} : ∀ {rest : List Oper} {L L' : Sl} {g g' : G} {ρ : Env} {a : Act} {w : World}, row P zt cf n ops.toList rest L g = some (L', g') → Frm ρ n L a → Gok I w0 ρ g w →
    (∀ a' w', Nxt I w0 ρ n L' g' a a' w' → Q .normal a' w') → wpList P ops Q rest a w
  | [], L, L', g, g', ρ, a, w, h, hf, hg, k => by
    have e : row P zt cf n ops.toList [] L g = some (L, g) := rfl
    rw [e] at h
    cases h
    exact k a w ⟨rfl, ρ, Env.le.refl ρ, hf, hg⟩
  | o :: rest, L, L', g, g', ρ, a, w, h, hf, hg, k => by
    have e : row P zt cf n ops.toList (o :: rest) L g = match wantsS ops.toList L o with
      | some true => match qv P zt g.e.bi g.H L o.op with
        | some r => match putD n L o.dst (some r) with
          | some L' => row P zt cf n ops.toList rest L' g
          | none => none
        | none => match op1 P zt cf L g none o.op with
          | some x => match putD n L o.dst x.r with
            | some L' => gF x (row P zt cf n ops.toList rest L')
            | none => none
          | none => none
      | some false => match putD n L o.dst (some (.tup [])) with
        | some L' => row P zt cf n ops.toList rest L' g
        | none => none
      | none => none := rfl
    rw [e] at h
    unfold wpList
    split at h
    · next hw =>
      rw [if_pos (wantsS_ok hf hw)]
      split at h
      · next r hr =>
        split at h
        · next L1 hp =>
          refine .inl (Oper.wp_mono (fun a1 w1 hn => ?_) (op1_ok hz hcf hf hg (op1_q (nid := none) hr) hp Q))
          obtain ⟨hd, ρ1, hle, hf1, hg1⟩ := hn
          exact row_ok hz hcf h hf1 hg1 fun a' w' ⟨hd', ρ', hle', hf', hg'⟩ => k a' w' ⟨hd'.trans hd, ρ', hle.trans hle', hf', hg'⟩
        · cases h
      · split at h
        · next x hx =>
          split at h
          · next L1 hp =>
            rw [gF_eq] at h
            refine .inl (Oper.wp_mono (fun a1 w1 hn => ?_) (op1_ok hz hcf hf hg hx hp Q))
            obtain ⟨hd, ρ1, hle, hf1, hg1⟩ := hn
            exact row_ok hz hcf h hf1 hg1 fun a' w' ⟨hd', ρ', hle', hf', hg'⟩ => k a' w' ⟨hd'.trans hd, ρ', hle.trans hle', hf', hg'⟩
          · cases h
        · cases h
    · next hw =>
      rw [if_neg (by rw [wantsS_ok hf hw]; simp)]
      split at h
      · next L1 hp =>
        obtain ⟨hf1, hd⟩ := frm_putD hf hp (rfl : (SV.tup []).ev ρ = some undef)
        exact row_ok hz hcf h hf1 hg fun a' w' ⟨hd', ρ', hle', hf', hg'⟩ => k a' w' ⟨hd'.trans hd, ρ', hle', hf', hg'⟩
      · cases h
    · cases h
end
end Go.Z
namespace Go.Z
open Go Go.X
structure Pl where
  em : List Nat
  tc : List Nat
  qm : Nat
  tl : Nat
  fk : Bool
  rt : List Nat
def setN (m i : Nat) : Nat := Nat.lor m (Nat.shiftLeft 1 i)
noncomputable def rdyF (m : Nat) (em : List Nat) : Nat → List Nat :=
  lrec (fun _ => []) (fun e _ ih i => bif bitN m i then ih (Nat.succ i) else bif Nat.beq (Nat.land m e) e then i :: ih (Nat.succ i) else ih (Nat.succ i)) em
def firstQ (qm : Nat) : List Nat → Option Nat
  | [] => none
  | i :: r => bif bitN qm i then some i else firstQ qm r
inductive Stp where
  | done
  | one (i : Nat)
  | take (i : Nat)
  | fork (is : List Nat)
noncomputable def nxt (p : Pl) (m : Nat) : Stp :=
  match rdyF m p.em 0 with
  | [] => .done
  | [i] => .one i
  | is => match firstQ p.qm is with
    | some i => .take i
    | none => .fork is
def edgesOk (o : Oper) (m : Nat) : Nat → Bool
  | 0 => true
  | i + 1 => (!(bitN m i) || o.after.any fun e => Region.binds .any e && Nat.beq e.on i) && edgesOk o m i
def viaOk (tc : List Nat) (m i : Nat) : Nat → Bool
  | 0 => false
  | k + 1 => (bitN m k && (match nth tc k with
    | some t => bitN t i
    | none => false)) || viaOk tc m i k
def closedOk (em tc : List Nat) (m t : Nat) : Nat → Bool
  | 0 => true
  | i + 1 => (!(bitN t i) || bitN m i || viaOk tc m i em.length) && closedOk em tc m t i
def preOk (ops : Array Oper) (p : Pl) : Nat → Bool
  | 0 => true
  | j + 1 => (match nth ops.toList j, nth p.em j, nth p.tc j with
    | some o, some m, some t => edgesOk o m ops.size && Nat.blt m (Nat.pow 2 j) && closedOk p.em p.tc m t ops.size && (Nat.blt j p.tl || Nat.beq (Nat.land t (Nat.sub (Nat.pow 2 p.tl) 1)) (Nat.sub (Nat.pow 2 p.tl) 1))
    | _, _, _ => false) && preOk ops p j
def takesT (ops : Array Oper) (tl : Nat) (l : Array Bool) (i : Nat) : Bool :=
  Nat.blt i tl && Region.free .any ops l i && (Region.ready .any ops l).contains i
noncomputable def planR (ops : Array Oper) (p : Pl) : Nat → Nat → Array Bool → Bool :=
  nrec (fun m l => match nxt p m with
    | .done => leq Nat.beq (Region.ready .any ops l) []
    | _ => false)
  (fun _ ih m l => match nxt p m with
    | .done => leq Nat.beq (Region.ready .any ops l) []
    | .one i => leq Nat.beq (Region.ready .any ops l) [i] && ih (setN m i) (l.setIfInBounds i true)
    | .take i => takesT ops p.tl l i && ih (setN m i) (l.setIfInBounds i true)
    | .fork is => leq Nat.beq (Region.ready .any ops l) is && is.all fun i => ih (setN m i) (l.setIfInBounds i true))
noncomputable def planOk (ops : Array Oper) (p : Pl) : Bool :=
  Region.noSelect ops && Nat.beq p.em.length ops.size && preOk ops p ops.size && planR ops p ops.size 0 (Array.replicate ops.size false)
structure Closed (ops : Array Oper) (l : Array Bool) : Prop where
  size : l.size = ops.size
  shut : ∀ k o, ops[k]? = some o → l.getD k false = true → ∀ e ∈ o.after, Region.binds .any e = true → l.getD e.on false = true
theorem Closed.start (ops : Array Oper) : Closed ops (Array.replicate ops.size false) := ⟨by simp, fun k o _ h => by
  rw [Array.getD_eq_getD_getElem?, Array.getElem?_replicate] at h
  split at h <;> cases h⟩
theorem Closed.set {ops : Array Oper} {l : Array Bool} (h : Closed ops l) {i : Nat} (hi : i ∈ Region.ready .any ops l) : Closed ops (l.setIfInBounds i true) := by
  obtain ⟨_, oi, hoi, hall⟩ := mem_ready.1 hi
  refine ⟨by simp [h.size], fun k o hk hd e he hb => getD_set_true ?_⟩
  by_cases hki : i = k
  · subst hki
    rw [hoi] at hk
    cases hk
    exact hall e he hb
  · rw [getD_set_ne false hki] at hd
    exact h.shut k o hk hd e he hb
theorem bitN_sub {t u i : Nat} (h : Nat.beq (Nat.land t (Nat.sub (Nat.pow 2 u) 1)) (Nat.sub (Nat.pow 2 u) 1) = true) (hi : i < u) : bitN t i = true := by
  have h1 := Nat.eq_of_beq_eq_true h
  have h2 : t &&& (2 ^ u - 1) = 2 ^ u - 1 := h1
  have h3 : (t &&& (2 ^ u - 1)).testBit i = (2 ^ u - 1).testBit i := by rw [h2]
  rw [Nat.testBit_and, Nat.testBit_two_pow_sub_one] at h3
  simp only [hi, decide_true, Bool.and_true] at h3
  unfold bitN
  have : Nat.land (Nat.shiftRight t i) 1 = 1 := by
    have e : Nat.land (Nat.shiftRight t i) 1 = (t >>> i) &&& 1 := rfl
    rw [e]
    unfold Nat.testBit at h3
    rw [Nat.and_comm]
    simp only [bne_iff_ne, ne_eq] at h3
    have h4 : 1 &&& t >>> i = (t >>> i) % 2 := by rw [Nat.and_comm, Nat.and_one_is_mod]
    rw [h4] at h3 ⊢
    omega
  rw [this]; rfl
theorem edges_ok {o : Oper} {m : Nat} : ∀ {n i : Nat}, edgesOk o m n = true → i < n → bitN m i = true → ∃ e ∈ o.after, Region.binds .any e = true ∧ e.on = i
  | n + 1, i, h, hi, hb => by
    simp only [edgesOk, Bool.and_eq_true] at h
    by_cases hin : i = n
    · subst hin
      have h1 := h.1
      rw [hb] at h1
      simp only [Bool.not_true, Bool.false_or] at h1
      obtain ⟨e, he, h2⟩ := Array.any_eq_true'.1 h1
      simp only [Bool.and_eq_true] at h2
      exact ⟨e, he, h2.1, nat_ok h2.2⟩
    · exact edges_ok h.2 (by omega) hb
theorem via_ok {tc : List Nat} {m i : Nat} : ∀ {n : Nat}, viaOk tc m i n = true → ∃ k t, k < n ∧ bitN m k = true ∧ nth tc k = some t ∧ bitN t i = true
  | n + 1, h => by
    simp only [viaOk, Bool.or_eq_true, Bool.and_eq_true] at h
    rcases h with ⟨h1, h2⟩ | h
    · split at h2
      · next t ht => exact ⟨n, t, by omega, h1, ht, h2⟩
      · cases h2
    · obtain ⟨k, t, h1, h2⟩ := via_ok h
      exact ⟨k, t, by omega, h2⟩
theorem closed_ok {em tc : List Nat} {m t : Nat} : ∀ {n i : Nat}, closedOk em tc m t n = true → i < n → bitN t i = true → bitN m i = true ∨ ∃ k t', bitN m k = true ∧ nth tc k = some t' ∧ bitN t' i = true
  | n + 1, i, h, hi, hb => by
    simp only [closedOk, Bool.and_eq_true] at h
    by_cases hin : i = n
    · subst hin
      have h1 := h.1
      rw [hb] at h1
      simp only [Bool.not_true, Bool.false_or, Bool.or_eq_true] at h1
      rcases h1 with h1 | h1
      · exact .inl h1
      · obtain ⟨k, t', _, h2, h3, h4⟩ := via_ok h1
        exact .inr ⟨k, t', h2, h3, h4⟩
    · exact closed_ok h.2 (by omega) hb
theorem pre_at {ops : Array Oper} {p : Pl} : ∀ {n j : Nat}, preOk ops p n = true → j < n → ∃ o m t, ops[j]? = some o ∧ nth p.em j = some m ∧ nth p.tc j = some t ∧ edgesOk o m ops.size = true ∧ m < 2 ^ j ∧ closedOk p.em p.tc m t ops.size = true ∧ (p.tl ≤ j → Nat.beq (Nat.land t (Nat.sub (Nat.pow 2 p.tl) 1)) (Nat.sub (Nat.pow 2 p.tl) 1) = true)
  | n + 1, j, h, hj => by
    simp only [preOk, Bool.and_eq_true] at h
    by_cases hjn : j = n
    · subst hjn
      have h1 := h.1
      split at h1
      · next o m t ho hm ht =>
        simp only [Bool.and_eq_true, Bool.or_eq_true] at h1
        rw [nth_eq] at ho
        refine ⟨o, m, t, by simpa using ho, hm, ht, h1.1.1.1, blt_iff.1 h1.1.1.2, h1.1.2, fun hle => ?_⟩
        rcases h1.2 with h2 | h2
        · have := blt_iff.1 h2; omega
        · exact h2
      · cases h1
    · exact pre_at h.2 (by omega)
theorem bit_lt {m k j : Nat} (h : bitN m k = true) (hm : m < 2 ^ j) : k < j := by
  rcases Nat.lt_or_ge k j with h1 | h1
  · exact h1
  · exfalso
    unfold bitN at h
    have h2 := Nat.eq_of_beq_eq_true h
    have e : Nat.land (Nat.shiftRight m k) 1 = (m >>> k) &&& 1 := rfl
    have h3 : m >>> k = 0 := by
      rw [Nat.shiftRight_eq_div_pow]
      exact Nat.div_eq_of_lt (Nat.lt_of_lt_of_le hm (Nat.pow_le_pow_right (by decide) h1))
    rw [e, h3] at h2
    simp at h2
def tcAt (p : Pl) (j : Nat) : Nat := match nth p.tc j with
  | some t => t
  | none => 0
theorem dep_key {ops : Array Oper} {p : Pl} (h : preOk ops p ops.size = true) {l : Array Bool} (hl : Closed ops l) : ∀ j, j < ops.size → ∀ o, ops[j]? = some o → (∀ e ∈ o.after, Region.binds .any e = true → l.getD e.on false = true) → ∀ i, i < ops.size → bitN (tcAt p j) i = true → l.getD i false = true := by
  have key : ∀ j, j < ops.size → ∀ o, ops[j]? = some o → (∀ e ∈ o.after, Region.binds .any e = true → l.getD e.on false = true) → ∀ t, nth p.tc j = some t → ∀ i, i < ops.size → bitN t i = true → l.getD i false = true := by
    intro j
    induction j using Nat.strongRecOn with
    | _ j ih =>
      intro hj o ho hall t ht i hi hb
      obtain ⟨o', m, t', ho', hm, ht', he, hlt, hc, _⟩ := pre_at h hj
      rw [ho] at ho'
      cases ho'
      rw [ht] at ht'
      cases ht'
      rcases closed_ok hc hi hb with h1 | ⟨k, t2, h1, h2, h3⟩
      · obtain ⟨e, hee, hbd, hon⟩ := edges_ok he hi h1
        rw [← hon]
        exact hall e hee hbd
      · have hk := bit_lt h1 hlt
        obtain ⟨e, hee, hbd, hon⟩ := edges_ok he (by omega) h1
        have hdone := hall e hee hbd
        rw [hon] at hdone
        obtain ⟨ok, _, _, hok, _⟩ := pre_at h (show k < ops.size by omega)
        exact ih k hk (by omega) ok hok (fun e he hb => hl.shut k ok hok hdone e he hb) t2 h2 i hi h3
  intro j hj o ho hall i hi hb
  obtain ⟨_, _, t, _, _, ht, _⟩ := pre_at h hj
  have e : tcAt p j = t := by unfold tcAt; rw [ht]
  rw [e] at hb
  exact key j hj o ho hall t ht i hi hb
theorem dep_late {ops : Array Oper} {p : Pl} (h : preOk ops p ops.size = true) {j i : Nat} (hj : j < ops.size) (hle : p.tl ≤ j) (hi : i < p.tl) : bitN (tcAt p j) i = true := by
  obtain ⟨_, _, t, _, _, ht, _, _, _, htl⟩ := pre_at h hj
  have e : tcAt p j = t := by unfold tcAt; rw [ht]
  rw [e]
  exact bitN_sub (htl hle) hi
def Fre (p : Pl) (l : Array Bool) (i : Nat) : Prop := ∀ k, l.getD k false = true → bitN p.qm k = false → bitN (tcAt p k) i = false
theorem getD_set_mono {l : Array Bool} {j k : Nat} (h : l.getD k false = true) : (l.setIfInBounds j true).getD k false = true := by
  rw [Array.getD_eq_getD_getElem?, Array.getElem?_setIfInBounds]
  rw [Array.getD_eq_getD_getElem?] at h
  by_cases hjk : j = k
  · subst hjk
    rw [if_pos rfl]
    cases hl : l[j]? with
    | none => rw [hl] at h; cases h
    | some b => rw [if_pos (Array.getElem?_eq_some_iff.1 hl).1]; rfl
  · rw [if_neg hjk]; exact h
theorem getD_set_self {l : Array Bool} {j : Nat} (h : j < l.size) : (l.setIfInBounds j true).getD j false = true := by
  rw [Array.getD_eq_getD_getElem?, Array.getElem?_setIfInBounds, if_pos rfl, if_pos h]; rfl
theorem getD_set_back {l : Array Bool} {j k : Nat} (h : (l.setIfInBounds j true).getD k false = true) (hne : k ≠ j) : l.getD k false = true := by
  rw [Array.getD_eq_getD_getElem?, Array.getElem?_setIfInBounds, if_neg (Ne.symm hne)] at h
  rw [Array.getD_eq_getD_getElem?]; exact h
theorem Fre.less {p : Pl} {l : Array Bool} {i j : Nat} (h : Fre p (l.setIfInBounds j true) i) : Fre p l i := fun k hk hq => h k (getD_set_mono hk) hq
theorem Fre.quiet {p : Pl} {l : Array Bool} {i j : Nat} (h : Fre p l i) (hj : bitN p.qm j = true) : Fre p (l.setIfInBounds j true) i := fun k hk hq => by
  by_cases hkj : k = j
  · subst hkj; rw [hj] at hq; cases hq
  · exact h k (getD_set_back hk hkj) hq
theorem Fre.of_open {ops : Array Oper} {p : Pl} (h : preOk ops p ops.size = true) {l : Array Bool} (hl : Closed ops l) {i : Nat} (hi : i < ops.size) (hun : l.getD i false = false) : Fre p l i := fun k hk _ => by
  cases hb : bitN (tcAt p k) i with
  | false => rfl
  | true =>
    have hks : k < ops.size := by
      rw [← hl.size]
      rw [Array.getD_eq_getD_getElem?] at hk
      cases hlk : l[k]? with
      | none => rw [hlk] at hk; cases hk
      | some b => exact (Array.getElem?_eq_some_iff.1 hlk).1
    obtain ⟨ok, _, _, hok, _⟩ := pre_at h hks
    have := dep_key h hl k hks ok hok (fun e he hb => hl.shut k ok hok hk e he hb) i hi hb
    rw [hun] at this
    cases this
def AnyZ (P : Program) (ops : Array Oper) (Q : Exit → Act → World → Prop) (p : Pl) (S : Nat → World → Prop) : Nat → Array Bool → Act → World → Prop
  | 0, l, a, w => Region.ready .any ops l = [] ∧ Q .normal a w
  | f + 1, l, a, w => (Region.ready .any ops l = [] → Q .normal a w) ∧
    ∀ j ∈ Region.ready .any ops l, wpOp P ops Q j (fun a' w' => (∀ i, i < p.tl → Fre p (l.setIfInBounds j true) i → S i w') ∧ AnyZ P ops Q p S f (l.setIfInBounds j true) a' w') a w
theorem AnyZ.any {P : Program} {ops : Array Oper} {Q : Exit → Act → World → Prop} {p : Pl} {S : Nat → World → Prop} : ∀ (f : Nat) (l : Array Bool) (a : Act) (w : World), AnyZ P ops Q p S f l a w → Any P ops Q (fun _ => True) 0 f l a w
  | 0, _, _, _, h => h
  | f + 1, l, a, w, h => ⟨h.1, fun j hj => wpOp_mono (fun a' w' h3 => ⟨fun _ => trivial, AnyZ.any f _ a' w' h3.2⟩) (h.2 j hj)⟩
theorem AnyZ.firstT {P : Program} {ops : Array Oper} {Q : Exit → Act → World → Prop} {S : Nat → World → Prop} {p : Pl} {i : Nat} {oi : Oper} {v : Value} (hpre : preOk ops p ops.size = true) (hi : ops[i]? = some oi) (hsel : ∀ (j : Nat) (o : Oper) cs b, ops[j]? = some o → o.op ≠ .select cs b) (hit : i < p.tl) (hqi : bitN p.qm i = true)
    (hQ : ∀ c a w, Q (.panic c) (a.put oi.dst v) w → Q (.panic c) a w) :
    ∀ (f : Nat) (l : Array Bool) (a : Act) (w : World), Closed ops l →
      (∀ j oj, ops[j]? = some oj → j ≠ i → l.getD j true = false → (∀ e ∈ oj.after, Region.binds .any e = true → e.on ≠ i) → oi.apart ops oj = true) →
      i ∈ Region.ready .any ops l → YieldsIf P ops (S i) oi v a → (∀ k, k < p.tl → Fre p l k → S k w) →
      AnyZ P ops Q p S f (l.setIfInBounds i true) (a.put oi.dst v) w → AnyZ P ops Q p S (f + 1) l a w := by
  have his : i < ops.size := (Array.getElem?_eq_some_iff.1 hi).1
  have hopen : ∀ l : Array Bool, i ∈ Region.ready .any ops l → l.getD i false = false := fun l hr => by
    have hiun := (mem_ready.1 hr).1
    rw [Array.getD_eq_getD_getElem?] at hiun ⊢
    cases hli : l[i]? with
    | none => rfl
    | some b => rw [hli] at hiun; simpa using hiun
  intro f
  induction f with
  | zero =>
    intro l a w hcl _ hr hy hS H
    refine ⟨fun h => (by rw [h] at hr; cases hr), fun j hj => ?_⟩
    by_cases hji : j = i
    · subst hji; exact hy.wpOp hi (hS j hit (Fre.of_open hpre hcl his (hopen l hr))) ⟨fun k hk hfr => hS k hk hfr.less, H⟩
    · have h1 := ready_mono hj hji
      rw [H.1] at h1
      cases h1
  | succ f ih =>
    intro l a w hcl hfree hr hy hS H
    have hSi := hS i hit (Fre.of_open hpre hcl his (hopen l hr))
    refine ⟨fun h => (by rw [h] at hr; cases hr), fun j hj => ?_⟩
    by_cases hji : j = i
    · subst hji; exact hy.wpOp hi hSi ⟨fun k hk hfr => hS k hk hfr.less, H⟩
    · have h1 := H.2 j (ready_mono hj hji)
      obtain ⟨hjun, oj, hoj, hall⟩ := mem_ready.1 hj
      have hif : l.getD i false = true → False := fun hd => by rw [hopen l hr] at hd; cases hd
      have hnot : ∀ e ∈ oj.after, Region.binds .any e = true → e.on ≠ i := fun e he hb heq => by
        have h2 := hall e he hb
        rw [heq] at h2
        exact hif h2
      have h2 := wpOp_putIf hoj (hfree j oj hoj hji hjun hnot) (fun cs b => hsel i oi cs b hi) (fun cs b => hsel j oj cs b hoj) hQ hy h1
      have hfree' : ∀ k ok, ops[k]? = some ok → k ≠ i → (l.setIfInBounds j true).getD k true = false → (∀ e ∈ ok.after, Region.binds .any e = true → e.on ≠ i) → oi.apart ops ok = true := fun k ok hk hki hun hno => by
        refine hfree k ok hk hki ?_ hno
        by_cases hjk : j = k
        · subst hjk; exact hjun
        · rw [getD_set_ne true hjk] at hun; exact hun
      have hri : i ∈ Region.ready .any ops (l.setIfInBounds j true) := ready_mono hr (Ne.symm hji)
      refine wpOp_mono (fun a' w' h3 => ?_) h2
      have hS' : ∀ k, k < p.tl → Fre p (l.setIfInBounds j true) k → S k w' := fun k hk hfr => h3.2.1 k hk (by
        have := hfr.quiet hqi
        rwa [Array.setIfInBounds_comm _ _ hji] at this)
      refine ⟨hS', ih (l.setIfInBounds j true) a' w' (hcl.set hj) hfree' hri h3.1 hS' ?_⟩
      rw [Array.setIfInBounds_comm _ _ hji]
      exact h3.2.2
noncomputable def someH (H : Hp) (rd : List Nat) : Hp := lrec .e (fun id _ ih => match H.get id with
  | some hb => ih.set id (some hb)
  | none => ih) rd
theorem someH_ok (H : Hp) : ∀ (rd : List Nat) {j : Nat} {hb : HB}, (someH H rd).get j = some hb → H.get j = some hb ∧ memN j rd = true
  | [], j, hb, h => by simp [someH, lrec, T.get_e] at h
  | id :: r, j, hb, h => by
    have e : someH H (id :: r) = match H.get id with
      | some hb => (someH H r).set id (some hb)
      | none => someH H r := rfl
    rw [e] at h
    simp only [memN, Bool.or_eq_true]
    split at h
    · next hb' hg =>
      rw [T.get_set] at h
      by_cases hj : id = j
      · subst hj; rw [if_pos rfl] at h; cases h; exact ⟨hg, .inl (Nat.beq_refl _)⟩
      · rw [if_neg hj] at h
        obtain ⟨h1, h2⟩ := someH_ok H r h
        exact ⟨h1, .inr h2⟩
    · obtain ⟨h1, h2⟩ := someH_ok H r h
      exact ⟨h1, .inr h2⟩
noncomputable def sameH (Hs H : Hp) : List Nat → Bool
  | [] => true
  | id :: r => (match Hs.get id with
    | some hb => oeq HB.beq (some hb) (H.get id)
    | none => true) && sameH Hs H r
theorem sameH_ok {Hs H : Hp} : ∀ {rd : List Nat}, sameH Hs H rd = true → ∀ {j : Nat} {hb : HB}, memN j rd = true → Hs.get j = some hb → H.get j = some hb
  | id :: r, h, j, hb, hm, hg => by
    simp only [sameH, Bool.and_eq_true] at h
    simp only [memN, Bool.or_eq_true] at hm
    by_cases hj : id = j
    · subst hj
      rw [hg] at h
      exact (oeq_ok (fun _ _ h => HB.beq_ok h) h.1).symm
    · rcases hm with hm | hm
      · exact absurd (nat_ok hm) hj
      · exact sameH_ok h.2 hm hg
  | [], _, _, _, hm, _ => by cases hm
def rdOf : List (Nat × Nat) → Nat → List Nat
  | [], _ => []
  | (j, b) :: r, i => bif Nat.beq j i then b :: rdOf r i else rdOf r i
noncomputable def hsAt (Hs : Hp) (rd : List Nat) (rds : List (Nat × Nat)) (i : Nat) : Hp := someH Hs (rd ++ rdOf rds i)
noncomputable def sameP (Hs H : Hp) (t : Nat) : List (Nat × Nat) → Bool
  | [] => true
  | (i, b) :: r => (bitN t i || (match Hs.get b with
    | some hb => oeq HB.beq (some hb) (H.get b)
    | none => true)) && sameP Hs H t r
noncomputable def sameR (Hs H : Hp) (rd : List Nat) (rds : List (Nat × Nat)) (t : Nat) : Bool := sameH Hs H rd && sameP Hs H t rds
theorem sameP_ok {Hs H : Hp} {t i : Nat} (hi : bitN t i = false) : ∀ {rds : List (Nat × Nat)}, sameP Hs H t rds = true → ∀ {j : Nat} {hb : HB}, memN j (rdOf rds i) = true → Hs.get j = some hb → H.get j = some hb
  | (k, b) :: r, h, j, hb, hm, hg => by
    simp only [sameP, Bool.and_eq_true, Bool.or_eq_true] at h
    simp only [rdOf] at hm
    cases hk : Nat.beq k i with
    | false => rw [hk, cond_false] at hm; exact sameP_ok hi h.2 hm hg
    | true =>
      have := nat_ok hk
      subst this
      rw [hk, cond_true] at hm
      simp only [memN, Bool.or_eq_true] at hm
      by_cases hj : b = j
      · subst hj
        rcases h.1 with h1 | h1
        · rw [hi] at h1; cases h1
        · rw [hg] at h1; exact (oeq_ok (fun _ _ h => HB.beq_ok h) h1).symm
      · rcases hm with hm | hm
        · exact absurd (nat_ok hm) hj
        · exact sameP_ok hi h.2 hm hg
  | [], _, _, _, hm, _ => by cases hm
theorem memN_append {j : Nat} : ∀ {a b : List Nat}, memN j (a ++ b) = true → memN j a = true ∨ memN j b = true
  | [], _, h => .inr h
  | x :: a, b, h => by
    simp only [List.cons_append, memN, Bool.or_eq_true] at h ⊢
    rcases h with h | h
    · exact .inl (.inl h)
    · rcases memN_append h with h | h
      · exact .inl (.inr h)
      · exact .inr h
theorem sameR_ok {Hs H : Hp} {rd : List Nat} {rds : List (Nat × Nat)} {t i : Nat} (h : sameR Hs H rd rds t = true) (hi : bitN t i = false) {j : Nat} {hb : HB} (hg : (hsAt Hs rd rds i).get j = some hb) : H.get j = some hb := by
  simp only [sameR, Bool.and_eq_true] at h
  obtain ⟨h1, h2⟩ := someH_ok _ _ hg
  rcases memN_append h2 with h2 | h2
  · exact sameH_ok h.1 h2 h1
  · exact sameP_ok hi h.2 h2 h1
section
variable (P : Program) (zt : Zt) (cf : CallF) (n : Nat) (ops : List Oper) (p : Pl) (keep : Option (List Nat)) (Hs : Hp) (rd : List Nat) (rds : List (Nat × Nat)) (base : Nat)
noncomputable def stepQ (bi : Bi) (H : Hp) (L : Sl) (o : Oper) : Option Sl :=
  match wantsS ops L o with
  | some true => match qv P zt bi H L o.op with
    | some r => putD n L o.dst (some r)
    | none => none
  | some false => putD n L o.dst (some (.tup []))
  | none => none
noncomputable def stepD (i : Nat) (k : Sl → G → Option (Sl × G)) (L : Sl) (g : G) : Option (Sl × G) :=
  match nth ops i with
  | some o => bif bitN p.qm i then (match stepQ P zt n ops g.e.bi g.H L o with
      | some L' => k L' g
      | none => none)
    else (match wantsS ops L o with
      | some true => match op1 P zt cf L g (bif p.fk then some (Nat.add base i) else none) o.op with
        | some x => match putD n L o.dst x.r with
          | some L' => bif Nat.blt i p.tl then (bif sameR Hs x.H rd rds (tcAt p i) then gF x (k L') else none) else gF x (k L')
          | none => none
        | none => none
      | some false => match putD n L o.dst (some (.tup [])) with
        | some L' => k L' g
        | none => none
      | none => none)
  | none => none
def slgEq (a b : Sl × G) : Bool := leq sleq a.1 b.1 && a.2.beq b.2
noncomputable def forkD (f : Nat → Option (Sl × G)) (is : List Nat) : Option (Sl × G) :=
  lrec none (fun i r ih => match f i, r with
    | some x, [] => some x
    | some x, _ :: _ => match ih with
      | some y => bif slgEq x y then some x else none
      | none => none
    | none, _ => none) is
noncomputable def dr : Nat → Nat → Sl → G → Option (Sl × G) :=
  nrec (fun m L g => match nxt p m with
    | .done => some (keepL L keep, g)
    | _ => none)
  (fun _ ih m L g => match nxt p m with
    | .done => some (keepL L keep, g)
    | .one i => stepD P zt cf n ops p Hs rd rds base i (ih (setN m i)) L g
    | .take i => match nth ops i with
      | some o => match stepQ P zt n ops g.e.bi (hsAt Hs rd rds i) L o with
        | some L' => ih (setN m i) L' g
        | none => none
      | none => none
    | .fork is => forkD (fun i => stepD P zt cf n ops p Hs rd rds base i (ih (setN m i)) L g) is)
noncomputable def rdIds (bi : Bi) (H : Hp) : Nat → Nat → Sl → List (Nat × Nat) :=
  nrec (fun _ _ => []) (fun _ ih m L => match nxt p m with
    | .take i => match nth ops i with
      | some o => match stepQ P zt n ops bi H L o with
        | some L' => match o.op with
          | .load _ x => match evS L x with
            | some (.e (.c (.ptr b _))) => (i, b) :: ih (setN m i) L'
            | _ => ih (setN m i) L'
          | .lookup _ x _ _ => match evS L x with
            | some (.e (.c (.map b))) => (i, b) :: ih (setN m i) L'
            | _ => ih (setN m i) L'
          | _ => ih (setN m i) L'
        | none => []
      | none => []
    | .one i => bif bitN p.qm i then (match nth ops i with
      | some o => match stepQ P zt n ops bi H L o with
        | some L' => ih (setN m i) L'
        | none => []
      | none => []) else []
    | _ => [])
end
noncomputable def rtIds (L : Sl) : List Nat → List Nat
  | [] => []
  | t :: r => bif Nat.ble 100000 t then Nat.sub t 100000 :: rtIds L r else match lk L t with
    | some (.e (.c (.ptr b _))) => b :: rtIds L r
    | _ => rtIds L r
def iota (b : Nat) : Nat → List Nat
  | 0 => []
  | n + 1 => b :: iota (Nat.succ b) n
theorem iota_mem {j : Nat} : ∀ {n b : Nat}, j ∈ iota b n → b ≤ j ∧ j < b + n
  | n + 1, b, h => by
    simp only [iota] at h
    rcases List.mem_cons.1 h with rfl | h
    · omega
    · have := iota_mem h
      have e : b.succ = b + 1 := rfl
      omega
noncomputable def draw (P : Program) (zt : Zt) (cf : CallF) (n : Nat) (ops : List Oper) (p : Pl) (keep : Option (List Nat)) (L : Sl) (g : G) : Option (Sl × G) :=
  match rtIds L p.rt, rdIds P zt n ops p g.e.bi g.H (lenN ops) 0 L with
  | rd, rds => bif p.fk then (match dr P zt cf n ops p keep g.H rd rds g.nb (lenN ops) 0 L ⟨g.H, Nat.add g.nb (lenN ops), iota g.nb (lenN ops) ++ g.rs, g.e⟩ with
      | some (L', g') => bif g.rs.all (fun i => memN i g'.rs) then some (L', ⟨g'.H, g'.nb, g.rs, g'.e⟩) else none
      | none => none)
    else dr P zt cf n ops p keep g.H rd rds 0 (lenN ops) 0 L g
section
variable {P : Program} {I : In} {w0 w : World} {ρ ρ0 : Env} {g : G} {n : Nat} {L : Sl} {a : Act} {o : Oper} {zt : Zt}
theorem leqN {a b : List Nat} (h : leq Nat.beq a b = true) : a = b := leq_ok (fun _ _ h => nat_ok h) h
theorem exs_of (h : Has ρ g.H w) : ∀ b hb', g.H.get b = some hb' → (∀ cs, hb'.cs = some cs → ∃ vs, Cs.ev ρ cs = some vs) ∧ (∀ es, hb'.ms = some es → ∃ ps, evMs ρ es = some ps) := fun b hb' hg => by
  obtain ⟨ad, had, hok⟩ := h b hb' hg
  refine ⟨fun cs hc => ?_, fun es he => ?_⟩
  · obtain ⟨vs, h1, _⟩ := HB.reads hok hc
    exact ⟨vs, h1⟩
  · obtain ⟨k, ms, c, _, h2, _⟩ := HB.ms_ok hok he
    exact ⟨_, h2⟩
theorem stepQ_ok (hz : zt.Ok P) (hb : Bok ρ g.e.bi) {H : Hp} {w : World} (hH : Has ρ H w) (hf : Frm ρ n L a) {ops : Array Oper} {L' : Sl} (h : stepQ P zt n ops.toList g.e.bi H L o = some L') : ∃ v, YieldsIf P ops (Has ρ H) o v a ∧ Frm ρ n L' (a.put o.dst v) ∧ (a.put o.dst v).defers = a.defers := by
  unfold stepQ at h
  split at h
  · next hw =>
    split at h
    · next r hr =>
      obtain ⟨v, hv, hrun⟩ := qv_ok hz hb hf (glo_of hH) (exs_of (g := ⟨H, 0, [], g.e⟩) hH) hr
      obtain ⟨h1, h2⟩ := frm_putD hf h hv
      exact ⟨v, .inl ⟨wantsS_ok hf hw, hrun⟩, h1, h2⟩
    · cases h
  · next hw =>
    obtain ⟨h1, h2⟩ := frm_putD hf h (rfl : (SV.tup []).ev ρ = some undef)
    exact ⟨undef, .inr ⟨wantsS_ok hf hw, rfl⟩, h1, h2⟩
  · cases h
theorem hb_back (hle : ρ0.le ρ) {hb : HB} {ad : Addr} {u : World} (h0 : hb.ok ρ0 u ad) {w : World} (h : hb.ok ρ w ad) : hb.ok ρ0 w ad := by
  cases hb with
  | cells cs ty =>
    obtain ⟨k, vs, rfl, h1, _⟩ := h0
    obtain ⟨k', vs', he, h2, h3⟩ := h
    have := Cs.ev_mono hle h1
    rw [h2] at this
    cases this
    cases he
    exact ⟨k, _, rfl, h1, h3⟩
  | ro cs =>
    obtain ⟨vs, h1, _⟩ := h0
    obtain ⟨vs', h2, h3⟩ := h
    have := Cs.ev_mono hle h1
    rw [h2] at this
    cases this
    exact ⟨_, h1, h3⟩
  | frz cs ty =>
    obtain ⟨k, vs, j, fz, rfl, h1, _⟩ := h0
    obtain ⟨k', vs', j', fz', he, h2, h3⟩ := h
    have := Cs.ev_mono hle h1
    rw [h2] at this
    cases this
    cases he
    exact ⟨k, _, j', fz', rfl, h1, h3⟩
  | map es =>
    obtain ⟨k, ms, c, rfl, h1, _⟩ := h0
    obtain ⟨k', ms', c', he, h2, h3⟩ := h
    have := evMs_mono hle h1
    rw [h2] at this
    cases he
    exact ⟨k, ms', c', rfl, by rw [h1]; exact this.symm, h3⟩
  | rom es =>
    obtain ⟨k, ms, c, rfl, h1, _⟩ := h0
    obtain ⟨k', ms', c', he, h2, h3⟩ := h
    have := evMs_mono hle h1
    rw [h2] at this
    cases he
    exact ⟨k, ms', c', rfl, by rw [h1]; exact this.symm, h3⟩
  | glb g cs =>
    obtain ⟨rfl, _, vs, h1, _⟩ := h0
    obtain ⟨_, h4, vs', h2, h3⟩ := h
    have := Cs.ev_mono hle h1
    rw [h2] at this
    cases this
    exact ⟨rfl, h4, _, h1, h3⟩
theorem has_kept {Hs : Hp} {u : World} (hle : ρ0.le ρ) (h0 : Has ρ0 Hs u) {H' : Hp} {w : World} (h : Has ρ H' w) (hs : ∀ j hb, Hs.get j = some hb → H'.get j = some hb) : Has ρ0 Hs w := fun j hb hg => by
  obtain ⟨ad, had, hok⟩ := h0 j hb hg
  obtain ⟨ad', had', hok'⟩ := h j hb (hs j hb hg)
  have := hle.b j ad had
  rw [had'] at this
  cases this
  exact ⟨ad, had, hb_back hle hok hok'⟩
section
variable {ops : Array Oper} {p : Pl} {keep : Option (List Nat)} {Hs : Hp} {rd : List Nat} {rds : List (Nat × Nat)} {base : Nat} {Q : Exit → Act → World → Prop}
theorem stepD_ok (hz : zt.Ok P) {cf : CallF} (hcf : CallOk P I w0 cf) (hpre : preOk ops p ops.size = true) {l : Array Bool} (hsz : l.size = ops.size) {i : Nat} {k : Sl → G → Option (Sl × G)} {r : Sl × G} (h : stepD P zt cf n ops.toList p Hs rd rds base i k L g = some r) (hf : Frm ρ n L a) (hg : Gok I w0 ρ g w) (hle0 : ρ0.le ρ) (hS : ∀ j, j < p.tl → Fre p l j → Has ρ0 (hsAt Hs rd rds j) w)
    {K : Act → World → Prop} (hK : ∀ L1 g1 ρ1 a1 w1, k L1 g1 = some r → Frm ρ1 n L1 a1 → Gok I w0 ρ1 g1 w1 → ρ0.le ρ1 → a1.defers = a.defers → (∀ j, j < p.tl → Fre p (l.setIfInBounds i true) j → Has ρ0 (hsAt Hs rd rds j) w1) → K a1 w1) : wpOp P ops (NoPanic Q) i K a w := by
  unfold stepD at h
  split at h
  · next o ho =>
    rw [nth_eq] at ho
    have ho' : ops[i]? = some o := by simpa using ho
    have his : i < ops.size := (Array.getElem?_eq_some_iff.1 ho').1
    cases hq : bitN p.qm i with
    | true =>
      rw [hq, cond_true] at h
      split at h
      · next L1 hL =>
        obtain ⟨v, hy, hf1, hd⟩ := stepQ_ok (g := g) hz hg.env.bok hg.mem.has hf hL
        exact hy.wpOp ho' hg.mem.has (hK L1 g ρ _ w h hf1 hg hle0 hd (fun j hj hfr => hS j hj hfr.less))
      · cases h
    | false =>
      rw [hq, cond_false] at h
      split at h
      · next hw =>
        split at h
        · next x hx =>
          split at h
          · next L1 hp =>
            unfold wpOp
            simp only [ho', wantsS_ok hf hw, if_true]
            refine .inl (Oper.wp_mono (fun a1 w1 hn => ?_) (op1_ok hz hcf hf hg hx hp (NoPanic Q)))
            obtain ⟨hd, ρ1, hle, hf1, hg1⟩ := hn
            have hdep : ∀ j, Fre p (l.setIfInBounds i true) j → bitN (tcAt p i) j = false := fun j hfr => hfr i (getD_set_self (by rw [hsz]; exact his)) hq
            cases hlt : Nat.blt i p.tl with
            | true =>
              rw [hlt, cond_true] at h
              cases hs : sameR Hs x.H rd rds (tcAt p i) with
              | true =>
                rw [hs, cond_true, gF_eq] at h
                exact hK L1 _ ρ1 a1 w1 h hf1 hg1 (hle0.trans hle) hd (fun j hj hfr => has_kept (hle0.trans hle) (hS j hj hfr.less) hg1.mem.has fun q hb hqq => sameR_ok hs (hdep j hfr) hqq)
              | false => rw [hs, cond_false] at h; cases h
            | false =>
              rw [hlt, cond_false, gF_eq] at h
              have hle' : p.tl ≤ i := Nat.le_of_not_lt fun hi => by rw [blt_iff.2 hi] at hlt; cases hlt
              exact hK L1 _ ρ1 a1 w1 h hf1 hg1 (hle0.trans hle) hd (fun j hj hfr => by
                have h1 := dep_late hpre his hle' hj
                rw [hdep j hfr] at h1
                cases h1)
          · cases h
        · cases h
      · next hw =>
        split at h
        · next L1 hp =>
          obtain ⟨hf1, hd⟩ := frm_putD hf hp (rfl : (SV.tup []).ev ρ = some undef)
          unfold wpOp
          simp only [ho', wantsS_ok hf hw, Bool.false_eq_true, if_false]
          exact hK L1 g ρ _ w h hf1 hg hle0 hd (fun j hj hfr => hS j hj hfr.less)
        · cases h
      · cases h
  · cases h
theorem slgEq_ok {x y : Sl × G} (h : slgEq x y = true) : x = y := by
  simp only [slgEq, Bool.and_eq_true] at h
  exact Prod.ext (leq_ok (fun _ _ h => sleq_ok h) h.1) (G.beq_ok h.2)
theorem forkD_cons (f : Nat → Option (Sl × G)) (i : Nat) (is : List Nat) : forkD f (i :: is) = (match f i, is with
    | some x, [] => some x
    | some x, _ :: _ => match forkD f is with
      | some y => bif slgEq x y then some x else none
      | none => none
    | none, _ => none) := rfl
theorem forkD_ok {f : Nat → Option (Sl × G)} : ∀ {is : List Nat} {r : Sl × G}, forkD f is = some r → ∀ i ∈ is, f i = some r
  | [], r, h => by simp [forkD, lrec] at h
  | i :: is, r, h => by
    rw [forkD_cons] at h
    split at h
    · next x hx => cases h; intro j hj; simp at hj; subst hj; exact hx
    · next x j js hx =>
      split at h
      · next y hy =>
        cases hs : slgEq x y with
        | true =>
          rw [hs, cond_true] at h
          cases h
          have := slgEq_ok hs
          subst this
          intro q hq
          rcases List.mem_cons.1 hq with rfl | hq
          · exact hx
          · exact forkD_ok hy q hq
        | false => rw [hs, cond_false] at h; cases h
      · cases h
    · cases h
theorem firstQ_ok {qm i : Nat} : ∀ {is : List Nat}, firstQ qm is = some i → bitN qm i = true
  | j :: r, h => by
    simp only [firstQ] at h
    cases hb : bitN qm j with
    | true => rw [hb, cond_true] at h; cases h; exact hb
    | false => rw [hb, cond_false] at h; exact firstQ_ok h
theorem nxt_take {p : Pl} {m i : Nat} (h : nxt p m = .take i) : bitN p.qm i = true := by
  unfold nxt at h
  split at h
  · cases h
  · cases h
  · split at h
    · next hq => cases h; exact firstQ_ok hq
    · cases h
theorem dr_ok (hz : zt.Ok P) {cf : CallF} (hcf : CallOk P I w0 cf) (hsel : Region.noSelect ops = true) (hpre : preOk ops p ops.size = true) {L' : Sl} {g' : G} {dF : List Deferred} (k : ∀ ρ' a' w', Frm ρ' n L' a' → Gok I w0 ρ' g' w' → ρ0.le ρ' → a'.defers = dF → Q .normal a' w') :
    ∀ (f m : Nat) (l : Array Bool) {L : Sl} {g : G} {ρ : Env} {a : Act} {w : World}, planR ops p f m l = true → Closed ops l → dr P zt cf n ops.toList p keep Hs rd rds base f m L g = some (L', g') → Frm ρ n L a → Gok I w0 ρ g w → ρ0.le ρ → (∀ j, j < p.tl → Fre p l j → Has ρ0 (hsAt Hs rd rds j) w) → a.defers = dF → AnyZ P ops (NoPanic Q) p (fun j => Has ρ0 (hsAt Hs rd rds j)) f l a w
  | 0, m, l, L, g, ρ, a, w, hpl, hcl, h, hf, hg, hle0, hS, hd => by
    have e1 : planR ops p 0 m l = match nxt p m with
      | .done => leq Nat.beq (Region.ready .any ops l) []
      | _ => false := rfl
    have e2 : dr P zt cf n ops.toList p keep Hs rd rds base 0 m L g = match nxt p m with
      | .done => some (keepL L keep, g)
      | _ => none := rfl
    rw [e1] at hpl
    rw [e2] at h
    split at h
    · next hn =>
      rw [hn] at hpl
      cases h
      exact ⟨leqN hpl, k ρ a w (hf.keep keep) hg hle0 hd⟩
    · cases h
  | f + 1, m, l, L, g, ρ, a, w, hpl, hcl, h, hf, hg, hle0, hS, hd => by
    have e1 : planR ops p (f + 1) m l = match nxt p m with
      | .done => leq Nat.beq (Region.ready .any ops l) []
      | .one i => leq Nat.beq (Region.ready .any ops l) [i] && planR ops p f (setN m i) (l.setIfInBounds i true)
      | .take i => takesT ops p.tl l i && planR ops p f (setN m i) (l.setIfInBounds i true)
      | .fork is => leq Nat.beq (Region.ready .any ops l) is && is.all fun i => planR ops p f (setN m i) (l.setIfInBounds i true) := rfl
    have e2 : dr P zt cf n ops.toList p keep Hs rd rds base (f + 1) m L g = match nxt p m with
      | .done => some (keepL L keep, g)
      | .one i => stepD P zt cf n ops.toList p Hs rd rds base i (dr P zt cf n ops.toList p keep Hs rd rds base f (setN m i)) L g
      | .take i => match nth ops.toList i with
        | some o => match stepQ P zt n ops.toList g.e.bi (hsAt Hs rd rds i) L o with
          | some L' => dr P zt cf n ops.toList p keep Hs rd rds base f (setN m i) L' g
          | none => none
        | none => none
      | .fork is => forkD (fun i => stepD P zt cf n ops.toList p Hs rd rds base i (dr P zt cf n ops.toList p keep Hs rd rds base f (setN m i)) L g) is := rfl
    rw [e1] at hpl
    rw [e2] at h
    split at h
    · next hn =>
      rw [hn] at hpl
      cases h
      have hr := leqN hpl
      exact ⟨fun _ => k ρ a w (hf.keep keep) hg hle0 hd, by rw [hr]; simp⟩
    · next i hn =>
      rw [hn] at hpl
      simp only [Bool.and_eq_true] at hpl
      have hr := leqN hpl.1
      refine ⟨fun h0 => (by rw [hr] at h0; cases h0), fun j hj => ?_⟩
      rw [hr] at hj
      have : j = i := by simpa using hj
      subst this
      exact stepD_ok hz hcf hpre hcl.size h hf hg hle0 hS fun L1 g1 ρ1 a1 w1 hk hf1 hg1 hle1 hd1 hS1 => ⟨hS1, dr_ok hz hcf hsel hpre k f _ _ hpl.2 (hcl.set (by rw [hr]; simp)) hk hf1 hg1 hle1 hS1 (hd1.trans hd)⟩
    · next i hn =>
      rw [hn] at hpl
      simp only [Bool.and_eq_true] at hpl
      split at h
      · next o ho =>
        rw [nth_eq] at ho
        have ho' : ops[i]? = some o := by simpa using ho
        split at h
        · next L1 hL =>
          have ht := hpl.1
          simp only [takesT, Bool.and_eq_true] at ht
          obtain ⟨⟨h3, h4⟩, h5⟩ := ht
          have h5' : i ∈ Region.ready .any ops l := by simpa using h5
          have hit : i < p.tl := Nat.le_of_ble_eq_true h3
          have hun : l.getD i false = false := by
            have hiun := (mem_ready.1 h5').1
            rw [Array.getD_eq_getD_getElem?] at hiun ⊢
            cases hli : l[i]? with
            | none => rfl
            | some b => rw [hli] at hiun; simpa using hiun
          have hS' := hS i hit (Fre.of_open hpre hcl (Array.getElem?_eq_some_iff.1 ho').1 hun)
          obtain ⟨v, hy, hf1, hd1⟩ := stepQ_ok (g := g) hz hg.env.bok (hS'.mono hle0) hf hL
          have hy0 : YieldsIf P ops (Has ρ0 (hsAt Hs rd rds i)) o v a := by
            rcases hy with ⟨h6, h7⟩ | h6
            · exact .inl ⟨h6, fun w' hw' => h7 w' (hw'.mono hle0)⟩
            · exact .inr h6
          exact AnyZ.firstT hpre ho' (Region.noSelect_spec hsel) hit (nxt_take hn) (fun c a w hp => hp.elim) f l a w hcl (Region.free_spec ho' h4) h5' hy0 hS
            (dr_ok hz hcf hsel hpre k f _ _ hpl.2 (hcl.set h5') h hf1 hg hle0 (fun j hj hfr => hS j hj hfr.less) (hd1.trans hd))
        · cases h
      · cases h
    · next is hn =>
      rw [hn] at hpl
      simp only [Bool.and_eq_true] at hpl
      have hr := leqN hpl.1
      have hall := List.all_eq_true.1 hpl.2
      refine ⟨fun h0 => ?_, fun j hj => ?_⟩
      · rw [hr] at h0
        subst h0
        simp [forkD, lrec] at h
      · rw [hr] at hj
        exact stepD_ok hz hcf hpre hcl.size (forkD_ok h j hj) hf hg hle0 hS fun L1 g1 ρ1 a1 w1 hk hf1 hg1 hle1 hd1 hS1 => ⟨hS1, dr_ok hz hcf hsel hpre k f _ _ (hall j hj) (hcl.set (by rw [hr]; exact hj)) hk hf1 hg1 hle1 hS1 (hd1.trans hd)⟩
end
theorem Gok.less (h : Gok I w0 ρ g w) {rs : List Nat} (hr : ∀ i ∈ rs, ρ.b i = none) : Gok I w0 ρ ⟨g.H, g.nb, rs, g.e⟩ w := ⟨h.mem, h.fb, hr, h.env⟩
theorem draw_ok (hz : zt.Ok P) {cf : CallF} (hcf : CallOk P I w0 cf) (hm : P.follows .mixedOrders = true) {ops : Array Oper} {p : Pl} {keep : Option (List Nat)} {id : Nat} {L' : Sl} {g' : G} (hplan : planOk ops p = true)
    (h : draw P zt cf n ops.toList p keep L g = some (L', g')) (hf : Frm ρ n L a) (hg : Gok I w0 ρ g w) {Q : Exit → Act → World → Prop} (k : ∀ a' w', Nxt I w0 ρ n L' g' a a' w' → Q .normal a' w') : (Code.region id ops true).wp P Q a w := by
  simp only [planOk, Bool.and_eq_true] at hplan
  obtain ⟨⟨⟨hsel, _⟩, hpre⟩, hpl⟩ := hplan
  have hdrew : Mok w0 ρ g.H w.drew := hg.mem.same (Env.le.refl ρ) (Kept.drew [] w)
  have hg' : Gok I w0 ρ g w.drew := ⟨hdrew, hg.fb, hg.fr, hg.env⟩
  unfold draw at h
  simp only at h
  generalize rdIds P zt n ops.toList p g.e.bi g.H (lenN ops.toList) 0 L = rds at h
  refine wp_region_noPanic (wp_region_any hm (Any.sound _ _ _ _ (AnyZ.any (p := p) (S := fun j => Has ρ (hsAt g.H (rtIds L p.rt) rds j)) _ _ _ _ ?_)))
  have hlen : lenN ops.toList = ops.size := by rw [lenN_eq]; simp
  have hS : ∀ i, i < p.tl → Fre p (Array.replicate ops.size false) i → Has ρ (hsAt g.H (rtIds L p.rt) rds i) w.drew := fun _ _ _ j hb hj => hdrew.has j hb (someH_ok _ _ hj).1
  cases hfk : p.fk with
  | true =>
    rw [hfk, cond_true] at h
    split at h
    · next L1 g1 hd =>
      cases hall : g.rs.all (fun i => memN i g1.rs) with
      | false => rw [hall, cond_false] at h; cases h
      | true =>
        rw [hall, cond_true] at h
        cases h
        rw [hlen] at hd
        refine dr_ok hz hcf hsel hpre (dF := a.defers) (fun ρ' a' w' hf1 hg1 hle hdd => k a' w' ⟨hdd, ρ', hle, hf1, hg1.less fun i hi => hg1.fr i (memN_ok (List.all_eq_true.1 hall i hi))⟩) ops.size 0 _ hpl (Closed.start ops) hd hf ⟨hdrew, fun i hi => hg.fb i ?_, fun i hi => ?_, hg.env⟩ (Env.le.refl ρ) hS rfl
        · have : g.nb + ops.size ≤ i := hi
          omega
        · rcases List.mem_append.1 hi with hi | hi
          · exact hg.fb i (iota_mem hi).1
          · exact hg.fr i hi
    · cases h
  | false =>
    rw [hfk, cond_false] at h
    rw [hlen] at h
    exact dr_ok hz hcf hsel hpre (dF := a.defers) (fun ρ' a' w' hf1 hg1 hle hdd => k a' w' ⟨hdd, ρ', hle, hf1, hg1⟩) ops.size 0 _ hpl (Closed.start ops) h hf hg' (Env.le.refl ρ) hS rfl
end
end Go.Z
namespace Go.Z
open Go Go.X
structure Cf where
  zt : Zt
  keep : FuncId → Nat → Option Nat
  pl : FuncId → Nat → Option Pl
  tmps : FuncId → List Nat
  use : FuncId → Bool
  prim : FuncId → Option (List SV → G → Option (SV × G))
  dfr : FuncId → Nat → Bool
  skip : FuncId → Nat → Option (Nat → Sl → G → Option (Sl × G))
  lpd : FuncId → Nat → List Nat
inductive Xt where
  | norm
  | exit (i : Nat)
  | ret
def Xt.ex : Xt → Exit
  | .norm => .normal
  | .exit i => .exit i
  | .ret => .ret
noncomputable def codeOk (C : Cf) (f : FuncId) : Code → Bool
  | .seq a b => codeOk C f a && codeOk C f b
  | .region id ops true => match C.pl f id with
    | some p => planOk ops p
    | none => true
  | .cond _ a b => codeOk C f a && codeOk C f b
  | .block _ b => codeOk C f b
  | .loop b => codeOk C f b
  | _ => true
def headId : Code → Nat
  | .seq a _ => headId a
  | .region id _ _ => id
  | .block _ b => headId b
  | _ => 1000000
def loopsOf : Code → List Code
  | .seq a b => loopsOf a ++ loopsOf b
  | .cond _ a b => loopsOf a ++ loopsOf b
  | .block _ b => loopsOf b
  | .loop b => b :: loopsOf b
  | _ => []
def headsS : Nat → List SV → Sl
  | _, [] => []
  | i, v :: r => (i, v) :: headsS (Nat.succ i) r
noncomputable def loadS (P : Program) (bi : Bi) (H : Hp) (t : TypeId) (b o : Nat) : Option EV :=
  match rdB H b with
  | some cs => match wide P t with
    | some m => match partC bi cs o m with
      | some p => some (.agg p)
      | none => none
    | none => bif scalar P t then (match cellC bi cs o with
      | some z => some (.c z)
      | none => none) else none
  | none => none
noncomputable def resS (P : Program) (g : G) (L : Sl) : List ResultVar → Option (List EV)
  | [] => some []
  | .tmp t :: r => match lk L t, resS P g L r with
    | some (.e x), some xs => some (x :: xs)
    | _, _ => none
  | .cell p t :: r => match lk L p, resS P g L r with
    | some (.e (.c (.ptr b o))), some xs => match loadS P g.e.bi g.H t b o with
      | some x => some (x :: xs)
      | none => none
    | _, _ => none
def oneR : List EV → SV
  | [x] => .e x
  | xs => .tup xs
noncomputable def dropB (L : Sl) (ts : List Nat) (H : Hp) : Hp := lrec H (fun t _ ih => match lk L t with
  | some (.e (.c (.ptr b 0))) => ih.del b
  | _ => ih) ts
def dfrOf (c : Code) : Option (Code × Array Oper × Oper × Oper × Operand × Code) :=
  match c with
  | .seq c0 (.seq (.region _ ops false) c1) => match ops.toList with
    | [o1, o2] => match o2.op, o2.dst with
      | .defer ⟨.value x, args, _⟩, none => match args.toList with
        | [] => some (c0, ops, o1, o2, x, c1)
        | _ => none
      | _, _ => none
    | _ => none
  | _ => none
noncomputable def leaveF (P : Program) (C : Cf) (f : FuncId) (fn : Func) (r : Option (Xt × Sl × G)) : Option (SV × G) :=
  match r with
  | some (.exit _, _, _) => none
  | some (_, L, g') => match resS P g' L fn.results.toList with
    | some r => some (oneR r, ⟨dropB L (C.tmps f) g'.H, g'.nb, g'.rs, g'.e⟩)
    | none => none
  | none => none
noncomputable def callF (P : Program) (C : Cf) (ih : FuncId → Nat → Code → Sl → G → Option (Xt × Sl × G)) : CallF := fun f args g =>
  match C.prim f with
  | some p => p args g
  | none => bif C.use f then (match P.funcs[f]? with
    | some fn => match fn.body with
      | some c => bif Nat.ble (lenN args) fn.ntmps then (match dfrOf c with
        | none => leaveF P C f fn (ih f fn.ntmps c (headsS 0 args) g)
        | some (c0, ops, o1, o2, x, c1) => match ih f fn.ntmps c0 (headsS 0 args) g with
          | some (.norm, L, g1) => match wantsS ops.toList L o1, op1 P C.zt (fun _ _ _ => none) L g1 none o1.op with
            | some true, some y => match putD fn.ntmps L o1.dst y.r with
              | some L1 => match wantsS ops.toList L1 o2, evS L1 x with
                | some true, some (.e (.c (.fn fd [] us))) => bif C.dfr fd (lenN us) then leaveF P C f fn (ih f fn.ntmps c1 L1 ⟨y.H, y.nb, y.rs, y.e⟩) else none
                | _, _ => none
              | none => none
            | _, _ => none
          | _ => none) else none
      | none => none
    | none => none) else none
abbrev Ih := FuncId → Nat → Code → Sl → G → Option (Xt × Sl × G)
noncomputable def xSeq (ih : Ih) (f n : Nat) (a b : Code) (L : Sl) (g : G) : Option (Xt × Sl × G) :=
  match ih f n a L g with
  | some (.norm, L', g') => ih f n b L' g'
  | r => r
noncomputable def xRow (P : Program) (C : Cf) (ih : Ih) (f n : Nat) (id : Nat) (ops : Array Oper) (L : Sl) (g : G) : Option (Xt × Sl × G) :=
  match row P C.zt (callF P C ih) n ops.toList ops.toList L g with
  | some (L', g') => some (.norm, keepM L' (C.keep f id), g')
  | none => none
noncomputable def xDraw (P : Program) (C : Cf) (ih : Ih) (f n : Nat) (id : Nat) (ops : Array Oper) (L : Sl) (g : G) : Option (Xt × Sl × G) :=
  match C.pl f id with
  | some p => match draw P C.zt (callF P C ih) n ops.toList p (keepB (C.keep f id)) L g with
    | some (L', g') => some (.norm, L', g')
    | none => none
  | none => none
noncomputable def xCond (ih : Ih) (f n : Nat) (c : Operand) (a b : Code) (L : Sl) (g : G) : Option (Xt × Sl × G) :=
  match evS L c with
  | some (.e (.c (.bool true))) => ih f n a L g
  | some (.e (.c (.bool false))) => ih f n b L g
  | _ => none
noncomputable def xBlock (ih : Ih) (f n : Nat) (id : Nat) (b : Code) (L : Sl) (g : G) : Option (Xt × Sl × G) :=
  match ih f n b L g with
  | some (.exit j, L', g') => bif Nat.beq j id then some (.norm, L', g') else some (.exit j, L', g')
  | r => r
noncomputable def skipS (C : Cf) (f n : Nat) (b : Code) (L : Sl) (g : G) : Option (Sl × G) :=
  match C.skip f (headId b) with
  | some sk => sk n L g
  | none => none
noncomputable def xLoop (C : Cf) (ih : Ih) (f n : Nat) (b : Code) (L : Sl) (g : G) : Option (Xt × Sl × G) :=
  match skipS C f n b L g with
  | some (L', g') => ih f n (.loop b) L' g'
  | none => match ih f n b L g with
    | some (.norm, L', g') => tF (dropB L' (C.lpd f (headId b)) g'.H) fun H => ih f n (.loop b) L' ⟨H, g'.nb, g'.rs, g'.e⟩
    | r => r
noncomputable def exec (P : Program) (C : Cf) : Nat → FuncId → Nat → Code → Sl → G → Option (Xt × Sl × G) :=
  nrec (fun _ _ _ _ _ => none) (fun _ ih f n c L g => match c with
    | .skip => some (.norm, L, g)
    | .seq a b => xSeq ih f n a b L g
    | .region id ops d => bif d then xDraw P C ih f n id ops L g else xRow P C ih f n id ops L g
    | .cond c a b => xCond ih f n c a b L g
    | .block id b => xBlock ih f n id b L g
    | .loop b => xLoop C ih f n b L g
    | .exit id => some (.exit id, L, g)
    | .ret => some (.ret, L, g)
    | _ => none)
def SkipOk (P : Program) (I : In) (w0 : World) (b : Code) (sk : Nat → Sl → G → Option (Sl × G)) : Prop :=
  ∀ n L g L' g', sk n L g = some (L', g') → ∀ (Q : Exit → Act → World → Prop) (m : Nat) (ρ : Env) (a : Act) (w : World), Frm ρ n L a → Gok I w0 ρ g w →
    (∀ ρ' a' w', ρ.le ρ' → Frm ρ' n L' a' → Gok I w0 ρ' g' w' → a'.defers = a.defers → Code.rounds P b Q m a' w') → Code.rounds P b Q (256 + m) a w
def CodeOk (P : Program) (I : In) (w0 : World) (C : Cf) (f : FuncId) (c : Code) : Prop :=
  codeOk C f c = true ∧ ∀ b ∈ loopsOf c, ∀ sk, C.skip f (headId b) = some sk → SkipOk P I w0 b sk
theorem rounds_mono {P : Program} {c : Code} {Q : Exit → Act → World → Prop} : ∀ {n m : Nat} {a : Act} {w : World}, n ≤ m → Code.rounds P c Q n a w → Code.rounds P c Q m a w
  | 0, _, _, _, _, h => h.elim
  | n + 1, 0, _, _, hm, _ => by omega
  | n + 1, m + 1, a, w, hm, h => wp_mono h fun e a' w' q => by
    cases e with
    | normal => exact rounds_mono (Nat.le_of_succ_le_succ hm) q
    | exit i => exact q
    | goto l => exact q
    | ret => exact q
    | panic ch => exact q
    | outgrown => exact q
structure CfOk (P : Program) (I : In) (w0 : World) (C : Cf) : Prop where
  zt : C.zt.Ok P
  mixed : P.follows .mixedOrders = true
  use : ∀ f, C.use f = true → ∀ fn, P.funcs[f]? = some fn → ∀ c, fn.body = some c → Enters P f ∧ CodeOk P I w0 C f c
  prim : ∀ f p, C.prim f = some p → ∀ args g r g', p args g = some (r, g') → ∀ ρ vs w, evVs ρ args = some vs → Gok I w0 ρ g w → Ent P I w0 ρ f vs w r g'
  dfr : ∀ f k, C.dfr f k = true → Enters P f ∧ ∀ vs : List Value, vs.length = k → ∀ w, CallsD P f vs.toArray .returning w fun e u w' => (∃ v, e = .returned v) ∧ u = .returning ∧ Kept [] w w'
section
variable {P : Program} {I : In} {w0 w : World} {ρ : Env} {g : G} {n : Nat} {L : Sl} {a : Act} {C : Cf}
def XOk (I : In) (w0 : World) (ρ : Env) (n : Nat) (xt : Xt) (L : Sl) (g : G) (a : Act) : Exit → Act → World → Prop := fun e a' w' => e = xt.ex ∧ Nxt I w0 ρ n L g a a' w'
theorem CodeOk.seq {f : FuncId} {x y : Code} (h : CodeOk P I w0 C f (.seq x y)) : CodeOk P I w0 C f x ∧ CodeOk P I w0 C f y := by
  have h1 := h.1
  simp only [codeOk, Bool.and_eq_true] at h1
  exact ⟨⟨h1.1, fun b hb => h.2 b (List.mem_append.2 (.inl hb))⟩, h1.2, fun b hb => h.2 b (List.mem_append.2 (.inr hb))⟩
theorem CodeOk.cond {f : FuncId} {c : Operand} {x y : Code} (h : CodeOk P I w0 C f (.cond c x y)) : CodeOk P I w0 C f x ∧ CodeOk P I w0 C f y := by
  have h1 := h.1
  simp only [codeOk, Bool.and_eq_true] at h1
  exact ⟨⟨h1.1, fun b hb => h.2 b (List.mem_append.2 (.inl hb))⟩, h1.2, fun b hb => h.2 b (List.mem_append.2 (.inr hb))⟩
theorem CodeOk.block {f : FuncId} {id : Nat} {b : Code} (h : CodeOk P I w0 C f (.block id b)) : CodeOk P I w0 C f b := ⟨h.1, h.2⟩
theorem CodeOk.loop {f : FuncId} {b : Code} (h : CodeOk P I w0 C f (.loop b)) : CodeOk P I w0 C f b := ⟨h.1, fun b' hb => h.2 b' (List.mem_cons_of_mem _ hb)⟩
theorem headsS_ok : ∀ {args : List SV} {vs : List Value} (i : Nat), evVs ρ args = some vs → ∀ t x, lk (headsS i args) t = some x → ∃ v, x.ev ρ = some v ∧ i ≤ t ∧ vs[t - i]? = some v
  | [], vs, i, h, t, x, hl => by simp [headsS, lk_nil] at hl
  | y :: r, vs, i, h, t, x, hl => by
    simp only [evVs] at h
    split at h
    · next v us hv hus =>
      cases h
      simp only [headsS, lk_cons] at hl
      by_cases hi : i = t
      · subst hi
        rw [Nat.beq_refl, cond_true] at hl
        cases hl
        exact ⟨v, hv, Nat.le_refl _, by simp⟩
      · rw [nbeq hi, cond_false] at hl
        obtain ⟨u, h1, h2, h3⟩ := headsS_ok (i + 1) hus t x hl
        exact ⟨u, h1, by omega, by rw [show t - i = (t - (i + 1)) + 1 from by omega, List.getElem?_cons_succ]; exact h3⟩
    · cases h
theorem evVs_length : ∀ {args : List SV} {vs : List Value}, evVs ρ args = some vs → vs.length = args.length
  | [], _, h => by simp only [evVs] at h; cases h; rfl
  | y :: r, _, h => by
    simp only [evVs] at h
    split at h
    · next v us hv hus => cases h; simp [evVs_length hus]
    · cases h
theorem loadS_ok (hg : Gok I w0 ρ g w) {t : TypeId} {b o : Nat} {x : EV} (h : loadS P g.e.bi g.H t b o = some x) : ∃ ad v, ρ.b b = some ad ∧ x.ev ρ = some v ∧ (loadVar t (ad.add o)).run P w = .ok v w := by
  unfold loadS at h
  split at h
  · next cs hcs =>
    obtain ⟨ad, vs, had, hvs, hrd⟩ := rdB_ok hcs hg.mem.has
    split at h
    · next m hm =>
      split at h
      · next p hp =>
        cases h
        obtain ⟨vm, h1, h2, h3, h4⟩ := partC_ok hg.env.bok hp hvs
        refine ⟨ad, .agg vm.toArray, had, by simp only [EV.ev, h1, Option.map_some], run_loadVar_wide hm _ vm h2 fun j v hj => ?_⟩
        rw [add_add]
        refine hrd _ _ ?_
        rw [← h3, List.getElem?_take] at hj
        split at hj
        · rw [List.getElem?_drop] at hj; exact hj
        · cases hj
      · cases h
    · cases hs : scalar P t with
      | false => rw [hs, cond_false] at h; cases h
      | true =>
        rw [hs, cond_true] at h
        split at h
        · next z hz =>
          cases h
          obtain ⟨v, hv, hgt⟩ := cellC_ok hg.env.bok hz hvs
          exact ⟨ad, v, had, hv, run_loadVar_scalar hs _ v (hrd o v hgt)⟩
        · cases h
  · cases h
theorem resS_ok (hf : Frm ρ n L a) (hg : Gok I w0 ρ g w) : ∀ {rs : List ResultVar} {xs : List EV}, resS P g L rs = some xs → ∃ vs, evEs ρ xs = some vs ∧ (rs.mapM (fun x => (match x with
      | .tmp t => pure (a.tmps.getD t undef)
      | .cell p t => do loadVar t (← asAddr (a.tmps.getD p undef)) : Sem Value))).run P w = .ok vs w
  | [], xs, h => by simp only [resS] at h; cases h; exact ⟨[], rfl, by simp⟩
  | .tmp t :: r, xs, h => by
    simp only [resS] at h
    split at h
    · next x ys hl hr =>
      cases h
      obtain ⟨v, hv, hm⟩ := hf.holds t _ hl
      obtain ⟨vs, h1, h2⟩ := resS_ok hf hg hr
      have hv' : x.ev ρ = some v := hv
      refine ⟨v :: vs, by simp only [evEs, hv', h1], ?_⟩
      rw [List.mapM_cons]
      simp only [Array.getD_eq_getD_getElem?, hm, Option.getD_some] at h2 ⊢
      simp only [Sem.run_bind, Sem.run_pure, Result.andThen_ok, h2]
    · cases h
  | .cell p t :: r, xs, h => by
    simp only [resS] at h
    split at h
    · next b o ys hl hr =>
      split at h
      · next x hx =>
        cases h
        obtain ⟨v, hv, hm⟩ := hf.holds p _ hl
        obtain ⟨vs, h1, h2⟩ := resS_ok hf hg hr
        obtain ⟨ad, u, had, hu, hload⟩ := loadS_ok hg hx
        simp only [SV.ev, EV.ev, SC.ev, had, Option.map_some] at hv
        cases hv
        refine ⟨u :: vs, by simp only [evEs, hu, h1], ?_⟩
        rw [List.mapM_cons]
        simp only [Array.getD_eq_getD_getElem?, hm, Option.getD_some, asAddr] at h2 ⊢
        simp only [Sem.run_bind, Sem.run_pure, Result.andThen_ok, hload, h2]
      · cases h
    · cases h
theorem results_run (hf : Frm ρ n L a) (hg : Gok I w0 ρ g w) {fn : Func} {xs : List EV} (h : resS P g L fn.results.toList = some xs) : ∃ v, (oneR xs).ev ρ = some v ∧ (results fn a.tmps).run P w = .ok v w := by
  obtain ⟨vs, h1, h2⟩ := resS_ok hf hg h
  have hm : (fn.results.mapM fun
    | .tmp t => pure (a.tmps.getD t undef)
    | .cell p t => do loadVar t (← asAddr (a.tmps.getD p undef)) : Sem (Array Value)).run P w = .ok vs.toArray w := by
    rw [Array.mapM_eq_mapM_toList]
    simp only [map_eq_pure_bind, Sem.run_bind]
    rw [h2]
    simp
  have hl : ∀ {xs : List EV} {vs : List Value}, evEs ρ xs = some vs → vs.length = xs.length := by
    intro xs
    induction xs with
    | nil => intro vs h; simp only [evEs] at h; cases h; rfl
    | cons x r ih =>
      intro vs h
      simp only [evEs] at h
      split at h
      · next v us hv hus => cases h; simp [ih hus]
      · cases h
  have hlen := hl h1
  have e1 : (results fn a.tmps).run P w = (Result.ok vs.toArray w).andThen fun vs w' => Sem.run P (pure (if h : vs.size = 1 then vs[0] else .tuple vs)) w' := by
    unfold results
    simp only [Sem.run_bind]
    exact congrArg (fun r => Result.andThen r _) hm
  cases xs with
  | nil =>
    simp only [evEs] at h1
    cases h1
    refine ⟨.tuple #[], rfl, ?_⟩
    rw [e1]
    simp
  | cons x r =>
    cases r with
    | nil =>
      simp only [evEs] at h1
      split at h1
      · next v us hv hus =>
        cases hus; cases h1
        refine ⟨v, hv, ?_⟩
        rw [e1]
        simp
      · cases h1
    | cons y r' =>
      refine ⟨.tuple vs.toArray, by simp only [oneR, SV.ev, h1, Option.map_some], ?_⟩
      rw [e1]
      have : ¬ vs.toArray.size = 1 := by simp at hlen ⊢; omega
      simp only [Result.andThen_ok]
      rw [dif_neg this]
      simp
theorem dropB_less {L : Sl} {H : Hp} : ∀ (ts : List Nat) {j : Nat} {hj : HB}, (dropB L ts H).get j = some hj → H.get j = some hj
  | [], j, hj, h => h
  | t :: r, j, hj, h => by
    have e : dropB L (t :: r) H = match lk L t with
      | some (.e (.c (.ptr b 0))) => (dropB L r H).del b
      | _ => dropB L r H := rfl
    rw [e] at h
    split at h
    · next b hl => exact dropB_less r (T.get_delF _ _ _ _ h)
    · exact dropB_less r h
theorem evPs_length : ∀ {us : List (Nat × Nat)} {vs : List Value}, evPs ρ us = some vs → vs.length = us.length
  | [], _, h => by simp only [evPs] at h; cases h; rfl
  | (b, k) :: r, _, h => by
    simp only [evPs] at h
    split at h
    · next ad vs ha hb => cases h; simp [evPs_length hb]
    · cases h
theorem dfrOf_ok {c c0 c1 : Code} {ops : Array Oper} {o1 o2 : Oper} {x : Operand} (h : dfrOf c = some (c0, ops, o1, o2, x, c1)) :
    ∃ id args ts, c = .seq c0 (.seq (.region id ops false) c1) ∧ ops.toList = [o1, o2] ∧ o2.op = .defer ⟨.value x, args, ts⟩ ∧ o2.dst = none ∧ args.toList = [] := by
  unfold dfrOf at h
  split at h
  · split at h
    · next hops =>
      split at h
      · next hop hdst =>
        split at h
        · next ha => cases h; exact ⟨_, _, _, rfl, hops, hop, hdst, ha⟩
        · cases h
      · cases h
    · cases h
  · cases h
theorem leaveF_ok {f : FuncId} {fn : Func} {xt : Xt} {L : Sl} {g1 : G} {r : SV} {g' : G} (h : leaveF P C f fn (some (xt, L, g1)) = some (r, g')) :
    (xt = .norm ∨ xt = .ret) ∧ ∃ xs, resS P g1 L fn.results.toList = some xs ∧ (r, g') = (oneR xs, (⟨dropB L (C.tmps f) g1.H, g1.nb, g1.rs, g1.e⟩ : G)) := by
  cases xt with
  | exit i => cases h
  | norm =>
    have e : leaveF P C f fn (some (.norm, L, g1)) = match resS P g1 L fn.results.toList with
      | some r => some (oneR r, ⟨dropB L (C.tmps f) g1.H, g1.nb, g1.rs, g1.e⟩)
      | none => none := rfl
    rw [e] at h
    split at h
    · next xs hxs => cases h; exact ⟨.inl rfl, xs, hxs, rfl⟩
    · cases h
  | ret =>
    have e : leaveF P C f fn (some (.ret, L, g1)) = match resS P g1 L fn.results.toList with
      | some r => some (oneR r, ⟨dropB L (C.tmps f) g1.H, g1.nb, g1.rs, g1.e⟩)
      | none => none := rfl
    rw [e] at h
    split at h
    · next xs hxs => cases h; exact ⟨.inr rfl, xs, hxs, rfl⟩
    · cases h
theorem callF_ok (hC : CfOk P I w0 C) {ih : FuncId → Nat → Code → Sl → G → Option (Xt × Sl × G)}
    (hih : ∀ f n c L g xt L' g', ih f n c L g = some (xt, L', g') → CodeOk P I w0 C f c → ∀ ρ a w, Frm ρ n L a → Gok I w0 ρ g w → c.wp P (XOk I w0 ρ n xt L' g' a) a w) : CallOk P I w0 (callF P C ih) := by
  intro f args g r g' h ρ vs w hargs hg
  unfold callF at h
  split at h
  · next p hp => exact hC.prim f p hp args g r g' h ρ vs w hargs hg
  · cases hu : C.use f with
    | false => rw [hu, cond_false] at h; cases h
    | true =>
      rw [hu, cond_true] at h
      split at h
      · next fn hfn =>
        split at h
        · next c hc =>
          obtain ⟨hent, hcode⟩ := hC.use f hu fn hfn c hc
          refine .inl ⟨fun w => hent _ w, ?_⟩
          cases hle : Nat.ble (lenN args) fn.ntmps with
          | false => rw [hle, cond_false] at h; cases h
          | true =>
            rw [hle, cond_true] at h
            have hle' : args.length ≤ fn.ntmps := by rw [← lenN_eq]; exact Nat.le_of_ble_eq_true hle
            have hvl := evVs_length hargs
            have hfr : Frm ρ fn.ntmps (headsS 0 args) { tmps := vs.toArray ++ Array.replicate (fn.ntmps - vs.toArray.size) undef, defers := [] } := by
              refine ⟨by simp; omega, fun t x hx => ?_⟩
              obtain ⟨v, h1, _, h3⟩ := headsS_ok 0 hargs t x hx
              simp only [Nat.sub_zero] at h3
              refine ⟨v, h1, ?_⟩
              have hlt : t < vs.length := (List.getElem?_eq_some_iff.1 h3).1
              rw [Array.getElem?_append_left (by simpa using hlt)]
              simpa using h3
            cases hdf : dfrOf c with
            | none =>
              rw [hdf] at h
              refine calls_of_wp hfn hc ?_
              cases hex : ih f fn.ntmps c (headsS 0 args) g with
              | none => rw [hex] at h; cases h
              | some p =>
                obtain ⟨xt, L', g1⟩ := p
                rw [hex] at h
                obtain ⟨hxt, xs, hxs, hres⟩ := leaveF_ok h
                cases hres
                refine wp_mono (hih f _ c _ g xt L' g1 hex hcode ρ _ w hfr hg) ?_
                rintro e a' w' ⟨he, hd, ρ', hle2, hf', hg'⟩
                obtain ⟨v, hv, hrun⟩ := results_run hf' hg' hxs
                have hb : a'.defers = [] ∧ ∃ v, (results fn a'.tmps).run P w' = .ok v w' ∧ Back I w0 ρ (oneR xs) ⟨dropB L' (C.tmps f) g1.H, g1.nb, g1.rs, g1.e⟩ (.returned v) w' :=
                  ⟨hd, v, hrun, ρ', v, hle2, rfl, hv, ⟨hg'.mem.less fun j hj hjj => dropB_less _ hjj, hg'.fb, hg'.fr, hg'.env⟩⟩
                rcases hxt with rfl | rfl
                · subst he; exact hb
                · subst he; exact hb
            | some p =>
              obtain ⟨c0, ops, o1, o2, x, c1⟩ := p
              rw [hdf] at h
              obtain ⟨id1, args1, ts1, hcc, hops, ho2, hd2, ha1⟩ := dfrOf_ok hdf
              subst hcc
              have hcode2 := hcode.seq
              have hcode3 := hcode2.2.seq
              simp only at h
              refine calls_of_wp_defers hfn hc (wp_seq ?_)
              split at h
              · next L0 g0 hex0 =>
                split at h
                · next y hw1 hy =>
                  split at h
                  · next L1 hp =>
                    split at h
                    · next fd us hw2 hx2 =>
                      cases hdd : C.dfr fd (lenN us) with
                      | false => rw [hdd, cond_false] at h; cases h
                      | true =>
                        rw [hdd, cond_true] at h
                        cases hex : ih f fn.ntmps c1 L1 ⟨y.H, y.nb, y.rs, y.e⟩ with
                        | none => rw [hex] at h; cases h
                        | some p =>
                          obtain ⟨xt, L', g1⟩ := p
                          rw [hex] at h
                          obtain ⟨hxt, xs, hxs, hres⟩ := leaveF_ok h
                          cases hres
                          refine wp_mono (hih f _ c0 _ g .norm L0 g0 hex0 hcode2.1 ρ _ w hfr hg) ?_
                          rintro e a1 w1 ⟨rfl, hda, ρ1, hle1, hf1, hg1⟩
                          refine wp_seq (wp_region_list ?_)
                          rw [hops] at hw1 hw2 ⊢
                          unfold wpList
                          rw [← hops] at hw1 hw2
                          rw [if_pos (wantsS_ok hf1 hw1)]
                          refine .inl (Oper.wp_mono (fun a2 w2 hn => ?_) (op1_ok hC.zt (cf := fun _ _ _ => none) (fun _ _ _ _ _ hc => by cases hc) hf1 hg1 hy hp _))
                          obtain ⟨hdb, ρ2, hle2, hf2, hg2⟩ := hn
                          unfold wpList
                          rw [if_pos (wantsS_ok hf2 hw2)]
                          refine .inl ?_
                          obtain ⟨xv, hxv, hax⟩ := evA hf2 hx2
                          have hfv : ∃ ups, evPs ρ2 us = some ups ∧ xv = .func (.func fd) #[] ups.toArray := by
                            simp only [SV.ev, EV.ev, SC.ev, evPs] at hxv
                            split at hxv
                            · next vp ups hvp hups => cases hvp; cases hxv; exact ⟨ups, hups, rfl⟩
                            · cases hxv
                          obtain ⟨ups, hups, rfl⟩ := hfv
                          obtain ⟨hent2, hidle⟩ := hC.dfr fd _ hdd
                          unfold Oper.wp
                          have e2 : (execOp a2.eval o2).run P w2 = .ok (.defer { target := .fn (.func fd) ups.toArray, args := #[] }) w2 := by
                            have e3 : args1 = #[] := by rw [← Array.toList_inj, ha1]
                            subst e3
                            simp [execOp, ho2, resolve, hax, Deferred.ofValue]
                          rw [e2, Oper.upon_defer, hd2]
                          unfold wpList
                          refine wp_mono (hih f _ c1 L1 _ xt L' g1 hex hcode3.2 ρ2 _ w2 ⟨hf2.size, hf2.holds⟩ hg2) ?_
                          rintro e a3 w3 ⟨he, hdc, ρ3, hle3, hf3, hg3⟩
                          obtain ⟨v, hv, hrun⟩ := results_run hf3 hg3 hxs
                          have hdl : a3.defers = [{ target := .fn (.func fd) ups.toArray, args := #[] }] := by
                            rw [hdc]
                            simp only [Act.put, hdb, hda]
                          have hL : Leaves P fn a3.tmps (Back I w0 ρ (oneR xs) ⟨dropB L' (C.tmps f) g1.H, g1.nb, g1.rs, g1.e⟩) a3.defers .returning w3 := by
                            rw [hdl]
                            refine leaves_cons (by simp) (invoke_func hent2 w3) ((hidle ups (by rw [evPs_length hups, lenN_eq]) w3).mono ?_)
                            rintro e u' w4 ⟨⟨v', rfl⟩, rfl, hk⟩
                            have hg4 : Gok I w0 ρ3 g1 w4 := ⟨hg3.mem.same (Env.le.refl _) hk, hg3.fb, hg3.fr, hg3.env⟩
                            obtain ⟨v, hv, hrun⟩ := results_run hf3 hg4 hxs
                            exact ⟨v, hrun, ρ3, v, (hle1.trans hle2).trans hle3, rfl, hv, ⟨hg4.mem.less fun j hj hjj => dropB_less _ hjj, hg4.fb, hg4.fr, hg4.env⟩⟩
                          rcases hxt with rfl | rfl
                          · subst he; exact hL
                          · subst he; exact hL
                    · cases h
                  · cases h
                · cases h
              · cases h
        · cases h
      · cases h
theorem exec_ok (hC : CfOk P I w0 C) : ∀ (N k : Nat), k ≤ N → ∀ f n c L g xt L' g', exec P C k f n c L g = some (xt, L', g') → CodeOk P I w0 C f c → ∀ ρ a w, Frm ρ n L a → Gok I w0 ρ g w → c.wp P (XOk I w0 ρ n xt L' g' a) a w := by
  intro N
  induction N with
  | zero =>
    intro k hk f n c L g xt L' g' h
    obtain rfl : k = 0 := by omega
    cases h
  | succ N IH =>
    intro k hk f n c L g xt L' g' h hcode ρ a w hf hg
    cases k with
    | zero => cases h
    | succ k =>
      have ih := IH k (by omega)
      have hcf : CallOk P I w0 (callF P C (exec P C k)) := callF_ok hC (fun f n c L g xt L' g' h hc => IH k (by omega) f n c L g xt L' g' h hc)
      cases c with
      | skip => cases h; exact wp_skip ⟨rfl, rfl, ρ, Env.le.refl ρ, hf, hg⟩
      | exit id => cases h; exact wp_exit ⟨rfl, rfl, ρ, Env.le.refl ρ, hf, hg⟩
      | ret => cases h; exact wp_ret ⟨rfl, rfl, ρ, Env.le.refl ρ, hf, hg⟩
      | seq x y =>
        replace hcode := hcode.seq
        have e : exec P C (k + 1) f n (.seq x y) L g = match exec P C k f n x L g with
          | some (.norm, L', g') => exec P C k f n y L' g'
          | r => r := rfl
        rw [e] at h
        refine wp_seq ?_
        split at h
        · next L1 g1 hx =>
          refine wp_mono (ih f n x L g .norm L1 g1 hx hcode.1 ρ a w hf hg) ?_
          rintro e a1 w1 ⟨rfl, hd, ρ1, hle, hf1, hg1⟩
          refine wp_mono (ih f n y L1 g1 xt L' g' h hcode.2 ρ1 a1 w1 hf1 hg1) ?_
          rintro e a2 w2 ⟨rfl, hd2, ρ2, hle2, hf2, hg2⟩
          exact ⟨rfl, hd2.trans hd, ρ2, hle.trans hle2, hf2, hg2⟩
        · next hne =>
          refine wp_mono (ih f n x L g xt L' g' h hcode.1 ρ a w hf hg) ?_
          rintro e a1 w1 ⟨rfl, hn⟩
          cases xt with
          | norm => exact absurd h (hne L' g')
          | exit i => exact ⟨rfl, hn⟩
          | ret => exact ⟨rfl, hn⟩
      | cond c x y =>
        replace hcode := hcode.cond
        have e : exec P C (k + 1) f n (.cond c x y) L g = match evS L c with
          | some (.e (.c (.bool true))) => exec P C k f n x L g
          | some (.e (.c (.bool false))) => exec P C k f n y L g
          | _ => none := rfl
        rw [e] at h
        split at h
        · next hc =>
          obtain ⟨v, hv, hav⟩ := evA hf hc
          cases hv
          exact wp_cond_true hav (ih f n x L g xt L' g' h hcode.1 ρ a w hf hg)
        · next hc =>
          obtain ⟨v, hv, hav⟩ := evA hf hc
          cases hv
          exact wp_cond_false hav (ih f n y L g xt L' g' h hcode.2 ρ a w hf hg)
        · cases h
      | block id b =>
        replace hcode := hcode.block
        have e : exec P C (k + 1) f n (.block id b) L g = match exec P C k f n b L g with
          | some (.exit j, L', g') => bif Nat.beq j id then some (.norm, L', g') else some (.exit j, L', g')
          | r => r := rfl
        rw [e] at h
        refine wp_block ?_
        split at h
        · next j L1 g1 hx =>
          refine wp_mono (ih f n b L g (.exit j) L1 g1 hx hcode ρ a w hf hg) ?_
          rintro e a1 w1 ⟨rfl, hn⟩
          by_cases hj : j = id
          · subst hj
            rw [Nat.beq_refl, cond_true] at h
            cases h
            simp only [Xt.ex, Exit.inBlock, if_true]
            exact ⟨rfl, hn⟩
          · rw [nbeq hj, cond_false] at h
            cases h
            simp only [Xt.ex, Exit.inBlock, hj, if_false]
            exact ⟨rfl, hn⟩
        · next hne =>
          refine wp_mono (ih f n b L g xt L' g' h hcode ρ a w hf hg) ?_
          rintro e a1 w1 ⟨rfl, hn⟩
          cases xt with
          | norm => exact ⟨rfl, hn⟩
          | exit i => exact absurd h (hne i L' g')
          | ret => exact ⟨rfl, hn⟩
      | loop b =>
        refine wp_loop_rounds (257 * (k + 1)) ?_
        have key : ∀ j, j ≤ k + 1 → ∀ L1 g1 ρ1 a1 w1, ρ.le ρ1 → Frm ρ1 n L1 a1 → Gok I w0 ρ1 g1 w1 → a1.defers = a.defers → exec P C j f n (.loop b) L1 g1 = some (xt, L', g') → Code.rounds P b (XOk I w0 ρ n xt L' g' a) (257 * j) a1 w1 := by
          intro j
          induction j with
          | zero => intro _ L1 g1 ρ1 a1 w1 _ _ _ _ hex; cases hex
          | succ j ihj =>
            intro hj L1 g1 ρ1 a1 w1 hle hf1 hg1 hd hex
            have e : exec P C (j + 1) f n (.loop b) L1 g1 = match skipS C f n b L1 g1 with
              | some (L', g') => exec P C j f n (.loop b) L' g'
              | none => match exec P C j f n b L1 g1 with
                | some (.norm, L', g') => tF (dropB L' (C.lpd f (headId b)) g'.H) fun H => exec P C j f n (.loop b) L' ⟨H, g'.nb, g'.rs, g'.e⟩
                | r => r := rfl
            rw [e] at hex
            split at hex
            · next L2 g2 hsk =>
              unfold skipS at hsk
              split at hsk
              · next sk hs =>
                refine rounds_mono (n := 256 + 257 * j) (by omega) (hcode.2 b (List.mem_cons_self ..) sk hs n L1 g1 L2 g2 hsk _ _ ρ1 a1 w1 hf1 hg1 fun ρ2 a2 w2 hle2 hf2 hg2 hd2 => ?_)
                exact ihj (by omega) L2 g2 ρ2 a2 w2 (hle.trans hle2) hf2 hg2 (hd2.trans hd) hex
              · cases hsk
            · refine rounds_mono (n := 257 * j + 1) (by omega) ?_
              show b.wp P (Exit.then (Code.rounds P b (XOk I w0 ρ n xt L' g' a) (257 * j)) (XOk I w0 ρ n xt L' g' a)) a1 w1
              split at hex
              · next L2 g2 hx =>
                refine wp_mono (IH j (by omega) f n b L1 g1 .norm L2 g2 hx hcode.loop ρ1 a1 w1 hf1 hg1) ?_
                rintro e a2 w2 ⟨rfl, hd2, ρ2, hle2, hf2, hg2⟩
                rw [tF_eq] at hex
                exact ihj (by omega) L2 ⟨dropB L2 (C.lpd f (headId b)) g2.H, g2.nb, g2.rs, g2.e⟩ ρ2 a2 w2 (hle.trans hle2) hf2 ⟨hg2.mem.less fun j hj hjj => dropB_less _ hjj, hg2.fb, hg2.fr, hg2.env⟩ (hd2.trans hd) hex
              · next hne =>
                refine wp_mono (IH j (by omega) f n b L1 g1 xt L' g' hex hcode.loop ρ1 a1 w1 hf1 hg1) ?_
                rintro e a2 w2 ⟨rfl, hd2, ρ2, hle2, hf2, hg2⟩
                cases xt with
                | norm => exact absurd hex (hne L' g')
                | exit i => exact ⟨rfl, hd2.trans hd, ρ2, hle.trans hle2, hf2, hg2⟩
                | ret => exact ⟨rfl, hd2.trans hd, ρ2, hle.trans hle2, hf2, hg2⟩
        exact key (k + 1) (Nat.le_refl _) L g ρ a w (Env.le.refl ρ) hf hg rfl h
      | region id ops d =>
        cases d with
        | false =>
          have e : exec P C (k + 1) f n (.region id ops false) L g = match row P C.zt (callF P C (exec P C k)) n ops.toList ops.toList L g with
            | some (L', g') => some (.norm, keepM L' (C.keep f id), g')
            | none => none := rfl
          rw [e] at h
          split at h
          · next L1 g1 hr =>
            cases h
            exact wp_region_list (row_ok hC.zt hcf hr hf hg fun a' w' ⟨hd, ρ', hle, hf', hg'⟩ => ⟨rfl, hd, ρ', hle, hf'.keepM _, hg'⟩)
          · cases h
        | true =>
          have e : exec P C (k + 1) f n (.region id ops true) L g = match C.pl f id with
            | some p => match draw P C.zt (callF P C (exec P C k)) n ops.toList p (keepB (C.keep f id)) L g with
              | some (L', g') => some (.norm, L', g')
              | none => none
            | none => none := rfl
          rw [e] at h
          split at h
          · next p hp =>
            have hcode2 := hcode.1
            simp only [codeOk, hp] at hcode2
            split at h
            · next L1 g1 hr =>
              cases h
              exact draw_ok hC.zt hcf hC.mixed hcode2 hr hf hg fun a' w' hn => ⟨rfl, hn⟩
            · cases h
          · cases h
      | rangeFunc _ _ _ _ => cases h
      | scope _ => cases h
      | label _ => cases h
      | goto _ => cases h
      | refuse _ => cases h
end
end Go.Z
