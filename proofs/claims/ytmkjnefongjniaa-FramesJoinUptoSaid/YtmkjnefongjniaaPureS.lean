/-
  Layer 10: what frames are, as numbers and as bytes; what is written is read, and what is read was written so.
-/
import Derived.Test.YtmkjnefongjniaaPureQ
namespace Go.X
open Go
/-- Ranges, as they lie in memory. -/
def flat : List (Int × Int) → List Int
  | [] => []
  | (x, y) :: r => x :: y :: flat r
@[simp] theorem flat_length : ∀ rs : List (Int × Int), (flat rs).length = 2 * rs.length
  | [] => rfl
  | (x, y) :: r => by simp [flat, flat_length r]; omega
theorem flat_append : ∀ a b : List (Int × Int), flat (a ++ b) = flat a ++ flat b
  | [], _ => rfl
  | (x, y) :: r, b => by simp [flat, flat_append r b]
theorem flat_get : ∀ (rs : List (Int × Int)) (i : Nat), i < rs.length → ((flat rs).drop (i * 2)).take 2 = [(rs.getD i (0, 0)).1, (rs.getD i (0, 0)).2]
  | [], _, h => by simp at h
  | (x, y) :: r, 0, _ => rfl
  | (x, y) :: r, i + 1, h => by
    rw [show (i + 1) * 2 = i * 2 + 1 + 1 by omega]
    simpa [flat] using flat_get r i (by simpa using h)
theorem flat_of : ∀ (m : Nat) (xs : List Int), xs.length = m * 2 → ∃ rs, rs.length = m ∧ flat rs = xs
  | 0, xs, h => ⟨[], rfl, (List.eq_nil_of_length_eq_zero (by omega)).symm⟩
  | m + 1, x :: y :: r, h => by
    obtain ⟨rs, h1, h2⟩ := flat_of m r (by simp at h; omega)
    exact ⟨(x, y) :: rs, by simp [h1], by simp [flat, h2]⟩
  | m + 1, [], h => by simp at h
  | m + 1, [x], h => by simp at h; omega
/-- The number behind which the i-th range begins. -/
def lastR (last : Int) (rs : List (Int × Int)) (i : Nat) : Int := if i = 0 then last else (rs.getD (i - 1) (0, 0)).2
theorem lastR_succ (last : Int) (rs : List (Int × Int)) (i : Nat) : lastR last rs (i + 1) = (rs.getD i (0, 0)).2 := by simp [lastR]
theorem lastR_cases (rs : List (Int × Int)) (i : Nat) : (i = 0 ∧ lastR (0 - 1) rs i = -1 ∧ lastR 0 rs i = 0) ∨ (0 < i ∧ lastR (0 - 1) rs i = lastR 0 rs i) := by
  unfold lastR
  by_cases h : i = 0
  · exact .inl ⟨h, by rw [if_pos h]; rfl, if_pos h⟩
  · exact .inr ⟨by omega, by rw [if_neg h, if_neg h]⟩
/-- The i-th range rises. -/
def risC (rs : List (Int × Int)) (least to : Int) (i : Nat) : Prop :=
  lastR (least - 1) rs i + 1 ≤ (rs.getD i (0, 0)).1 ∧ (rs.getD i (0, 0)).1 < (rs.getD i (0, 0)).2 ∧ (rs.getD i (0, 0)).2 ≤ to
instance (rs : List (Int × Int)) (least to : Int) (i : Nat) : Decidable (risC rs least to i) := by unfold risC; infer_instance
def risP (rs : List (Int × Int)) (least to : Int) : Prop := (∀ i, i < rs.length → risC rs least to i) ∧ rs.length ≤ 8
instance (rs : List (Int × Int)) (least to : Int) : Decidable (risP rs least to) := by unfold risP; infer_instance
def risN (rs : List (Int × Int)) (least to : Int) : Int := if risP rs least to then 1 else 0
theorem risN_yes {rs : List (Int × Int)} {least to : Int} : risN rs least to = 1 ↔ risP rs least to := by unfold risN; split <;> simp_all
theorem risN_no {rs : List (Int × Int)} {least to : Int} {i : Nat} (hi : i < rs.length) (h : ¬ risC rs least to i) : risN rs least to = 0 := by
  unfold risN
  rw [if_neg fun g => h (g.1 i hi)]
theorem risN_end {rs : List (Int × Int)} {least to : Int} (h : ∀ i, i < rs.length → risC rs least to i) : risN rs least to = 1 ↔ rs.length ≤ 8 := by
  rw [risN_yes]
  exact ⟨fun g => g.2, fun g => ⟨h, g⟩⟩
theorem ris_step {rs : List (Int × Int)} {least to : Int} {i : Nat} (h : ∀ q, q < i → risC rs least to q) (hi : risC rs least to i) (q : Nat) (hq : q < i + 1) : risC rs least to q := by
  rcases Nat.lt_or_eq_of_le (Nat.le_of_lt_succ hq) with h1 | rfl
  · exact h q h1
  · exact hi
def tokN (tok : List Int) : Int := if tok = List.replicate 8 0 then 1 else 0
theorem tokN_eq {tok : List Int} : tokN tok = 1 ↔ tok = List.replicate 8 0 := by unfold tokN; split <;> simp_all
@[simp] theorem tokN_zero : tokN (List.replicate 8 0) = 1 := rfl
/-- Which frames may be; r2, r7, z: whether the ranges rise, and whether the token is noughts. -/
def mayN (k a l : Int) (nb nr : Nat) (r2 r7 z : Int) : Prop :=
  0 ≤ a ∧ a ≤ 4611686018427387903 ∧
    ((k = 1 ∧ 1 ≤ nb ∧ nb ≤ 128 ∧ l = 0 ∧ nr = 0 ∧ z = 1) ∨ (k = 2 ∧ 0 ≤ l ∧ l ≤ 4611686018427387903 ∧ r2 = 1 ∧ nb = 0 ∧ z = 1) ∨ ((k = 3 ∨ k = 4) ∧ a = 0 ∧ l = 0 ∧ nb = 0 ∧ nr = 0) ∨
      (k = 5 ∧ a ≤ 65535 ∧ l = 0 ∧ nb = 0 ∧ nr = 0 ∧ z = 1) ∨ (k = 6 ∧ l = 0 ∧ nb = 0 ∧ nr = 0 ∧ z = 1) ∨ (k = 7 ∧ 0 ≤ l ∧ l ≤ 65535 ∧ r7 = 1 ∧ nb = 0 ∧ z = 1))
instance (k a l : Int) (nb nr : Nat) (r2 r7 z : Int) : Decidable (mayN k a l nb nr r2 r7 z) := by unfold mayN; infer_instance
/-- A frame. -/
structure Frm where
  k : Int
  a : Int
  l : Int
  rs : List (Int × Int)
  bs : List Int
  tok : List Int
theorem Frm.ext' {f g : Frm} (h1 : f.k = g.k) (h2 : f.a = g.a) (h3 : f.l = g.l) (h4 : f.rs = g.rs) (h5 : f.bs = g.bs) (h6 : f.tok = g.tok) : f = g := by
  cases f; cases g; simp_all
def frOK (f : Frm) : Prop := mayN f.k f.a f.l f.bs.length f.rs.length (risN f.rs (f.a + 1) 4611686018427387903) (risN f.rs 0 f.a) (tokN f.tok)
instance (f : Frm) : Decidable (frOK f) := by unfold frOK; infer_instance
def chkE (f : Frm) : Int := if frOK f then 0 else 100
theorem chkE_yes {f : Frm} (h : frOK f) : chkE f = 0 := if_pos h
theorem chkE_no {f : Frm} (h : ¬ frOK f) : chkE f = 100 := if_neg h
theorem chkE_zero {f : Frm} : chkE f = 0 ↔ frOK f := by unfold chkE; split <;> simp_all
/-- The bytes of ranges, from a number on. -/
def wrR : List (Int × Int) → Int → List Int
  | [], _ => []
  | (x, y) :: r, last => putV (x - last).toNat ++ (putV (y - x).toNat ++ wrR r y)
theorem wrR_app : ∀ (a : List (Int × Int)) (x y last : Int), wrR (a ++ [(x, y)]) last = wrR a last ++ (putV (x - lastR last a a.length).toNat ++ putV (y - x).toNat)
  | [], x, y, last => by simp [wrR, lastR]
  | (u, v) :: r, x, y, last => by
    have h := wrR_app r x y v
    have e : lastR v r r.length = lastR last ((u, v) :: r) ((u, v) :: r).length := by
      unfold lastR
      cases r with
      | nil => simp
      | cons p r => simp
    simp [wrR, h, e]
theorem lastR_take (last : Int) (rs : List (Int × Int)) (i : Nat) (h : i ≤ rs.length) : lastR last (rs.take i) i = lastR last rs i := by
  unfold lastR
  split
  · rfl
  · rw [List.getD_eq_getElem?_getD, List.getD_eq_getElem?_getD, List.getElem?_take, if_pos (by omega)]
theorem wrR_take (rs : List (Int × Int)) (last : Int) (i : Nat) (h : i < rs.length) :
    wrR (rs.take (i + 1)) last = wrR (rs.take i) last ++ (putV ((rs.getD i (0, 0)).1 - lastR last rs i).toNat ++ putV ((rs.getD i (0, 0)).2 - (rs.getD i (0, 0)).1).toNat) := by
  have e : rs.take (i + 1) = rs.take i ++ [((rs.getD i (0, 0)).1, (rs.getD i (0, 0)).2)] := by
    rw [List.take_add_one, List.getElem?_eq_getElem h]
    simp [List.getElem?_eq_getElem h, -List.take_append_getElem]
  rw [e, wrR_app]
  have hl : (rs.take i).length = i := by rw [List.length_take]; omega
  rw [hl, lastR_take last rs i (by omega)]
/-- What stands behind a frame's kind. -/
def wrT (f : Frm) : List Int :=
  if f.k = 3 ∨ f.k = 4 then f.tok
  else if f.k = 1 then putV f.a.toNat ++ (putV f.bs.length ++ f.bs)
  else if f.k = 2 then putV f.a.toNat ++ (putV f.l.toNat ++ (putV f.rs.length ++ wrR f.rs f.a))
  else if f.k = 7 then putV f.a.toNat ++ (putV f.l.toNat ++ (putV f.rs.length ++ wrR f.rs 0))
  else putV f.a.toNat
/-- A frame's bytes. -/
def wr (f : Frm) : List Int := f.k :: wrT f
def wrs (l : List Frm) : List Int := (l.map wr).flatten
theorem wrs_app (a b : List Frm) : wrs (a ++ b) = wrs a ++ wrs b := by simp [wrs]
theorem wrs_one (f : Frm) : wrs [f] = wr f := by simp [wrs]
/-! Reading. -/
abbrev Res (α : Type) := Except Int (α × List Int)
def andThen {α β : Type} (x : Res α) (f : α → List Int → Res β) : Res β :=
  match x with
  | .error e => .error e
  | .ok (y, b) => f y b
@[simp] theorem andThen_ok {α β : Type} (y : α) (b : List Int) (f : α → List Int → Res β) : andThen (.ok (y, b)) f = f y b := rfl
@[simp] theorem andThen_error {α β : Type} (e : Int) (f : α → List Int → Res β) : andThen (.error e) f = .error e := rfl
def pTake (b : List Int) : Res Nat := if takeOk b = true then .ok (tv b, b.drop (2 ^ tk b)) else .error (takeE b)
theorem pTake_ok {b : List Int} (h : takeOk b = true) : pTake b = .ok (tv b, b.drop (2 ^ tk b)) := if_pos h
theorem pTake_no {b : List Int} (h : takeOk b = false) : pTake b = .error (takeE b) := if_neg (by simp [h])
def textOk (b : List Int) : Prop := takeOk b = true ∧ tv b ≤ 128 ∧ tv b ≤ b.length - 2 ^ tk b
instance (b : List Int) : Decidable (textOk b) := by unfold textOk; infer_instance
def pText (b : List Int) : Res (List Int) := if textOk b then .ok ((b.drop (2 ^ tk b)).take (tv b), (b.drop (2 ^ tk b)).drop (tv b)) else .error (tbE b 128)
def pRs : Nat → List (Int × Int) → Int → List Int → Res (List (Int × Int))
  | 0, acc, _, b => .ok (acc, b)
  | n + 1, acc, last, b => andThen (pTake b) fun g b => andThen (pTake b) fun m b =>
    if 4611686018427387903 - last < g ∨ 4611686018427387903 - last - g < m then .error 100 else pRs n (acc ++ [(last + g, last + g + m)]) (last + g + m) b
def pRgs (last : Int) (b : List Int) : Res (List (Int × Int)) := andThen (pTake b) fun n b => if 8 < n then .error 100 else pRs n [] last b
def chk (f : Frm) (b : List Int) : Res Frm := if frOK f then .ok (f, b) else .error 100
def pBody (k : Int) (b : List Int) : Res Frm :=
  if k = 3 ∨ k = 4 then (if b.length < 8 then .error 3 else .ok (⟨k, 0, 0, [], [], b.take 8⟩, b.drop 8))
  else if k = 1 then andThen (pTake b) fun a b => andThen (pText b) fun t b => chk ⟨k, a, 0, [], t, List.replicate 8 0⟩ b
  else if k = 2 then andThen (pTake b) fun a b => andThen (pTake b) fun l b => andThen (pRgs a b) fun rs b => chk ⟨k, a, l, rs, [], List.replicate 8 0⟩ b
  else if k = 7 then andThen (pTake b) fun a b => andThen (pTake b) fun l b => andThen (pRgs 0 b) fun rs b => chk ⟨k, a, l, rs, [], List.replicate 8 0⟩ b
  else if k = 5 ∨ k = 6 then andThen (pTake b) fun a b => chk ⟨k, a, 0, [], [], List.replicate 8 0⟩ b
  else chk ⟨k, 0, 0, [], [], List.replicate 8 0⟩ b
def pFrame (b : List Int) : Res Frm := pBody (b.getD 0 0) (b.drop 1)
def pAll : Nat → List Frm → List Int → Except Int (List Frm)
  | n, acc, [] => (fun _ => .ok acc) n
  | 0, _, _ :: _ => .error 2
  | n + 1, acc, x :: b =>
    match pFrame (x :: b) with
    | .error e => .error e
    | .ok (f, r) => pAll n (acc ++ [f]) r
theorem pAll_nil (n : Nat) (acc : List Frm) : pAll n acc [] = .ok acc := by cases n <;> rfl
theorem pAll_full (acc : List Frm) {b : List Int} (h : b ≠ []) : pAll 0 acc b = .error 2 := by
  cases b with
  | nil => exact absurd rfl h
  | cons x b => rfl
theorem pAll_ok {n : Nat} {acc : List Frm} {b r : List Int} {f : Frm} (h : b ≠ []) (hf : pFrame b = .ok (f, r)) : pAll (n + 1) acc b = pAll n (acc ++ [f]) r := by
  cases b with
  | nil => exact absurd rfl h
  | cons x b => rw [pAll, hf]
theorem pAll_no {n : Nat} {acc : List Frm} {b : List Int} {e : Int} (h : b ≠ []) (hf : pFrame b = .error e) : pAll (n + 1) acc b = .error e := by
  cases b with
  | nil => exact absurd rfl h
  | cons x b => rw [pAll, hf]
/-- What bytes are read as. -/
def dec (b : List Int) : Except Int (List Frm) := if 256 < b.length then .error 2 else pAll 16 [] b
/-! What is written, cut anywhere. -/
def Cuts {α : Type} (p : List Int → Res α) (t : List Int) (v : α) : Prop := ∀ (r : List Int) (j : Nat), p ((t ++ r).take j) = if t.length ≤ j then .ok (v, r.take (j - t.length)) else .error 3
theorem cut_app (t r : List Int) (j : Nat) : (t ++ r).take j = t.take j ++ r.take (j - t.length) := List.take_append
theorem Cuts.bind {α β : Type} {p : List Int → Res α} {q : α → List Int → Res β} {t u : List Int} {v : α} {x : β} (hp : Cuts p t v) (hq : Cuts (q v) u x) : Cuts (fun b => andThen (p b) q) (t ++ u) x := by
  intro r j
  simp only [List.append_assoc, hp (u ++ r) j]
  by_cases h : t.length ≤ j
  · rw [if_pos h, andThen_ok, hq r]
    by_cases g : u.length ≤ j - t.length
    · rw [if_pos g, if_pos (by rw [List.length_append]; omega), List.length_append, Nat.sub_sub]
    · rw [if_neg g, if_neg (by rw [List.length_append]; omega)]
  · rw [if_neg h, if_neg (by rw [List.length_append]; omega), andThen_error]
theorem cuts_end {α : Type} {p : List Int → Res α} {v : α} (h : ∀ b, p b = .ok (v, b)) : Cuts p [] v := fun r j => by
  rw [List.nil_append, h, List.length_nil, if_pos (Nat.zero_le _), Nat.sub_zero]
theorem getD_take0 {b : List Int} {j : Nat} (h : 0 < j) : (b.take j).getD 0 0 = b.getD 0 0 := by
  cases b with
  | nil => simp
  | cons x b =>
    cases j with
    | zero => omega
    | succ j => rfl
theorem cuts_take (n : Nat) (h : n < 4611686018427387904) : Cuts pTake (putV n) n := fun r j => by
  by_cases hj : (putV n).length ≤ j
  · rw [if_pos hj, cut_app, List.take_of_length_le hj, pTake_ok (take_put n h _), tv_put n h, drop_put n h]
  · rw [if_neg hj]
    have hl : ((putV n ++ r).take j).length = j := by rw [List.length_take, List.length_append]; omega
    have hb : ¬ 2 ^ kd n ≤ j := by rw [← putV_length]; exact hj
    by_cases h0 : j = 0
    · subst h0
      rfl
    · have ht : tk ((putV n ++ r).take j) = kd n := by
        have := tk_put n h r
        unfold tk at *
        rw [getD_take0 (by omega)]
        exact this
      have e : takeOk ((putV n ++ r).take j) = false := by
        unfold takeOk
        rw [ht, hl]
        exact decide_eq_false fun g => hb g.2.1
      rw [pTake_no e, takeE, if_pos (.inr (by rw [hl, ht]; omega))]
theorem cuts_text (t : List Int) (h : t.length ≤ 128) : Cuts pText (putV t.length ++ t) t := fun r j => by
  have hn : t.length < 4611686018427387904 := by omega
  by_cases hj : (putV t.length).length ≤ j
  · have e : (putV t.length ++ t ++ r).take j = putV t.length ++ (t ++ r).take (j - (putV t.length).length) := by rw [List.append_assoc, cut_app, List.take_of_length_le hj]
    rw [e]
    have hk := tk_put t.length hn ((t ++ r).take (j - (putV t.length).length))
    have hv := tv_put t.length hn ((t ++ r).take (j - (putV t.length).length))
    have hd := drop_put t.length hn ((t ++ r).take (j - (putV t.length).length))
    have ho := take_put t.length hn ((t ++ r).take (j - (putV t.length).length))
    have hle : (putV t.length ++ (t ++ r).take (j - (putV t.length).length)).length - 2 ^ tk (putV t.length ++ (t ++ r).take (j - (putV t.length).length)) = ((t ++ r).take (j - (putV t.length).length)).length := by
      rw [hk, List.length_append, putV_length]; omega
    by_cases hf : (putV t.length ++ t).length ≤ j
    · rw [if_pos hf]
      have hf' : t.length ≤ j - (putV t.length).length := by rw [List.length_append] at hf; omega
      have hT : (t ++ r).take (j - (putV t.length).length) = t ++ r.take (j - (putV t.length ++ t).length) := by
        rw [cut_app, List.take_of_length_le hf', List.length_append, Nat.sub_sub]
      have hok : textOk (putV t.length ++ (t ++ r).take (j - (putV t.length).length)) := ⟨ho, by omega, by rw [hv, hle, hT, List.length_append]; omega⟩
      rw [pText, if_pos hok, hd, hv, hT]
      simp
    · rw [if_neg hf]
      have hs : ((t ++ r).take (j - (putV t.length).length)).length < t.length := by
        rw [List.length_append] at hf
        rw [List.length_take]; omega
      have hno : ¬ textOk (putV t.length ++ (t ++ r).take (j - (putV t.length).length)) := fun g => by have := g.2.2; rw [hv, hle] at this; omega
      rw [pText, if_neg hno, tbE, if_neg (by rw [ho]; decide), if_neg (by rw [hv]; omega)]
  · have h1 := cuts_take t.length hn (t ++ r) j
    rw [if_neg hj, ← List.append_assoc] at h1
    have e : takeOk ((putV t.length ++ t ++ r).take j) = false := by
      cases hq : takeOk ((putV t.length ++ t ++ r).take j) with
      | false => rfl
      | true => rw [pTake_ok hq] at h1; cases h1
    rw [pTake_no e] at h1
    rw [if_neg (by rw [List.length_append]; omega), pText, if_neg (fun g => by have := g.1; rw [e] at this; cases this), tbE, if_pos e]
    injection h1 with h1
    rw [h1]
theorem cuts_rs : ∀ (rs acc : List (Int × Int)) (last to : Int), 0 ≤ last → to ≤ 4611686018427387903 → (∀ i, i < rs.length → lastR last rs i ≤ (rs.getD i (0, 0)).1 ∧ (rs.getD i (0, 0)).1 < (rs.getD i (0, 0)).2 ∧ (rs.getD i (0, 0)).2 ≤ to) →
    Cuts (pRs rs.length acc last) (wrR rs last) (acc ++ rs)
  | [], acc, last, to, _, _, _ => cuts_end fun b => by simp [pRs]
  | (x, y) :: r, acc, last, to, h0, hto, h => by
    have h1 := h 0 (by simp)
    simp [lastR] at h1
    have ih := cuts_rs r (acc ++ [(x, y)]) y to (by omega) hto fun i hi => by
      have h2 := h (i + 1) (by simpa using hi)
      rw [lastR_succ] at h2
      simp at h2
      cases i with
      | zero => simpa [lastR] using h2
      | succ i => simpa [lastR] using h2
    rw [List.append_assoc] at ih
    have e1 : ((x - last).toNat : Int) = x - last := Int.toNat_of_nonneg (by omega)
    have e2 : ((y - x).toNat : Int) = y - x := Int.toNat_of_nonneg (by omega)
    refine (cuts_take (x - last).toNat (by omega)).bind (q := fun (g : Nat) b => andThen (pTake b) fun m b => if 4611686018427387903 - last < g ∨ 4611686018427387903 - last - g < m then .error 100 else pRs r.length (acc ++ [(last + g, last + g + m)]) (last + g + m) b) ?_
    refine (cuts_take (y - x).toNat (by omega)).bind (q := fun (m : Nat) b => if 4611686018427387903 - last < ((x - last).toNat : Int) ∨ 4611686018427387903 - last - ((x - last).toNat : Int) < m then .error 100 else pRs r.length (acc ++ [(last + ((x - last).toNat : Int), last + ((x - last).toNat : Int) + m)]) (last + ((x - last).toNat : Int) + m) b) ?_
    have e3 : last + (x - last) = x := by omega
    have e4 : x + (y - x) = y := by omega
    have hno : ¬ (4611686018427387903 - last < x - last ∨ 4611686018427387903 - last - (x - last) < y - x) := by omega
    simp only [e1, e2, e3, e4, if_neg hno]
    exact ih
theorem lastR_ge {rs : List (Int × Int)} {last to : Int} (h : ∀ i, i < rs.length → risC rs (last + 1) to i) (i : Nat) (hi : i < rs.length) :
    lastR last rs i ≤ (rs.getD i (0, 0)).1 ∧ (rs.getD i (0, 0)).1 < (rs.getD i (0, 0)).2 ∧ (rs.getD i (0, 0)).2 ≤ to := by
  obtain ⟨h1, h2, h3⟩ := h i hi
  rw [show last + 1 - 1 = last by omega] at h1
  exact ⟨by omega, h2, h3⟩
theorem ris_zero {rs : List (Int × Int)} {to : Int} (h : ∀ i, i < rs.length → risC rs 0 to i) (i : Nat) (hi : i < rs.length) :
    lastR 0 rs i ≤ (rs.getD i (0, 0)).1 ∧ (rs.getD i (0, 0)).1 < (rs.getD i (0, 0)).2 ∧ (rs.getD i (0, 0)).2 ≤ to := by
  obtain ⟨h1, h2, h3⟩ := h i hi
  refine ⟨?_, h2, h3⟩
  unfold lastR at *
  split <;> simp_all <;> omega
theorem cuts_rgs (rs : List (Int × Int)) (last to : Int) (h0 : 0 ≤ last) (hto : to ≤ 4611686018427387903) (h8 : rs.length ≤ 8) (h : ∀ i, i < rs.length → lastR last rs i ≤ (rs.getD i (0, 0)).1 ∧ (rs.getD i (0, 0)).1 < (rs.getD i (0, 0)).2 ∧ (rs.getD i (0, 0)).2 ≤ to) :
    Cuts (pRgs last) (putV rs.length ++ wrR rs last) rs := by
  refine (cuts_take rs.length (by omega)).bind (q := fun (n : Nat) b => if 8 < n then .error 100 else pRs n [] last b) ?_
  simp only [if_neg (Nat.not_lt.2 h8)]
  exact cuts_rs rs [] last to h0 hto h
theorem cuts_body (f : Frm) (hf : frOK f) (ht : f.tok.length = 8) : Cuts (pBody f.k) (wrT f) f := by
  obtain ⟨k, a, l, rs, bs, tok⟩ := f
  have ht' : tok.length = 8 := ht
  have hf' : mayN k a l bs.length rs.length (risN rs (a + 1) 4611686018427387903) (risN rs 0 a) (tokN tok) := hf
  obtain ⟨ha, ha', hc⟩ := hf'
  have ea : ((a.toNat : Nat) : Int) = a := Int.toNat_of_nonneg ha
  have hck : ∀ g : Frm, g = ⟨k, a, l, rs, bs, tok⟩ → Cuts (chk g) [] ⟨k, a, l, rs, bs, tok⟩ := fun g hg => by subst hg; exact cuts_end fun b => if_pos hf
  rcases hc with ⟨rfl, h1, h2, rfl, h3, h4⟩ | ⟨rfl, h1, h2, h3, h4, h5⟩ | ⟨hk, rfl, rfl, h1, h2⟩ | ⟨rfl, h1, rfl, h2, h3, h4⟩ | ⟨rfl, rfl, h1, h2, h3⟩ | ⟨rfl, h1, h2, h3, h4, h5⟩
  · have e : wrT ⟨1, a, 0, rs, bs, tok⟩ = putV a.toNat ++ (putV bs.length ++ bs ++ []) := by simp [wrT]
    rw [e]
    refine (cuts_take a.toNat (by omega)).bind (q := fun (a : Nat) b => andThen (pText b) fun t b => chk ⟨1, a, 0, [], t, List.replicate 8 0⟩ b) ?_
    refine (cuts_text bs h2).bind (q := fun t b => chk ⟨1, (a.toNat : Int), 0, [], t, List.replicate 8 0⟩ b) (hck _ ?_)
    rw [ea, List.eq_nil_of_length_eq_zero h3, tokN_eq.1 h4]
  · have e : wrT ⟨2, a, l, rs, bs, tok⟩ = putV a.toNat ++ (putV l.toNat ++ (putV rs.length ++ wrR rs a ++ [])) := by simp [wrT]
    rw [e]
    have hr := risN_yes.1 h3
    refine (cuts_take a.toNat (by omega)).bind (q := fun (a : Nat) b => andThen (pTake b) fun l b => andThen (pRgs a b) fun rs b => chk ⟨2, a, l, rs, [], List.replicate 8 0⟩ b) ?_
    refine (cuts_take l.toNat (by omega)).bind (q := fun (l : Nat) b => andThen (pRgs (a.toNat : Int) b) fun rs b => chk ⟨2, (a.toNat : Int), l, rs, [], List.replicate 8 0⟩ b) ?_
    have el : ((l.toNat : Nat) : Int) = l := Int.toNat_of_nonneg h1
    rw [ea, el]
    refine (cuts_rgs rs a _ ha (Int.le_refl _) hr.2 (lastR_ge hr.1)).bind (q := fun rs b => chk ⟨2, a, l, rs, [], List.replicate 8 0⟩ b) (hck _ ?_)
    rw [List.eq_nil_of_length_eq_zero h4, tokN_eq.1 h5]
  · have e : wrT ⟨k, 0, 0, rs, bs, tok⟩ = tok := by simp [wrT, hk]
    rw [e]
    obtain rfl := List.eq_nil_of_length_eq_zero h1
    obtain rfl := List.eq_nil_of_length_eq_zero h2
    intro r j
    have e2 : ∀ b, pBody k b = if b.length < 8 then .error 3 else .ok (⟨k, 0, 0, [], [], b.take 8⟩, b.drop 8) := fun b => by rw [pBody, if_pos hk]
    rw [e2]
    by_cases hj : tok.length ≤ j
    · rw [if_pos hj, cut_app, List.take_of_length_le hj, if_neg (by rw [List.length_append]; omega)]
      simp [← ht']
    · rw [if_neg hj, if_pos (by rw [List.length_take, List.length_append]; omega)]
  · have e : wrT ⟨5, a, 0, rs, bs, tok⟩ = putV a.toNat ++ [] := by simp [wrT]
    rw [e]
    refine (cuts_take a.toNat (by omega)).bind (q := fun (a : Nat) b => chk ⟨5, a, 0, [], [], List.replicate 8 0⟩ b) (hck _ ?_)
    rw [ea, List.eq_nil_of_length_eq_zero h2, List.eq_nil_of_length_eq_zero h3, tokN_eq.1 h4]
  · have e : wrT ⟨6, a, 0, rs, bs, tok⟩ = putV a.toNat ++ [] := by simp [wrT]
    rw [e]
    refine (cuts_take a.toNat (by omega)).bind (q := fun (a : Nat) b => chk ⟨6, a, 0, [], [], List.replicate 8 0⟩ b) (hck _ ?_)
    rw [ea, List.eq_nil_of_length_eq_zero h1, List.eq_nil_of_length_eq_zero h2, tokN_eq.1 h3]
  · have e : wrT ⟨7, a, l, rs, bs, tok⟩ = putV a.toNat ++ (putV l.toNat ++ (putV rs.length ++ wrR rs 0 ++ [])) := by simp [wrT]
    rw [e]
    have hr := risN_yes.1 h3
    refine (cuts_take a.toNat (by omega)).bind (q := fun (a : Nat) b => andThen (pTake b) fun l b => andThen (pRgs 0 b) fun rs b => chk ⟨7, a, l, rs, [], List.replicate 8 0⟩ b) ?_
    refine (cuts_take l.toNat (by omega)).bind (q := fun (l : Nat) b => andThen (pRgs 0 b) fun rs b => chk ⟨7, (a.toNat : Int), l, rs, [], List.replicate 8 0⟩ b) ?_
    have el : ((l.toNat : Nat) : Int) = l := Int.toNat_of_nonneg h1
    rw [ea, el]
    refine (cuts_rgs rs 0 a (Int.le_refl _) ha' hr.2 (ris_zero hr.1)).bind (q := fun rs b => chk ⟨7, a, l, rs, [], List.replicate 8 0⟩ b) (hck _ ?_)
    rw [List.eq_nil_of_length_eq_zero h4, tokN_eq.1 h5]
/-- A frame that is cut. -/
theorem frame_cut (f : Frm) (hf : frOK f) (ht : f.tok.length = 8) (r : List Int) (j : Nat) (hj : 0 < j) : pFrame ((wr f ++ r).take j) = if (wr f).length ≤ j then .ok (f, r.take (j - (wr f).length)) else .error 3 := by
  obtain ⟨j, rfl⟩ := Nat.exists_eq_add_of_lt hj
  have h := cuts_body f hf ht r j
  rw [Nat.zero_add]
  have e : (wr f ++ r).take (j + 1) = f.k :: (wrT f ++ r).take j := rfl
  have e2 : (wr f).length = (wrT f).length + 1 := rfl
  rw [e, e2]
  show pBody f.k ((wrT f ++ r).take j) = _
  rw [h]
  by_cases g : (wrT f).length ≤ j
  · rw [if_pos g, if_pos (by omega), Nat.add_sub_add_right]
  · rw [if_neg g, if_neg (by omega)]
theorem frame_back (f : Frm) (hf : frOK f) (ht : f.tok.length = 8) (r : List Int) : pFrame (wr f ++ r) = .ok (f, r) := by
  have h := frame_cut f hf ht r (wr f ++ r).length (by simp [wr])
  rw [List.take_length, if_pos (by simp)] at h
  rw [h, List.length_append, Nat.add_sub_cancel_left, List.take_length]
theorem all_back : ∀ (l : List Frm) (n : Nat) (acc : List Frm), l.length ≤ n → (∀ f ∈ l, frOK f ∧ f.tok.length = 8) → pAll n acc (wrs l) = .ok (acc ++ l)
  | [], n, acc, _, _ => by rw [show wrs [] = [] from rfl, pAll_nil, List.append_nil]
  | f :: l, 0, acc, h, _ => by simp at h
  | f :: l, n + 1, acc, h, hl => by
    have hf := hl f (List.mem_cons_self ..)
    rw [show wrs (f :: l) = wr f ++ wrs l from rfl, pAll_ok (by simp [wr]) (frame_back f hf.1 hf.2 _), all_back l n (acc ++ [f]) (by simpa using h) fun g hg => hl g (List.mem_cons_of_mem _ hg)]
    simp
/-- What is written is read. -/
theorem dec_back (l : List Frm) (h : l.length ≤ 16) (hb : (wrs l).length ≤ 256) (hl : ∀ f ∈ l, frOK f ∧ f.tok.length = 8) : dec (wrs l) = .ok l := by
  rw [dec, if_neg (by omega), all_back l 16 [] h hl, List.nil_append]
/-- A frame that is cut is short. -/
theorem dec_cut (f : Frm) (hf : frOK f) (ht : f.tok.length = 8) (j : Nat) (h0 : 0 < j) (h1 : j < (wr f).length) (h2 : j ≤ 256) : dec ((wr f).take j) = .error 3 := by
  have h := frame_cut f hf ht [] j h0
  rw [List.append_nil, if_neg (by omega)] at h
  rw [dec, if_neg (by rw [List.length_take]; omega), pAll_no (n := 15) (fun e => by have := congrArg List.length e; rw [List.length_take, List.length_nil] at this; omega) h]
/-! What is read was written so. -/
theorem take_was {b r : List Int} {n : Nat} (hb : Bytes b) (h : pTake b = .ok (n, r)) : b = putV n ++ r ∧ Bytes r := by
  unfold pTake at h
  split at h
  · rename_i ho
    cases h
    exact ⟨(put_take hb ho).symm, hb.drop' _⟩
  · cases h
theorem text_was {b r t : List Int} (hb : Bytes b) (h : pText b = .ok (t, r)) : b = putV t.length ++ (t ++ r) ∧ Bytes r ∧ Bytes t := by
  unfold pText at h
  split at h
  · rename_i ho
    cases h
    have hl : ((b.drop (2 ^ tk b)).take (tv b)).length = tv b := by rw [List.length_take, List.length_drop]; have := ho.2.2; omega
    rw [hl, List.take_append_drop]
    exact ⟨(put_take hb ho.1).symm, (hb.drop' _).drop' _, fun x hx => (hb.drop' _) x (List.mem_of_mem_take hx)⟩
  · cases h
theorem rs_was : ∀ (n : Nat) (acc : List (Int × Int)) (last : Int) (b r : List Int) (l : List (Int × Int)), Bytes b → pRs n acc last b = .ok (l, r) → ∃ m, l = acc ++ m ∧ m.length = n ∧ b = wrR m last ++ r ∧ Bytes r
  | 0, acc, last, b, r, l, hb, h => by
    cases h
    exact ⟨[], by simp, rfl, rfl, hb⟩
  | n + 1, acc, last, b, r, l, hb, h => by
    rw [pRs] at h
    cases h1 : pTake b with
    | error e => rw [h1] at h; cases h
    | ok p =>
      obtain ⟨g, b1⟩ := p
      rw [h1, andThen_ok] at h
      cases h2 : pTake b1 with
      | error e => rw [h2] at h; cases h
      | ok p =>
        obtain ⟨m, b2⟩ := p
        rw [h2, andThen_ok] at h
        split at h
        · cases h
        · obtain ⟨e1, hb1⟩ := take_was hb h1
          obtain ⟨e2, hb2⟩ := take_was hb1 h2
          obtain ⟨q, e3, e4, e5, hr⟩ := rs_was n _ _ _ _ _ hb2 h
          refine ⟨(last + g, last + g + m) :: q, by simp [e3], by simp [e4], ?_, hr⟩
          rw [e1, e2, e5, wrR, show last + (g : Int) - last = (g : Int) by omega, show last + (g : Int) + (m : Int) - (last + (g : Int)) = (m : Int) by omega]
          simp
theorem rgs_was {last : Int} {b r : List Int} {l : List (Int × Int)} (hb : Bytes b) (h : pRgs last b = .ok (l, r)) : b = putV l.length ++ (wrR l last ++ r) ∧ Bytes r := by
  rw [pRgs] at h
  cases h1 : pTake b with
  | error e => rw [h1] at h; cases h
  | ok p =>
    obtain ⟨n, b1⟩ := p
    rw [h1, andThen_ok] at h
    split at h
    · cases h
    · obtain ⟨e1, hb1⟩ := take_was hb h1
      obtain ⟨m, e2, e3, e4, hr⟩ := rs_was n [] last b1 r l hb1 h
      rw [List.nil_append] at e2
      subst e2
      exact ⟨by rw [e1, e4, e3], hr⟩
theorem chk_was {f g : Frm} {b r : List Int} (h : chk f b = .ok (g, r)) : frOK g ∧ g = f ∧ b = r := by
  unfold chk at h
  split at h
  · cases h; exact ⟨by assumption, rfl, rfl⟩
  · cases h
theorem body_was {k : Int} {b r : List Int} {f : Frm} (hb : Bytes b) (h : pBody k b = .ok (f, r)) : f.k = k ∧ b = wrT f ++ r ∧ frOK f ∧ Bytes r ∧ Bytes f.bs ∧ Bytes f.tok ∧ f.tok.length = 8 := by
  have hZ : Bytes (List.replicate 8 0) := by intro x hx; rw [List.eq_of_mem_replicate hx]; decide
  have hN : Bytes [] := fun x hx => by cases hx
  unfold pBody at h
  split at h
  · rename_i hk
    split at h
    · cases h
    · rename_i hl
      cases h
      refine ⟨rfl, ?_, ?_, hb.drop' _, hN, fun x hx => hb x (List.mem_of_mem_take hx), ?_⟩
      · rw [wrT, if_pos hk, List.take_append_drop]
      · exact ⟨by simp, by simp, .inr (.inr (.inl ⟨hk, rfl, rfl, rfl, rfl⟩))⟩
      · rw [List.length_take]; omega
  · rename_i hk
    split at h
    · rename_i hk1
      cases h1 : pTake b with
      | error e => rw [h1] at h; cases h
      | ok p =>
        obtain ⟨a, b1⟩ := p
        rw [h1, andThen_ok] at h
        cases h2 : pText b1 with
        | error e => rw [h2] at h; cases h
        | ok p =>
          obtain ⟨t, b2⟩ := p
          rw [h2, andThen_ok] at h
          obtain ⟨hok, rfl, rfl⟩ := chk_was h
          obtain ⟨e1, hb1⟩ := take_was hb h1
          obtain ⟨e2, hb2, ht⟩ := text_was hb1 h2
          refine ⟨rfl, ?_, hok, hb2, ht, hZ, rfl⟩
          rw [wrT, if_neg hk, if_pos hk1, e1, e2]
          simp
    · rename_i hk1
      split at h
      · rename_i hk2
        cases h1 : pTake b with
        | error e => rw [h1] at h; cases h
        | ok p =>
          obtain ⟨a, b1⟩ := p
          rw [h1, andThen_ok] at h
          cases h2 : pTake b1 with
          | error e => rw [h2] at h; cases h
          | ok p =>
            obtain ⟨l, b2⟩ := p
            rw [h2, andThen_ok] at h
            cases h3 : pRgs a b2 with
            | error e => rw [h3] at h; cases h
            | ok p =>
              obtain ⟨rs, b3⟩ := p
              rw [h3, andThen_ok] at h
              obtain ⟨hok, rfl, rfl⟩ := chk_was h
              obtain ⟨e1, hb1⟩ := take_was hb h1
              obtain ⟨e2, hb2⟩ := take_was hb1 h2
              obtain ⟨e3, hb3⟩ := rgs_was hb2 h3
              refine ⟨rfl, ?_, hok, hb3, hN, hZ, rfl⟩
              rw [wrT, if_neg hk, if_neg hk1, if_pos hk2, e1, e2, e3]
              simp
      · rename_i hk2
        split at h
        · rename_i hk7
          cases h1 : pTake b with
          | error e => rw [h1] at h; cases h
          | ok p =>
            obtain ⟨a, b1⟩ := p
            rw [h1, andThen_ok] at h
            cases h2 : pTake b1 with
            | error e => rw [h2] at h; cases h
            | ok p =>
              obtain ⟨l, b2⟩ := p
              rw [h2, andThen_ok] at h
              cases h3 : pRgs 0 b2 with
              | error e => rw [h3] at h; cases h
              | ok p =>
                obtain ⟨rs, b3⟩ := p
                rw [h3, andThen_ok] at h
                obtain ⟨hok, rfl, rfl⟩ := chk_was h
                obtain ⟨e1, hb1⟩ := take_was hb h1
                obtain ⟨e2, hb2⟩ := take_was hb1 h2
                obtain ⟨e3, hb3⟩ := rgs_was hb2 h3
                refine ⟨rfl, ?_, hok, hb3, hN, hZ, rfl⟩
                rw [wrT, if_neg hk, if_neg hk1, if_neg hk2, if_pos hk7, e1, e2, e3]
                simp
        · rename_i hk7
          split at h
          · cases h1 : pTake b with
            | error e => rw [h1] at h; cases h
            | ok p =>
              obtain ⟨a, b1⟩ := p
              rw [h1, andThen_ok] at h
              obtain ⟨hok, rfl, rfl⟩ := chk_was h
              obtain ⟨e1, hb1⟩ := take_was hb h1
              refine ⟨rfl, ?_, hok, hb1, hN, hZ, rfl⟩
              rw [wrT, if_neg hk, if_neg hk1, if_neg hk2, if_neg hk7, e1]
              simp
          · rename_i hk56
            obtain ⟨hok, rfl, rfl⟩ := chk_was h
            obtain ⟨_, _, hc⟩ := hok
            dsimp only at hc
            omega
theorem frame_was {b r : List Int} {f : Frm} (hb : Bytes b) (hne : b ≠ []) (h : pFrame b = .ok (f, r)) : b = wr f ++ r ∧ frOK f ∧ Bytes r ∧ Bytes f.bs ∧ Bytes f.tok ∧ f.tok.length = 8 := by
  cases b with
  | nil => exact absurd rfl hne
  | cons x b =>
    obtain ⟨hk, e, h3⟩ := body_was (k := x) (b := b) (fun y hy => hb y (List.mem_cons_of_mem _ hy)) h
    exact ⟨by rw [wr, hk, e]; simp, h3⟩
theorem all_was : ∀ (n : Nat) (acc : List Frm) (b : List Int) (l : List Frm), Bytes b → pAll n acc b = .ok l → ∃ m, l = acc ++ m ∧ m.length ≤ n ∧ b = wrs m ∧ ∀ f ∈ m, frOK f ∧ Bytes f.bs ∧ Bytes f.tok ∧ f.tok.length = 8
  | n, acc, [], l, _, h => by
    rw [pAll_nil] at h
    cases h
    exact ⟨[], by simp, Nat.zero_le _, rfl, by simp⟩
  | 0, acc, x :: b, l, _, h => by cases h
  | n + 1, acc, x :: b, l, hb, h => by
    rw [pAll] at h
    split at h
    · cases h
    · rename_i f r hf
      obtain ⟨e1, h1, h2, h3⟩ := frame_was hb (by simp) hf
      obtain ⟨m, e2, e3, e4, h4⟩ := all_was n _ _ _ h2 h
      refine ⟨f :: m, by simp [e2], by simpa using e3, ?_, ?_⟩
      · rw [e1, e4]; rfl
      · intro g hg
        rcases List.mem_cons.1 hg with rfl | hg
        · exact ⟨h1, h3⟩
        · exact h4 g hg
theorem dec_was {b : List Int} {l : List Frm} (hb : Bytes b) (h : dec b = .ok l) : l.length ≤ 16 ∧ b = wrs l ∧ b.length ≤ 256 ∧ ∀ f ∈ l, frOK f ∧ Bytes f.bs ∧ Bytes f.tok ∧ f.tok.length = 8 := by
  unfold dec at h
  split at h
  · cases h
  · obtain ⟨m, e, h1, h2, h3⟩ := all_was 16 [] b l hb h
    rw [List.nil_append] at e
    subst e
    exact ⟨h1, h2, by omega, h3⟩
/-! What is refused. -/
theorem pTake_ne {b : List Int} {e : Int} (h : pTake b = .error e) : e ≠ 0 := by
  unfold pTake at h
  split at h
  · cases h
  · cases h; exact takeE_ne b
theorem tbE_nz (b : List Int) (z : Int) : tbE b z ≠ 0 := by
  unfold tbE
  split
  · exact takeE_ne b
  · split <;> decide
theorem pText_ne {b : List Int} {e : Int} (h : pText b = .error e) : e ≠ 0 := by
  unfold pText at h
  split at h
  · cases h
  · cases h; exact tbE_nz b 128
theorem andThen_ne {α β : Type} {x : Res α} {f : α → List Int → Res β} (hx : ∀ e, x = .error e → e ≠ 0) (hf : ∀ a b e, f a b = .error e → e ≠ 0) (e : Int) (h : andThen x f = .error e) : e ≠ 0 := by
  cases x with
  | error e' => cases h; exact hx _ rfl
  | ok p => obtain ⟨a, b⟩ := p; exact hf a b e h
theorem chk_ne {f : Frm} {b : List Int} {e : Int} (h : chk f b = .error e) : e ≠ 0 := by
  unfold chk at h
  split at h
  · cases h
  · cases h; decide
theorem pRs_ne : ∀ (n : Nat) (acc : List (Int × Int)) (last : Int) (b : List Int) (e : Int), pRs n acc last b = .error e → e ≠ 0
  | 0, _, _, _, _, h => by cases h
  | n + 1, acc, last, b, e, h => by
    rw [pRs] at h
    refine andThen_ne (fun e h => pTake_ne h) (fun g b e h => andThen_ne (fun e h => pTake_ne h) (fun m b e h => ?_) e h) e h
    split at h
    · cases h; decide
    · exact pRs_ne n _ _ _ _ h
theorem pRgs_ne {last : Int} {b : List Int} {e : Int} (h : pRgs last b = .error e) : e ≠ 0 := by
  rw [pRgs] at h
  refine andThen_ne (fun e h => pTake_ne h) (fun n b e h => ?_) e h
  split at h
  · cases h; decide
  · exact pRs_ne _ _ _ _ _ h
theorem pBody_ne {k : Int} {b : List Int} {e : Int} (h : pBody k b = .error e) : e ≠ 0 := by
  unfold pBody at h
  split at h
  · split at h
    · cases h; decide
    · cases h
  · split at h
    · exact andThen_ne (fun e h => pTake_ne h) (fun a b e h => andThen_ne (fun e h => pText_ne h) (fun t b e h => chk_ne h) e h) e h
    · split at h
      · exact andThen_ne (fun e h => pTake_ne h) (fun a b e h => andThen_ne (fun e h => pTake_ne h) (fun l b e h => andThen_ne (fun e h => pRgs_ne h) (fun r b e h => chk_ne h) e h) e h) e h
      · split at h
        · exact andThen_ne (fun e h => pTake_ne h) (fun a b e h => andThen_ne (fun e h => pTake_ne h) (fun l b e h => andThen_ne (fun e h => pRgs_ne h) (fun r b e h => chk_ne h) e h) e h) e h
        · split at h
          · exact andThen_ne (fun e h => pTake_ne h) (fun a b e h => chk_ne h) e h
          · exact chk_ne h
theorem pAll_ne : ∀ (n : Nat) (acc : List Frm) (b : List Int) (e : Int), pAll n acc b = .error e → e ≠ 0
  | n, acc, [], e, h => by rw [pAll_nil] at h; cases h
  | 0, acc, x :: b, e, h => by cases h; decide
  | n + 1, acc, x :: b, e, h => by
    rw [pAll] at h
    split at h
    · rename_i e' hf
      cases h
      exact pBody_ne hf
    · exact pAll_ne n _ _ _ h
theorem dec_ne {b : List Int} {e : Int} (h : dec b = .error e) : e ≠ 0 := by
  unfold dec at h
  split at h
  · cases h; decide
  · exact pAll_ne _ _ _ _ h
/-! Lengths. -/
theorem wrR_le : ∀ (rs : List (Int × Int)) (last : Int), (wrR rs last).length ≤ 16 * rs.length
  | [], _ => by simp [wrR]
  | (x, y) :: r, last => by
    have h := wrR_le r y
    have h1 := pow_kd_le (x - last).toNat
    have h2 := pow_kd_le (y - x).toNat
    simp [wrR]
    omega
theorem wr_le {f : Frm} (hf : frOK f) (ht : f.tok.length = 8) : 1 ≤ (wr f).length ∧ (wr f).length ≤ 160 := by
  obtain ⟨_, _, hc⟩ := hf
  have h1 := pow_kd_le f.a.toNat
  have h2 := pow_kd_le f.l.toNat
  have h3 := pow_kd_le f.rs.length
  have h4 := pow_kd_le f.bs.length
  have h5 := wrR_le f.rs f.a
  have h6 := wrR_le f.rs 0
  have h7 : risN f.rs (f.a + 1) 4611686018427387903 = 1 → f.rs.length ≤ 8 := fun h => (risN_yes.1 h).2
  have h8 : risN f.rs 0 f.a = 1 → f.rs.length ≤ 8 := fun h => (risN_yes.1 h).2
  unfold wr wrT
  split
  · simp; omega
  · split
    · simp; omega
    · split
      · simp; omega
      · split
        · simp; omega
        · simp; omega
theorem wr_two {f : Frm} (ht : f.tok.length = 8) : 2 ≤ (wr f).length := by
  have h1 := two_pos (kd f.a.toNat)
  have h2 := two_pos (kd f.l.toNat)
  have h3 := two_pos (kd f.rs.length)
  have h4 := two_pos (kd f.bs.length)
  unfold wr wrT
  split
  · simp; omega
  · split
    · simp; omega
    · split
      · simp; omega
      · split
        · simp; omega
        · simp; omega
theorem wrs_le : ∀ (l : List Frm), (∀ f ∈ l, frOK f ∧ f.tok.length = 8) → (wrs l).length ≤ 160 * l.length
  | [], _ => by simp [wrs]
  | f :: l, h => by
    have h1 := wrs_le l fun g hg => h g (List.mem_cons_of_mem _ hg)
    have h2 := wr_le (h f (List.mem_cons_self ..)).1 (h f (List.mem_cons_self ..)).2
    rw [show wrs (f :: l) = wr f ++ wrs l from rfl, List.length_append, List.length_cons]
    omega
theorem Bytes.wrR : ∀ (rs : List (Int × Int)) (last to : Int), 0 ≤ last → to ≤ 4611686018427387903 → (∀ i, i < rs.length → lastR last rs i ≤ (rs.getD i (0, 0)).1 ∧ (rs.getD i (0, 0)).1 < (rs.getD i (0, 0)).2 ∧ (rs.getD i (0, 0)).2 ≤ to) → Bytes (wrR rs last)
  | [], _, _, _, _, _ => fun x hx => by cases hx
  | (x, y) :: r, last, to, h0, hto, h => by
    have h1 := h 0 (by simp)
    simp [lastR] at h1
    have ih := Bytes.wrR r y to (by omega) hto fun i hi => by
      have h2 := h (i + 1) (by simpa using hi)
      rw [lastR_succ] at h2
      simp at h2
      cases i with
      | zero => simpa [lastR] using h2
      | succ i => simpa [lastR] using h2
    exact (Bytes.putV (by omega)).app ((Bytes.putV (by omega)).app ih)
theorem Bytes.wr {f : Frm} (hf : frOK f) (hb : Bytes f.bs) (ht : Bytes f.tok) : Bytes (wr f) := by
  obtain ⟨h0, h1, hc⟩ := hf
  have hk : Bytes [f.k] := fun x hx => by rw [List.mem_singleton] at hx; subst hx; omega
  refine hk.app (ys := wrT f) ?_
  have ha : Bytes (Go.X.putV f.a.toNat) := Bytes.putV (by omega)
  rcases hc with ⟨hk, h2, h3, _⟩ | ⟨hk, h2, h3, h4, _⟩ | ⟨hk, _⟩ | ⟨hk, _⟩ | ⟨hk, _⟩ | ⟨hk, h2, h3, h4, _⟩
  · rw [wrT, if_neg (by omega), if_pos hk]
    exact ha.app ((Bytes.putV (by omega)).app hb)
  · rw [wrT, if_neg (by omega), if_neg (by omega), if_pos hk]
    have hr := risN_yes.1 h4
    exact ha.app ((Bytes.putV (by omega)).app ((Bytes.putV (by have := hr.2; omega)).app (Bytes.wrR _ _ _ h0 (Int.le_refl _) (lastR_ge hr.1))))
  · rw [wrT, if_pos hk]
    exact ht
  · rw [wrT, if_neg (by omega), if_neg (by omega), if_neg (by omega), if_neg (by omega)]
    exact ha
  · rw [wrT, if_neg (by omega), if_neg (by omega), if_neg (by omega), if_neg (by omega)]
    exact ha
  · rw [wrT, if_neg (by omega), if_neg (by omega), if_neg (by omega), if_pos hk]
    have hr := risN_yes.1 h4
    exact ha.app ((Bytes.putV (by omega)).app ((Bytes.putV (by have := hr.2; omega)).app (Bytes.wrR _ _ _ (Int.le_refl _) h1 (ris_zero hr.1))))
theorem Bytes.wrs : ∀ {l : List Frm}, (∀ f ∈ l, frOK f ∧ Bytes f.bs ∧ Bytes f.tok) → Bytes (wrs l)
  | [], _ => fun x hx => by cases hx
  | f :: l, h => by
    have h1 := h f (List.mem_cons_self ..)
    exact (Bytes.wr h1.1 h1.2.1 h1.2.2).app (Bytes.wrs fun g hg => h g (List.mem_cons_of_mem _ hg))
end Go.X
