/-
  Packets, in plain Lean: which may be, what a head is, what a nonce is.
-/
import Derived.Test.YtmkjnefongjniaaPureO
import Derived.Test.YtmkjnefongjniaaX17
namespace Go.X
open Go
def recP (k r p e c : Int) (n : Nat) : Prop := k = 3 ∧ 0 ≤ r ∧ r ≤ 1 ∧ 0 ≤ p ∧ p ≤ 255 ∧ 0 ≤ e ∧ e ≤ 65535 ∧ 0 ≤ c ∧ c ≤ 281474976710655 ∧ 16 ≤ n ∧ n ≤ 272
instance (k r p e c : Int) (n : Nat) : Decidable (recP k r p e c n) := by unfold recP; infer_instance
def othP (k r p e c : Int) (n : Nat) : Prop := (k = 1 ∨ k = 2) ∧ r = 0 ∧ p = 0 ∧ e = 0 ∧ c = 0 ∧ 1 ≤ n ∧ n ≤ 300
instance (k r p e c : Int) (n : Nat) : Decidable (othP k r p e c n) := by unfold othP; infer_instance
def mayP (k r p e c : Int) (n : Nat) : Prop := recP k r p e c n ∨ othP k r p e c n
instance (k r p e c : Int) (n : Nat) : Decidable (mayP k r p e c n) := by unfold mayP; infer_instance
/-- A record's head. -/
def hd (r p e c : Nat) : List Int := [3, (r : Int), (p : Int), bt e 1, bt e 0, bt c 5, bt c 4, bt c 3, bt c 2, bt c 1, bt c 0]
@[simp] theorem hd_length (r p e c : Nat) : (hd r p e c).length = 11 := rfl
theorem hd_eq (r p e c : Nat) : ([3, ((r : Nat) : Int), ((p : Nat) : Int)] ++ bigS e 2) ++ bigS c 6 = hd r p e c := rfl
theorem Bytes.hd {r p e c : Nat} (hr : r ≤ 1) (hp : p ≤ 255) : Bytes (hd r p e c) := by
  intro x hx
  simp only [Go.X.hd, List.mem_cons, List.not_mem_nil, or_false] at hx
  have h := fun n q => bt_ok n q
  rcases hx with rfl | rfl | rfl | rfl | rfl | rfl | rfl | rfl | rfl | rfl | rfl <;> first | omega | exact bt_ok _ _
/-- A record's nonce. -/
def nn (p e c : Nat) : List Int := [(p : Int), bt e 1, bt e 0, 0, 0, 0, bt c 5, bt c 4, bt c 3, bt c 2, bt c 1, bt c 0]
@[simp] theorem nn_length (p e c : Nat) : (nn p e c).length = 12 := rfl
theorem nn_copy1 (r p e c : Nat) : (List.replicate 12 (0 : Int)).take 0 ++ ((hd r p e c).drop 2).take (5 - 2) ++ (List.replicate 12 (0 : Int)).drop (0 + (5 - 2)) = [(p : Int), bt e 1, bt e 0, 0, 0, 0, 0, 0, 0, 0, 0, 0] := rfl
def nnA (r p e c i : Nat) : List Int := ((hd r p e c).drop 2).take i ++ List.replicate (12 - i) 0
def nnB (r p e c i : Nat) : List Int := [(p : Int), bt e 1, bt e 0, 0, 0, 0] ++ (((hd r p e c).drop 5).take i ++ List.replicate (6 - i) 0)
theorem nnA_step (r p e c : Nat) {i : Nat} (h : i < 3) : (nnA r p e c i).set i ((hd r p e c).getD (2 + i) 0) = nnA r p e c (i + 1) := by
  rcases i with _ | _ | _ | i <;> first | rfl | omega
theorem nnB_step (r p e c : Nat) {i : Nat} (h : i < 6) : (nnB r p e c i).set (6 + i) ((hd r p e c).getD (5 + i) 0) = nnB r p e c (i + 1) := by
  rcases i with _ | _ | _ | _ | _ | _ | i <;> first | rfl | omega
theorem nnA_length (r p e c : Nat) {i : Nat} (h : i ≤ 9) : (nnA r p e c i).length = 12 := by simp [nnA, hd]; omega
theorem nnB_length (r p e c : Nat) {i : Nat} (h : i ≤ 6) : (nnB r p e c i).length = 12 := by simp [nnB, hd]; omega
theorem nnA_zero (r p e c : Nat) : List.replicate 12 (0 : Int) = nnA r p e c 0 := rfl
theorem nnAB (r p e c : Nat) : nnA r p e c 3 = nnB r p e c 0 := rfl
theorem nnB_last (r p e c : Nat) : nnB r p e c 6 = nn p e c := rfl
/-- What is read. -/
def pE (b : List Int) : Nat := valS ((b.drop 3).take 2)
def pC (b : List Int) : Nat := valS ((b.drop 5).take 6)
theorem Bytes.drop' {b : List Int} (h : Bytes b) (n : Nat) : Bytes (b.drop n) := fun x hx => h x (List.mem_of_mem_drop hx)
theorem valS_le {bs : List Int} (h : Bytes bs) {n : Nat} (hl : bs.length ≤ n) : valS bs < 256 ^ n := Nat.lt_of_lt_of_le (valS_lt h) (Nat.pow_le_pow_right (by decide) hl)
theorem pE_lt {b : List Int} (h : Bytes b) : pE b < 65536 := valS_le (n := 2) ((h.drop' 3).take 2) (by simp; omega)
theorem pC_lt {b : List Int} (h : Bytes b) : pC b < 281474976710656 := valS_le (n := 6) ((h.drop' 5).take 6) (by simp; omega)
theorem pC_dd (b : List Int) : valS (((b.drop 3).drop 2).take 6) = pC b := by rw [List.drop_drop]; rfl
theorem pB_ddd (b : List Int) : ((b.drop 3).drop 2).drop 6 = b.drop 11 := by rw [List.drop_drop, List.drop_drop]
theorem pE_tt (b : List Int) : valS (((b.drop 3).take (5 - 3)).take 2) = pE b := by rw [List.take_take]; rfl
theorem pC_tt (b : List Int) : valS (((b.drop 5).take (11 - 5)).take 6) = pC b := by rw [List.take_take]; rfl
def okR (b : List Int) : Prop := b.getD 0 0 = 3 ∧ 27 ≤ b.length ∧ b.getD 1 0 ≤ 1 ∧ b.length ≤ 283
def okO (b : List Int) : Prop := (b.getD 0 0 = 1 ∨ b.getD 0 0 = 2) ∧ 2 ≤ b.length ∧ b.length ≤ 301
instance (b : List Int) : Decidable (okR b) := by unfold okR; infer_instance
instance (b : List Int) : Decidable (okO b) := by unfold okO; infer_instance
def paOK (b : List Int) : Prop := okR b ∨ okO b
instance (b : List Int) : Decidable (paOK b) := by unfold paOK; infer_instance
def paE (b : List Int) : Int := if b.length = 0 ∨ b.getD 0 0 = 3 ∧ b.length < 27 then 3 else 110
theorem paE_ne (b : List Int) : paE b ≠ 0 := by unfold paE; split <;> decide
def fR (b : List Int) : Int := if b.getD 0 0 = 3 then b.getD 1 0 else 0
def fP (b : List Int) : Int := if b.getD 0 0 = 3 then b.getD 2 0 else 0
def fE (b : List Int) : Int := if b.getD 0 0 = 3 then ((pE b : Nat) : Int) else 0
def fC (b : List Int) : Int := if b.getD 0 0 = 3 then ((pC b : Nat) : Int) else 0
def fB (b : List Int) : List Int := if b.getD 0 0 = 3 then b.drop 11 else b.drop 1
/-- What is written. -/
def prB (k r p e c : Int) (bd : List Int) : List Int := if k = 3 then hd r.toNat p.toNat e.toNat c.toNat ++ bd else [k] ++ bd
theorem prB_A (r p e c : Nat) (bd : List Int) : prB 3 r p e c bd = hd r p e c ++ bd := rfl
theorem prB_B {k : Int} (h : k = 1 ∨ k = 2) (bd : List Int) : prB k 0 0 0 0 bd = [k] ++ bd := by rw [prB, if_neg (by omega)]
theorem nat_recP {k r p e c : Int} {n : Nat} (h : recP k r p e c n) : ∃ r' p' e' c' : Nat, k = 3 ∧ r = (r' : Int) ∧ p = (p' : Int) ∧ e = (e' : Int) ∧ c = (c' : Int) ∧ r' ≤ 1 ∧ p' ≤ 255 ∧ e' ≤ 65535 ∧ c' ≤ 281474976710655 ∧ 16 ≤ n ∧ n ≤ 272 := by
  obtain ⟨h1, h2, h3, h4, h5, h6, h7, h8, h9, h10, h11⟩ := h
  exact ⟨r.toNat, p.toNat, e.toNat, c.toNat, h1, by omega, by omega, by omega, by omega, by omega, by omega, by omega, by omega, h10, h11⟩
theorem hd_pE (r p e c : Nat) (he : e < 65536) (bd : List Int) : pE (hd r p e c ++ bd) = e := by
  have h := valS_big e 2 (Nat.lt_of_lt_of_le he (by decide))
  exact h
theorem hd_pC (r p e c : Nat) (hc : c < 281474976710656) (bd : List Int) : pC (hd r p e c ++ bd) = c := by
  have h := valS_big c 6 (Nat.lt_of_lt_of_le hc (by decide))
  exact h
theorem Bytes.prB {k r p e c : Int} {bd : List Int} (h : mayP k r p e c bd.length) (hb : Bytes bd) : Bytes (prB k r p e c bd) := by
  rcases h with h | h
  · obtain ⟨r', p', e', c', rfl, rfl, rfl, rfl, rfl, h1, h2, _⟩ := nat_recP h
    exact (Bytes.hd h1 h2).app hb
  · obtain ⟨hk, rfl, rfl, rfl, rfl, _⟩ := h
    rw [prB_B hk]
    refine Bytes.app (fun x hx => ?_) hb
    rw [List.mem_singleton] at hx
    omega
theorem prB_length {k r p e c : Int} {bd : List Int} (h : mayP k r p e c bd.length) : (prB k r p e c bd).length ≤ 301 := by
  rcases h with h | h
  · obtain ⟨r', p', e', c', rfl, rfl, rfl, rfl, rfl, h1, h2, _, _, _, _⟩ := nat_recP h
    rw [prB_A, List.length_append, hd_length]; omega
  · obtain ⟨hk, rfl, rfl, rfl, rfl, _⟩ := h
    rw [prB_B hk, List.length_append, List.length_singleton]; omega
theorem back_of {k r p e c : Int} {bd : List Int} (h : mayP k r p e c bd.length) :
    paOK (prB k r p e c bd) ∧ (prB k r p e c bd).getD 0 0 = k ∧ fR (prB k r p e c bd) = r ∧ fP (prB k r p e c bd) = p ∧ fE (prB k r p e c bd) = e ∧ fC (prB k r p e c bd) = c ∧ fB (prB k r p e c bd) = bd := by
  rcases h with h | h
  · obtain ⟨r', p', e', c', rfl, rfl, rfl, rfl, rfl, h1, h2, h3, h4, h5, h6⟩ := nat_recP h
    rw [prB_A]
    have h0 : (hd r' p' e' c' ++ bd).getD 0 0 = 3 := rfl
    have hl : (hd r' p' e' c' ++ bd).length = 11 + bd.length := by simp
    refine ⟨.inl ⟨h0, by omega, ?_, by omega⟩, h0, ?_, ?_, ?_, ?_, ?_⟩
    · show ((r' : Nat) : Int) ≤ 1
      omega
    · rw [fR, if_pos h0]; rfl
    · rw [fP, if_pos h0]; rfl
    · rw [fE, if_pos h0, hd_pE _ _ _ _ (by omega)]
    · rw [fC, if_pos h0, hd_pC _ _ _ _ (by omega)]
    · rw [fB, if_pos h0]; rfl
  · obtain ⟨hk, rfl, rfl, rfl, rfl, h1, h2⟩ := h
    rw [prB_B hk]
    have h0 : ([k] ++ bd).getD 0 0 = k := rfl
    have hn : ¬ ([k] ++ bd).getD 0 0 = 3 := by rw [h0]; omega
    have hl : ([k] ++ bd).length = 1 + bd.length := by simp; omega
    refine ⟨.inr ⟨by rw [h0]; exact hk, by omega, by omega⟩, h0, ?_, ?_, ?_, ?_, ?_⟩
    · rw [fR, if_neg hn]
    · rw [fP, if_neg hn]
    · rw [fE, if_neg hn]
    · rw [fC, if_neg hn]
    · rw [fB, if_neg hn]; rfl
theorem eleven {b : List Int} (h : 11 ≤ b.length) : ∃ x0 x1 x2 x3 x4 x5 x6 x7 x8 x9 x10 t, b = x0 :: x1 :: x2 :: x3 :: x4 :: x5 :: x6 :: x7 :: x8 :: x9 :: x10 :: t := by
  rcases b with _ | ⟨x0, _ | ⟨x1, _ | ⟨x2, _ | ⟨x3, _ | ⟨x4, _ | ⟨x5, _ | ⟨x6, _ | ⟨x7, _ | ⟨x8, _ | ⟨x9, _ | ⟨x10, t⟩⟩⟩⟩⟩⟩⟩⟩⟩⟩⟩ <;>
    first
    | exact ⟨_, _, _, _, _, _, _, _, _, _, _, _, rfl⟩
    | (simp at h)
theorem forth_of {b : List Int} (hb : Bytes b) (h : paOK b) : prB (b.getD 0 0) (fR b) (fP b) (fE b) (fC b) (fB b) = b ∧ mayP (b.getD 0 0) (fR b) (fP b) (fE b) (fC b) (fB b).length := by
  have hb1 := hb.getD 1
  have hb2 := hb.getD 2
  have hE := pE_lt hb
  have hC := pC_lt hb
  rcases h with ⟨h0, h1, h2, h3⟩ | ⟨h0, h1, h2⟩
  · rw [fR, fP, fE, fC, fB, if_pos h0, if_pos h0, if_pos h0, if_pos h0, if_pos h0, h0]
    refine ⟨?_, .inl ⟨rfl, by omega, by omega, by omega, by omega, by omega, by omega, by omega, by omega, by rw [List.length_drop]; omega, by rw [List.length_drop]; omega⟩⟩
    rw [prB, if_pos rfl]
    obtain ⟨x0, x1, x2, x3, x4, x5, x6, x7, x8, x9, x10, t, rfl⟩ := eleven (show 11 ≤ b.length by omega)
    have e1 : bigS (pE (x0 :: x1 :: x2 :: x3 :: x4 :: x5 :: x6 :: x7 :: x8 :: x9 :: x10 :: t)) 2 = [x3, x4] := big_valS (bs := [x3, x4]) (fun x hx => hb x (by simp at hx ⊢; rcases hx with rfl | rfl <;> simp))
    have e2 : bigS (pC (x0 :: x1 :: x2 :: x3 :: x4 :: x5 :: x6 :: x7 :: x8 :: x9 :: x10 :: t)) 6 = [x5, x6, x7, x8, x9, x10] := big_valS (bs := [x5, x6, x7, x8, x9, x10]) (fun x hx => hb x (by simp at hx ⊢; rcases hx with rfl | rfl | rfl | rfl | rfl | rfl <;> simp))
    rw [← hd_eq, Int.toNat_natCast, Int.toNat_natCast, e1, e2]
    simp only [List.getD_cons_succ, List.getD_cons_zero] at hb1 hb2 h0 ⊢
    rw [Int.toNat_of_nonneg hb1.1, Int.toNat_of_nonneg hb2.1, h0]
    rfl
  · have hn : ¬ b.getD 0 0 = 3 := by omega
    rw [fR, fP, fE, fC, fB, if_neg hn, if_neg hn, if_neg hn, if_neg hn, if_neg hn, prB_B h0]
    refine ⟨?_, .inr ⟨h0, rfl, rfl, rfl, rfl, by rw [List.length_drop]; omega, by rw [List.length_drop]; omega⟩⟩
    cases b with
    | nil => simp at h1
    | cons x t => rfl
theorem bt_inj2 {e e' : Nat} (h : e < 65536) (h' : e' < 65536) (h1 : bt e 1 = bt e' 1) (h0 : bt e 0 = bt e' 0) : e = e' := by
  have g : bigS e 2 = bigS e' 2 := by show [bt e 1, bt e 0] = [bt e' 1, bt e' 0]; rw [h1, h0]
  have a := valS_big e 2 (Nat.lt_of_lt_of_le h (by decide)); rw [g, valS_big e' 2 (Nat.lt_of_lt_of_le h' (by decide))] at a
  exact a.symm
theorem nn_inj {p e c p' e' c' : Nat} (he : e < 65536) (hc : c < 281474976710656) (he' : e' < 65536) (hc' : c' < 281474976710656) : nn p e c = nn p' e' c' ↔ p = p' ∧ e = e' ∧ c = c' := by
  constructor
  · intro h
    simp only [nn, List.cons.injEq, and_true, true_and] at h
    obtain ⟨h1, h2, h3, h4, h5, h6, h7, h8, h9⟩ := h
    have g : bigS c 6 = bigS c' 6 := by show [bt c 5, bt c 4, bt c 3, bt c 2, bt c 1, bt c 0] = [bt c' 5, bt c' 4, bt c' 3, bt c' 2, bt c' 1, bt c' 0]; rw [h4, h5, h6, h7, h8, h9]
    have a := valS_big c 6 (Nat.lt_of_lt_of_le hc (by decide)); rw [g, valS_big c' 6 (Nat.lt_of_lt_of_le hc' (by decide))] at a
    exact ⟨by omega, bt_inj2 he he' h2 h3, a.symm⟩
  · rintro ⟨rfl, rfl, rfl⟩
    rfl
theorem cat_hd (r p e c : Nat) {bd : List Int} (h : bd.length ≤ 272) : (bstr (hd r p e c)).size + (bstr bd).size ≤ 9223372036854775807 := by
  rw [bstr_size, bstr_size, hd_length]
  omega
theorem may_len {k r p e c : Int} {n : Nat} (h : mayP k r p e c n) : n ≤ 300 := by
  unfold mayP recP othP at h
  omega
theorem fB_le (b : List Int) : (fB b).length ≤ b.length := by
  unfold fB
  split <;> simp
end Go.X
