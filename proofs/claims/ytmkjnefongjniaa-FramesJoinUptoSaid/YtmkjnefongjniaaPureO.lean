/-
  What the numbers of layer 9 come to, over whole numbers alone.
-/
import Derived.Test.YtmkjnefongjniaaX16
import Derived.Test.YtmkjnefongjniaaPureE
namespace Go.X
open Go

/-- Of which kind a number is: in 2 to that many bytes it lies. -/
def kd (n : Nat) : Nat := if n < 64 then 0 else if n < 16384 then 1 else if n < 1073741824 then 2 else 3
theorem kd_le (n : Nat) : kd n ≤ 3 := by unfold kd; split <;> (try omega); split <;> (try omega); split <;> omega
theorem kd_cases (n : Nat) (h : n < 4611686018427387904) : (kd n = 0 ∧ n < 64) ∨ (kd n = 1 ∧ 64 ≤ n ∧ n < 16384) ∨ (kd n = 2 ∧ 16384 ≤ n ∧ n < 1073741824) ∨ (kd n = 3 ∧ 1073741824 ≤ n ∧ n < 4611686018427387904) := by
  unfold kd
  split
  · exact .inl ⟨rfl, by omega⟩
  · split
    · exact .inr (.inl ⟨rfl, by omega, by omega⟩)
    · split
      · exact .inr (.inr (.inl ⟨rfl, by omega, by omega⟩))
      · exact .inr (.inr (.inr ⟨rfl, by omega, h⟩))
/-- The byte that stands q places from the end. -/
def bt (n q : Nat) : Int := ((n / 256 ^ q % 256 : Nat) : Int)
theorem bt_ok (n q : Nat) : 0 ≤ bt n q ∧ bt n q < 256 := by unfold bt; omega
/-- A number in so many bytes, the highest first. -/
def bigf (n s q : Nat) : Int := bt n (s - 1 - q)
def bigS (n s : Nat) : List Int := gather (bigf n s) s []
@[simp] theorem bigS_length (n s : Nat) : (bigS n s).length = s := by simp [bigS]
theorem Bytes.bigS (n s : Nat) : Bytes (bigS n s) := Bytes.gather (fun _ => bt_ok _ _) (fun _ hx => by cases hx) s
theorem shr_bt (n q : Nat) (h : n < 9223372036854775808) (hq : q ≤ 7) : IntKind.u8.wrap (shr .i64 ((n : Nat) : Int) (8 * ((q : Nat) : Int))) = bt n q := by
  rw [show (8 * ((q : Nat) : Int)) = ((8 * q : Nat) : Int) by omega, shr_nat .i64 n (8 * q) (by simp [IntKind.bits]; omega), bt, Nat.pow_mul]
  simp [IntKind.wrap, IntKind.bits, IntKind.signed]
/-- What bytes say, the highest first. -/
def valG (v : Nat) (bs : List Int) : Nat := bs.foldl (fun v c => v * 256 + c.toNat) v
def valS (bs : List Int) : Nat := valG 0 bs
theorem valS_app (bs : List Int) (c : Int) : valS (bs ++ [c]) = valS bs * 256 + c.toNat := by simp [valS, valG]
theorem valG_eq : ∀ (bs : List Int) (v : Nat), valG v bs = v * 256 ^ bs.length + valS bs
  | [], v => by simp [valG, valS]
  | c :: bs, v => by
    have h1 : valG v (c :: bs) = valG (v * 256 + c.toNat) bs := rfl
    have h2 : valS (c :: bs) = valG c.toNat bs := by simp [valS, valG]
    rw [h1, h2, valG_eq bs, valG_eq bs c.toNat, List.length_cons, Nat.pow_succ, Nat.add_mul, Nat.mul_assoc, Nat.mul_comm 256, Nat.add_assoc]
theorem valS_append (a b : List Int) : valS (a ++ b) = valS a * 256 ^ b.length + valS b := by
  rw [valS, valG, List.foldl_append]
  exact valG_eq b (valS a)
theorem valS_lt : ∀ {bs : List Int}, Bytes bs → valS bs < 256 ^ bs.length
  | [], _ => by simp [valS, valG]
  | c :: bs, h => by
    have hb : Bytes bs := fun x hx => h x (List.mem_cons_of_mem _ hx)
    have hc := h c (List.mem_cons_self ..)
    have := valS_lt hb
    rw [show c :: bs = [c] ++ bs from rfl, valS_append, List.length_append, List.length_singleton, Nat.pow_add, Nat.pow_one]
    have h1 : valS [c] = c.toNat := by simp [valS, valG]
    have h2 : c.toNat + 1 ≤ 256 := by omega
    have h3 : (c.toNat + 1) * 256 ^ bs.length ≤ 256 * 256 ^ bs.length := Nat.mul_le_mul_right _ h2
    rw [h1]
    rw [Nat.add_mul, Nat.one_mul] at h3
    omega
theorem valS_gather (n s : Nat) (h : n < 256 ^ s) : ∀ j, j ≤ s → valS (gather (bigf n s) j []) = n / 256 ^ (s - j)
  | 0, _ => by
    rw [Nat.sub_zero, Nat.div_eq_of_lt h]; rfl
  | j + 1, hj => by
    have e : s - j = (s - (j + 1)) + 1 := by omega
    have hd : n / 256 ^ (s - j) = n / 256 ^ (s - (j + 1)) / 256 := by rw [e, Nat.pow_succ, Nat.div_div_eq_div_mul]
    have hb : (bigf n s j).toNat = n / 256 ^ (s - (j + 1)) % 256 := by rw [bigf, bt, Int.toNat_natCast, show s - 1 - j = s - (j + 1) by omega]
    rw [gather, valS_app, valS_gather n s h j (by omega), hd, hb]
    exact Nat.div_add_mod' _ 256
/-- A number in bytes, and back. -/
theorem valS_big (n s : Nat) (h : n < 256 ^ s) : valS (bigS n s) = n := by
  rw [bigS, valS_gather n s h s (Nat.le_refl s), Nat.sub_self, Nat.pow_zero, Nat.div_one]
theorem big_valS {bs : List Int} (h : Bytes bs) : bigS (valS bs) bs.length = bs := by
  refine ext_getD (by simp) fun q hq => ?_
  rw [bigS_length] at hq
  rw [bigS, gather_get _ _ _ hq, bigf, bt]
  have e : bs = (bs.take q ++ [bs.getD q 0]) ++ bs.drop (q + 1) := by
    rw [List.append_assoc, List.singleton_append, show bs.getD q 0 = bs[q] by rw [List.getD_eq_getElem?_getD, List.getElem?_eq_getElem hq]; rfl, ← List.drop_eq_getElem_cons hq, List.take_append_drop]
  have hl : (bs.drop (q + 1)).length = bs.length - 1 - q := by rw [List.length_drop]; omega
  have hv : valS bs = (valS (bs.take q) * 256 + (bs.getD q 0).toNat) * 256 ^ (bs.length - 1 - q) + valS (bs.drop (q + 1)) := by
    conv => lhs; rw [e]
    rw [valS_append, valS_app, hl]
  have hd : valS (bs.drop (q + 1)) < 256 ^ (bs.length - 1 - q) := by
    rw [← hl]; exact valS_lt fun x hx => h x (List.mem_of_mem_drop hx)
  have hc := h.getD q
  rw [hv, Nat.add_comm, Nat.add_mul_div_right _ _ (Nat.pow_pos (by decide)), Nat.div_eq_of_lt hd, Nat.zero_add]
  omega
/-! P9.1 -/
def putV (n : Nat) : List Int := (bigS n (2 ^ kd n)).set 0 (bt n (2 ^ kd n - 1) + 64 * ((kd n : Nat) : Int))
@[simp] theorem putV_length (n : Nat) : (putV n).length = 2 ^ kd n := by simp [putV]
def tk (b : List Int) : Nat := (b.getD 0 0).toNat / 64
def tv (b : List Int) : Nat := valS ((b.take (2 ^ tk b)).set 0 (b.getD 0 0 % 64))
def takeOk (b : List Int) : Bool := decide (b.length ≠ 0 ∧ 2 ^ tk b ≤ b.length ∧ kd (tv b) = tk b)
theorem pow_kd (n : Nat) (h : n < 4611686018427387904) : n < 64 * 256 ^ (2 ^ kd n - 1) := by
  rcases kd_cases n h with ⟨e, h1⟩ | ⟨e, h1, h2⟩ | ⟨e, h1, h2⟩ | ⟨e, h1, h2⟩ <;> rw [e] <;> omega
theorem top_lt (n : Nat) (h : n < 4611686018427387904) : bt n (2 ^ kd n - 1) < 64 := by
  have hp := pow_kd n h
  have : n / 256 ^ (2 ^ kd n - 1) < 64 := by rw [Nat.div_lt_iff_lt_mul (Nat.pow_pos (by decide))]; exact hp
  unfold bt
  generalize n / 256 ^ (2 ^ kd n - 1) = m at *
  omega
theorem two_pos (k : Nat) : 0 < 2 ^ k := Nat.two_pow_pos k
theorem putV_zero (n : Nat) : (putV n).getD 0 0 = bt n (2 ^ kd n - 1) + 64 * ((kd n : Nat) : Int) := by
  rw [putV, List.getD_eq_getElem?_getD, List.getElem?_set_self (by simp [two_pos])]; rfl
theorem big_zero (n s : Nat) (hs : 0 < s) : (bigS n s).getD 0 0 = bt n (s - 1) := by rw [bigS, gather_get _ _ _ hs, bigf, Nat.sub_zero]
theorem set_self {xs : List Int} {v : Int} (h : xs.getD 0 0 = v) : xs.set 0 v = xs := by
  cases xs with
  | nil => rfl
  | cons x r => simp at h; simp [h]
theorem tk_put (n : Nat) (h : n < 4611686018427387904) (b : List Int) : tk (putV n ++ b) = kd n := by
  have h1 := top_lt n h
  have h0 := bt_ok n (2 ^ kd n - 1)
  rw [tk, getD_app_left (by simp [two_pos]), putV_zero]
  omega
theorem tv_put (n : Nat) (h : n < 4611686018427387904) (b : List Int) : tv (putV n ++ b) = n := by
  have h1 := top_lt n h
  have h0 := bt_ok n (2 ^ kd n - 1)
  rw [tv, tk_put n h b, List.take_append_of_le_length (by simp), List.take_of_length_le (by simp), getD_app_left (by simp [two_pos]), putV_zero, putV, List.set_set,
    show (bt n (2 ^ kd n - 1) + 64 * ((kd n : Nat) : Int)) % 64 = bt n (2 ^ kd n - 1) by omega, set_self (big_zero n _ (two_pos _)), valS_big n _ (by
      have := pow_kd n h
      have e : 256 ^ (2 ^ kd n) = 256 ^ (2 ^ kd n - 1) * 256 := by rw [← Nat.pow_succ]; congr 1; have := two_pos (kd n); omega
      rw [e]; omega)]
theorem take_put (n : Nat) (h : n < 4611686018427387904) (b : List Int) : takeOk (putV n ++ b) = true := by
  have := two_pos (kd n)
  simp [takeOk, tk_put n h b, tv_put n h b]
theorem tk_le {b : List Int} (h : Bytes b) : tk b ≤ 3 := by
  have := h.getD 0
  unfold tk; omega
theorem tv_lt {b : List Int} (h : Bytes b) (hl : 2 ^ tk b ≤ b.length) : tv b < 4611686018427387904 := by
  have h0 := h.getD 0
  have hk := tk_le h
  have hp := two_pos (tk b)
  have e : (b.take (2 ^ tk b)).set 0 (b.getD 0 0 % 64) = [b.getD 0 0 % 64] ++ (b.take (2 ^ tk b)).drop 1 := by
    cases b with
    | nil => simp at hl
    | cons c r =>
      obtain ⟨m, hm⟩ : ∃ m, 2 ^ tk (c :: r) = m + 1 := ⟨2 ^ tk (c :: r) - 1, by omega⟩
      rw [hm]; simp
  have hb : Bytes ((b.take (2 ^ tk b)).drop 1) := fun x hx => h x (List.mem_of_mem_take (List.mem_of_mem_drop hx))
  have hlt := valS_lt hb
  have hlen : ((b.take (2 ^ tk b)).drop 1).length = 2 ^ tk b - 1 := by simp; omega
  rw [hlen] at hlt
  have h7 : 256 ^ (2 ^ tk b - 1) ≤ 256 ^ 7 := Nat.pow_le_pow_right (by decide) (by
    have : 2 ^ tk b ≤ 2 ^ 3 := Nat.pow_le_pow_right (by decide) hk
    omega)
  rw [tv, e, valS_append, hlen]
  have h1 : valS [b.getD 0 0 % 64] ≤ 63 := by simp [valS, valG]; omega
  have h2 : valS [b.getD 0 0 % 64] * 256 ^ (2 ^ tk b - 1) ≤ 63 * 256 ^ 7 := Nat.mul_le_mul h1 h7
  omega
/-- What is taken, and put, is what was taken. -/
theorem put_take {b : List Int} (h : Bytes b) (ho : takeOk b = true) : putV (tv b) ++ b.drop (2 ^ tk b) = b := by
  simp only [takeOk, decide_eq_true_eq] at ho
  obtain ⟨h0, hl, hk⟩ := ho
  have hc := h.getD 0
  have hp := two_pos (tk b)
  have ht : putV (tv b) = b.take (2 ^ tk b) := by
    have hb' : Bytes ((b.take (2 ^ tk b)).set 0 (b.getD 0 0 % 64)) := Bytes.set (h.take _) (by omega) 0
    have hbig := big_valS hb'
    rw [List.length_set, List.length_take, Nat.min_eq_left hl] at hbig
    rw [putV, hk]
    have hz := big_zero (tv b) (2 ^ tk b) hp
    rw [tv, hbig] at hz
    have hz2 : bt (tv b) (2 ^ tk b - 1) = b.getD 0 0 % 64 := by
      rw [tv, ← hz, List.getD_eq_getElem?_getD, List.getElem?_set_self (by rw [List.length_take]; omega)]; rfl
    rw [hz2, show bigS (tv b) (2 ^ tk b) = _ from hbig, List.set_set]
    refine set_self ?_
    rw [getD_take _ hp]
    unfold tk
    omega
  rw [ht, List.take_append_drop]
end Go.X
namespace Go.X
def kt (i : Nat) : Nat := ([6, 14, 30, 62] : List Nat).getD i 0
theorem kt_get {i : Nat} (h : i < 4) : ([6, 14, 30, 62] : List Int).getD i 0 = ((kt i : Nat) : Int) := by
  match i, h with
  | 0, _ => rfl
  | 1, _ => rfl
  | 2, _ => rfl
  | 3, _ => rfl
theorem no_step {m i : Nat} (h : ∀ q, q < i → ¬ m < 2 ^ kt q) (hi : ¬ m < 2 ^ kt i) (q : Nat) (hq : q < i + 1) : ¬ m < 2 ^ kt q := by
  by_cases e : q = i
  · subst e; exact hi
  · exact h q (by omega)
theorem kt_last (m : Nat) : m < 4611686018427387904 ↔ m < 2 ^ kt 3 := Iff.rfl
theorem kd_first {m i : Nat} (hi : i < 4) (h : m < 2 ^ kt i) (hno : ∀ q, q < i → ¬ m < 2 ^ kt q) : kd m = i := by
  match i, hi with
  | 0, _ =>
    have h : m < 64 := h
    exact if_pos h
  | 1, _ =>
    have h0 : ¬ m < 64 := hno 0 (by omega)
    have h : m < 16384 := h
    rw [kd, if_neg h0, if_pos h]
  | 2, _ =>
    have h0 : ¬ m < 64 := hno 0 (by omega)
    have h1 : ¬ m < 16384 := hno 1 (by omega)
    have h : m < 1073741824 := h
    rw [kd, if_neg h0, if_neg h1, if_pos h]
  | 3, _ =>
    have h0 : ¬ m < 64 := hno 0 (by omega)
    have h1 : ¬ m < 16384 := hno 1 (by omega)
    have h2 : ¬ m < 1073741824 := hno 2 (by omega)
    rw [kd, if_neg h0, if_neg h1, if_neg h2]
end Go.X
namespace Go.X
theorem gather_succ (f : Nat → Int) (i : Nat) (s : List Int) : gather f (i + 1) s = gather f i s ++ [f i] := rfl
theorem shl_one (i : Nat) (h : i ≤ 3) : shl .i64 1 ((i : Nat) : Int) = ((2 ^ i : Nat) : Int) := by
  match i, h with
  | 0, _ => rfl
  | 1, _ => rfl
  | 2, _ => rfl
  | 3, _ => rfl
theorem shl_kd (n : Nat) : shl .i64 1 ((kd n : Nat) : Int) = ((2 ^ kd n : Nat) : Int) := shl_one _ (kd_le n)
theorem pow_kd_le (n : Nat) : 2 ^ kd n ≤ 8 := by
  have : 2 ^ kd n ≤ 2 ^ 3 := Nat.pow_le_pow_right (by decide) (kd_le n)
  omega
theorem app_at (n : Nat) (b : List Int) : (b ++ bigS n (2 ^ kd n)).getD b.length 0 = bt n (2 ^ kd n - 1) := by
  rw [getD_app_right (Nat.le_refl _), Nat.sub_self, big_zero n _ (two_pos _)]
theorem app_put (n : Nat) (b : List Int) : (b ++ bigS n (2 ^ kd n)).set b.length (bt n (2 ^ kd n - 1) + 64 * ((kd n : Nat) : Int)) = b ++ putV n := by
  rw [List.set_append_right _ _ (Nat.le_refl _), Nat.sub_self, putV]
theorem put_top (n : Nat) (h : n < 4611686018427387904) : bits .or .u8 (bt n (2 ^ kd n - 1)) (IntKind.u8.wrap (shl .i64 ((kd n : Nat) : Int) 6)) = bt n (2 ^ kd n - 1) + 64 * ((kd n : Nat) : Int) := by
  have ht := top_lt n h
  have h0 := bt_ok n (2 ^ kd n - 1)
  have hs : IntKind.u8.wrap (shl .i64 ((kd n : Nat) : Int) 6) = ((kd n * 2 ^ 6 : Nat) : Int) := by
    have hk := kd_le n
    generalize kd n = k at hk
    match k, hk with
    | 0, _ => rfl
    | 1, _ => rfl
    | 2, _ => rfl
    | 3, _ => rfl
  obtain ⟨c, hc⟩ := Int.eq_ofNat_of_zero_le h0.1
  rw [hc] at ht h0 ⊢
  have hk := kd_le n
  have ho : kd n * 2 ^ 6 ||| c = kd n * 2 ^ 6 + c := or_low _ c 6 (by omega)
  rw [hs, u8_or_nat c (kd n * 2 ^ 6) (by omega) (by omega), Nat.or_comm, ho]
  omega
theorem and_bt (n q : Nat) (h : n < 9223372036854775808) (hq : q ≤ 7) : bits .and .i64 (shr .i64 ((n : Nat) : Int) (8 * ((q : Nat) : Int))) 255 = bt n q := by
  rw [show (8 * ((q : Nat) : Int)) = ((8 * q : Nat) : Int) by omega, shr_nat .i64 n (8 * q) (by simp [IntKind.bits]; omega)]
  show IntKind.i64.wrap ((BitVec.ofInt 64 ((n / 2 ^ (8 * q) : Nat) : Int) &&& BitVec.ofInt 64 ((255 : Nat) : Int)).toNat : Int) = _
  have hlt : n / 2 ^ (8 * q) < 18446744073709551616 := Nat.lt_of_le_of_lt (Nat.div_le_self _ _) (by omega)
  rw [BitVec.toNat_and, ofInt_u64' _ hlt, ofInt_u64' 255 (by decide), show (255 : Nat) = 2 ^ 8 - 1 from rfl, Nat.and_two_pow_sub_one_eq_mod, bt, Nat.pow_mul]
  exact i64_wrap (by omega) (by omega)
def putf (n j : Nat) : Int := if j = 0 then bt n (2 ^ kd n - 1) + 64 * ((kd n : Nat) : Int) else bt n (2 ^ kd n - 1 - j)
theorem putf_all (n : Nat) : gather (putf n) (2 ^ kd n) [] = putV n := by
  refine ext_getD (by simp) fun q hq => ?_
  have hq : q < 2 ^ kd n := by simpa using hq
  rw [gather_get _ _ _ hq, putf, putV]
  by_cases h0 : q = 0
  · subst h0
    rw [if_pos rfl, List.getD_eq_getElem?_getD, List.getElem?_set_self (by simpa using hq)]; rfl
  · rw [if_neg h0, List.getD_eq_getElem?_getD, List.getElem?_set_ne (by omega), ← List.getD_eq_getElem?_getD, bigS, gather_get _ _ _ hq, bigf]
theorem wrap8_of {x : Int} (h0 : 0 ≤ x) (h : x < 256) : IntKind.u8.wrap x = x := by simp [IntKind.wrap, IntKind.bits, IntKind.signed]; omega
end Go.X
namespace Go.X
theorem shr6 {b : List Int} (h : Bytes b) : shr .u8 (b.getD 0 0) 6 = ((tk b : Nat) : Int) := by
  have h0 := h.getD 0
  obtain ⟨c, hc⟩ := Int.eq_ofNat_of_zero_le h0.1
  have e := shr_nat .u8 c 6 (by decide)
  rw [tk, hc]
  exact e
theorem and63 {x : Int} (h0 : 0 ≤ x) (h : x < 256) : bits .and .u8 x 63 = x % 64 := by
  obtain ⟨c, rfl⟩ := Int.eq_ofNat_of_zero_le h0
  have e : bits .and .u8 ((c : Nat) : Int) ((63 : Nat) : Int) = ((c &&& 63 : Nat) : Int) := by
    show IntKind.u8.wrap ((BitVec.ofInt 8 ((c : Nat) : Int) &&& BitVec.ofInt 8 ((63 : Nat) : Int)).toNat : Int) = _
    have hb : ∀ m : Nat, m < 256 → (BitVec.ofInt 8 (m : Int)).toNat = m := fun m hm => by simp [BitVec.toNat_ofInt]; omega
    rw [BitVec.toNat_and, hb c (by omega), hb 63 (by decide)]
    have : c &&& 63 ≤ 63 := Nat.and_le_right
    exact wrap8_of (by omega) (by omega)
  have e2 : c &&& 63 = c % 64 := by rw [show (63 : Nat) = 2 ^ 6 - 1 from rfl, Nat.and_two_pow_sub_one_eq_mod]
  rw [show (63 : Int) = ((63 : Nat) : Int) from rfl, e, e2]
  omega
theorem take_succ_getD {bs : List Int} {i : Nat} (h : i < bs.length) : bs.take (i + 1) = bs.take i ++ [bs.getD i 0] := by
  rw [List.take_succ_eq_append_getElem h, List.getD_eq_getElem?_getD, List.getElem?_eq_getElem h]; rfl
theorem valS_take_succ {bs : List Int} {i : Nat} (h : i < bs.length) : valS (bs.take (i + 1)) = valS (bs.take i) * 256 + (bs.getD i 0).toNat := by rw [take_succ_getD h, valS_app]
theorem valS_take_le (bs : List Int) (i : Nat) : valS (bs.take i) ≤ valS bs := by
  conv => rhs; rw [← List.take_append_drop i bs]
  rw [valS_append]
  have : valS (bs.take i) * 1 ≤ valS (bs.take i) * 256 ^ (bs.drop i).length := Nat.mul_le_mul_left _ (Nat.pow_pos (by decide))
  omega
/-- What small comes to, a byte further. -/
theorem small_step {bs : List Int} (h : Bytes bs) {i : Nat} (hi : i < bs.length) (hv : valS bs < 4611686018427387904) : bits .or .i64 (shl .i64 ((valS (bs.take i) : Nat) : Int) 8) (IntKind.i64.wrap (bs.getD i 0)) = ((valS (bs.take (i + 1)) : Nat) : Int) := by
  have h0 := h.getD i
  obtain ⟨c, hc⟩ := Int.eq_ofNat_of_zero_le h0.1
  have hs := valS_take_succ hi
  have hl := valS_take_le bs (i + 1)
  rw [hc] at h0 hs ⊢
  rw [Int.toNat_natCast] at hs
  rw [i64_wrap (by omega) (by omega), shl_or _ c (by omega) (by omega), hs]
/-- The bytes of a number that is taken, the kind's bits struck. -/
def own (b : List Int) : List Int := (b.take (2 ^ tk b)).set 0 (b.getD 0 0 % 64)
theorem Bytes.own {b : List Int} (h : Bytes b) : Bytes (own b) := by
  have := h.getD 0
  exact Bytes.set (h.take _) (by omega) 0
theorem own_length {b : List Int} (hl : 2 ^ tk b ≤ b.length) : (own b).length = 2 ^ tk b := by simp [own]; omega
theorem own_zero {b : List Int} (hl : 2 ^ tk b ≤ b.length) : (own b).getD 0 0 = b.getD 0 0 % 64 := by
  have := two_pos (tk b)
  rw [own, List.getD_eq_getElem?_getD, List.getElem?_set_self (by rw [List.length_take]; omega)]; rfl
theorem own_get {b : List Int} {i : Nat} (h0 : i ≠ 0) (hi : i < 2 ^ tk b) : (own b).getD i 0 = b.getD i 0 := by
  rw [own, List.getD_eq_getElem?_getD, List.getElem?_set_ne (by omega), ← List.getD_eq_getElem?_getD, getD_take _ hi]
theorem own_one {b : List Int} (h : Bytes b) (hl : 2 ^ tk b ≤ b.length) : ((valS ((own b).take 1) : Nat) : Int) = IntKind.i64.wrap (b.getD 0 0 % 64) := by
  have hp := two_pos (tk b)
  have h0 := h.getD 0
  have hs := valS_take_succ (bs := own b) (i := 0) (by rw [own_length hl]; exact hp)
  rw [own_zero hl] at hs
  rw [show (0 + 1) = 1 from rfl] at hs
  rw [hs, i64_wrap (by omega) (by omega)]
  simp [valS, valG]
  omega
theorem own_step {b : List Int} (h : Bytes b) (hl : 2 ^ tk b ≤ b.length) {i : Nat} (h0 : i ≠ 0) (hi : i < 2 ^ tk b) : ((valS ((own b).take i) : Nat) : Int) * 256 + IntKind.i64.wrap (b.getD i 0) = ((valS ((own b).take (i + 1)) : Nat) : Int) := by
  have hb := h.getD i
  have hs := valS_take_succ (bs := own b) (i := i) (by rw [own_length hl]; exact hi)
  rw [own_get h0 hi] at hs
  rw [hs, i64_wrap (by omega) (by omega)]
  omega
theorem own_le (b : List Int) (i : Nat) : valS ((own b).take i) ≤ tv b := valS_take_le _ i
theorem own_all {b : List Int} (hl : 2 ^ tk b ≤ b.length) : valS ((own b).take (2 ^ tk b)) = tv b := by rw [List.take_of_length_le (by rw [own_length hl]; exact Nat.le_refl _)]; rfl
def takeE (b : List Int) : Int := if b.length = 0 ∨ b.length < 2 ^ tk b then 3 else 90
theorem take_bad_kd {b : List Int} (h : takeOk b = false) (h0 : b.length ≠ 0) (hl : 2 ^ tk b ≤ b.length) : ((kd (tv b) : Nat) : Int) ≠ ((tk b : Nat) : Int) := fun e => by
  have : takeOk b = true := by simp only [takeOk, decide_eq_true_eq]; exact ⟨h0, hl, by omega⟩
  rw [h] at this
  cases this
theorem take_ok {b : List Int} (h : takeOk b = true) : b.length ≠ 0 ∧ 2 ^ tk b ≤ b.length ∧ kd (tv b) = tk b := by simpa [takeOk] using h
theorem pow_inj_kd {a b : Nat} : 2 ^ a = 2 ^ b ↔ a = b := Nat.pow_right_inj (by decide)
end Go.X
namespace Go.X
theorem bl_fix (n s : Nat) : bl n ≤ 8 * s ↔ n < 256 ^ s := by
  rw [bl_le, Nat.pow_mul]
theorem shr_fix (n s : Nat) (h : s ≤ 7) : shr .i64 ((n : Nat) : Int) (8 * ((s : Nat) : Int)) = ((n / 256 ^ s : Nat) : Int) := by
  rw [show (8 * ((s : Nat) : Int)) = ((8 * s : Nat) : Int) by omega, shr_nat .i64 n (8 * s) (by simp [IntKind.bits]; omega), Nat.pow_mul]
theorem valS_take_lt {b : List Int} (h : Bytes b) {s : Nat} (hs : s ≤ 7) : valS (b.take s) < 4611686018427387904 := by
  have h1 := valS_lt (h.take s)
  have h2 : 256 ^ (b.take s).length ≤ 256 ^ 7 := Nat.pow_le_pow_right (by decide) (by rw [List.length_take]; omega)
  have h3 : (256 : Nat) ^ 7 = 72057594037927936 := by decide
  omega
theorem ref_step {b : List Int} (h : Bytes b) {i : Nat} (hi : i < b.length) : ((valS (b.take i) : Nat) : Int) * 256 + b.getD i 0 = ((valS (b.take (i + 1)) : Nat) : Int) := by
  have hb := h.getD i
  rw [valS_take_succ hi]
  omega
theorem take_take_le {b : List Int} {i s : Nat} (h : i ≤ s) : valS (b.take i) ≤ valS (b.take s) := by
  have := valS_take_le (b.take s) i
  rwa [List.take_take, Nat.min_eq_left h] at this
end Go.X
namespace Go.X
theorem Bytes.putV {n : Nat} (h : n < 4611686018427387904) : Bytes (putV n) := by
  have h1 := top_lt n h
  have h0 := bt_ok n (2 ^ kd n - 1)
  have hk := kd_le n
  exact Bytes.set (Bytes.bigS _ _) (by omega) 0
theorem drop_put (n : Nat) (h : n < 4611686018427387904) (b : List Int) : (putV n ++ b).drop (2 ^ tk (putV n ++ b)) = b := by
  rw [tk_put n h b, List.drop_append_of_le_length (by simp), List.drop_of_length_le (by simp), List.nil_append]
theorem takeE_ne (b : List Int) : takeE b ≠ 0 := by unfold takeE; split <;> decide
theorem put_take_bstr {b : List Int} (h : Bytes b) (ho : takeOk b = true) : bstr (putV (tv b)) ++ bstr (b.drop (2 ^ tk b)) = bstr b := by rw [← bstr_app, put_take h ho]
/-- P9.3: may a text be taken; why not. -/
def tbOk (b : List Int) (z : Int) : Prop := takeOk b = true ∧ ((tv b : Nat) : Int) ≤ z ∧ tv b ≤ b.length - 2 ^ tk b
def tbE (b : List Int) (z : Int) : Int := if takeOk b = false then takeE b else if z < ((tv b : Nat) : Int) then 2 else 3
theorem fixed_back (n s : Nat) (h : n < 256 ^ s) (b : List Int) : valS ((bigS n s ++ b).take s) = n := by
  rw [List.take_append_of_le_length (by simp), List.take_of_length_le (by simp), valS_big n s h]
theorem fixed_rest (n s : Nat) (b : List Int) : (bigS n s ++ b).drop s = b := by
  rw [List.drop_append_of_le_length (by simp), List.drop_of_length_le (by simp), List.nil_append]
theorem whole_ok (t b : List Int) (h : t.length < 4611686018427387904) : tbOk (putV t.length ++ (t ++ b)) ((t.length : Nat) : Int) := by
  refine ⟨take_put _ h _, ?_, ?_⟩
  · rw [tv_put _ h]; exact Int.le_refl _
  · rw [tv_put _ h, tk_put _ h]; simp
theorem whole_text (t b : List Int) (h : t.length < 4611686018427387904) : ((putV t.length ++ (t ++ b)).drop (2 ^ tk (putV t.length ++ (t ++ b)))).take (tv (putV t.length ++ (t ++ b))) = t := by
  rw [drop_put _ h, tv_put _ h]; simp
theorem whole_rest (t b : List Int) (h : t.length < 4611686018427387904) : ((putV t.length ++ (t ++ b)).drop (2 ^ tk (putV t.length ++ (t ++ b)))).drop (tv (putV t.length ++ (t ++ b))) = b := by
  rw [drop_put _ h, tv_put _ h]; simp
end Go.X
namespace Go.X
theorem cat_ok {b : List Int} (n k : Nat) (h : b.length ≤ 140737488351232) : (bstr ([] ++ putV n)).size + (bstr (b.drop k)).size ≤ 9223372036854775807 := by
  have := pow_kd_le n
  rw [bstr_size, bstr_size, List.nil_append, putV_length, List.length_drop]
  omega
end Go.X
