/-
  What a mac of layer 6 comes to, over whole numbers alone.
-/
import Derived.Test.YtmkjnefongjniaaPureC
import Derived.Test.YtmkjnefongjniaaX11
namespace Go.X
open Go

/-- P6.2 -/
def hashS (b : List Int) : List Int := sumS [] 32 b
@[simp] theorem hashS_length (b : List Int) : (hashS b).length = 32 := sumS_length [] b (Nat.le_refl _)
theorem Bytes.sumS (key : List Int) (s : Nat) (b : List Int) : Bytes (sumS key s b) := fun x hx => Bytes.out32 _ x (List.mem_of_mem_take hx)
theorem Bytes.hashS (b : List Int) : Bytes (hashS b) := Bytes.sumS [] 32 b
def mkey (key : List Int) : List Int := if 64 < key.length then hashS key else key
theorem mkey_long {key : List Int} (h : 64 < key.length) : mkey key = hashS key := if_pos h
theorem mkey_short {key : List Int} (h : key.length ≤ 64) : mkey key = key := if_neg (by omega)
theorem mkey_le (key : List Int) : (mkey key).length ≤ 64 := by
  unfold mkey; split
  · simp
  · omega
def kpd (key : List Int) : List Int := mkey key ++ List.replicate (64 - (mkey key).length) 0
@[simp] theorem kpd_length (key : List Int) : (kpd key).length = 64 := by have := mkey_le key; simp [kpd]; omega
theorem kpd_copy (key : List Int) : mkey key ++ (List.replicate 64 0).drop (mkey key).length = kpd key := by rw [List.drop_replicate, kpd]
theorem kpd_short {key : List Int} (h : key.length ≤ 64) : key ++ (List.replicate 64 0).drop key.length = kpd key := by rw [← kpd_copy, mkey_short h]
theorem kpd_long {key : List Int} (h : 64 < key.length) : hashS key ++ (List.replicate 64 0).drop 32 = kpd key := by rw [← kpd_copy, mkey_long h, hashS_length]
def kxf (c : Int) (key : List Int) (q : Nat) : Int := bits .xor .u8 ((kpd key).getD q 0) c
def kx (c : Int) (key : List Int) : List Int := gather (kxf c key) 64 []
@[simp] theorem kx_length (c : Int) (key : List Int) : (kx c key).length = 64 := by simp [kx]
/-- P6.2 -/
def macS (key b : List Int) : List Int := hashS (kx 92 key ++ hashS (kx 54 key ++ b))
@[simp] theorem macS_length (key b : List Int) : (macS key b).length = 32 := hashS_length _
theorem Bytes.macS (key b : List Int) : Bytes (macS key b) := Bytes.hashS _
theorem macS_congr {key key' : List Int} (h : kpd key = kpd key') (b : List Int) : macS key b = macS key' b := by
  have hk : ∀ c, kx c key = kx c key' := fun c => by
    have : kxf c key = kxf c key' := funext fun q => by rw [kxf, kxf, h]
    rw [kx, kx, this]
  rw [macS, macS, hk, hk]
theorem macS_noughts (key b : List Int) (n : Nat) (h : key.length + n ≤ 64) : macS (key ++ List.replicate n 0) b = macS key b := by
  refine macS_congr ?_ b
  have h1 : (key ++ List.replicate n 0).length = key.length + n := by simp
  rw [kpd, kpd, mkey_short (by omega), mkey_short (by omega), h1, List.append_assoc, List.replicate_append_replicate, show n + (64 - (key.length + n)) = 64 - key.length by omega]
theorem macS_long (key b : List Int) (h : 64 < key.length) : macS (hashS key) b = macS key b := by
  refine macS_congr ?_ b
  rw [kpd, kpd, mkey_long h, mkey_short (by simp)]
theorem fillAt_ahead (f : Nat → Int) (s : List Int) (j : Nat) : ∀ i, i ≤ j → (fillAt (fun q => q) f i s).getD j 0 = s.getD j 0
  | 0, _ => rfl
  | i + 1, h => by
    rw [fillAt, List.getD_eq_getElem?_getD, List.getElem?_set_ne (by omega), ← List.getD_eq_getElem?_getD]
    exact fillAt_ahead f s j i (by omega)
theorem fillAt_part (f : Nat → Int) (s : List Int) : ∀ i, i ≤ s.length → fillAt (fun q => q) f i s = gather f i [] ++ s.drop i
  | 0, _ => rfl
  | i + 1, h => by
    have hl : (gather f i []).length = i := by simp
    rw [fillAt, fillAt_part f s i (by omega), List.set_append_right _ _ (by omega), hl, Nat.sub_self, gather, List.drop_eq_getElem_cons (by omega), List.set_cons_zero, List.append_assoc]
    rfl
theorem fillAt_whole (f : Nat → Int) (s : List Int) (n : Nat) (h : s.length = n) : fillAt (fun q => q) f n s = gather f n [] := by
  rw [fillAt_part f s n (by omega), List.drop_of_length_le (by omega), List.append_nil]
theorem kx_fill (c : Int) (key : List Int) : fillAt (fun q => q) (kxf c key) 64 (kpd key) = kx c key := fillAt_whole _ _ 64 (kpd_length key)
/-- A key's byte, or nought behind it. -/
theorem kpd_get {key : List Int} (h : key.length ≤ 64) (q : Nat) : (kpd key).getD q 0 = if q < key.length then key.getD q 0 else 0 := by
  rw [kpd, mkey_short h]
  split
  · exact getD_app_left ‹_›
  · rw [getD_app_right (by omega), getD_rep]
theorem gather_self (xs : List Int) : gather (fun q => xs.getD q 0) xs.length [] = xs := by
  refine ext_getD (by simp) fun i hi => ?_
  have hi : i < xs.length := by simpa using hi
  rw [gather_get _ _ _ hi]
theorem fill_self (xs : List Int) (n : Nat) (h : xs.length = n) : fillAt (fun q => q) (fun q => xs.getD q 0) n (List.replicate n 0) = xs := by
  subst h
  rw [fillAt_all, gather_self]
end Go.X
