/-
  The curve's functions, as plain arithmetic.
-/
import Derived.Test.YtpklnjegimchoaaGreatDoorProg
import Derived.KernelRfl
import Derived.Test.YtpklnjegimchoaaGreatDoorME
import Derived.Test.YtpklnjegimchoaaGreatDoorMT
namespace Go.Proofs.YtpklnjegimchoaaGreatDoor
open Go Go.X Go.Z
def ren25 : Shelf.Ren := ⟨fun _ => 220, fun _ => 240, fun x => x⟩
def ren26 : Shelf.Ren := ⟨fun _ => 222, fun _ => 240, fun x => x⟩
def ren264 : Shelf.Ren := ⟨fun _ => 223, fun t => match t with | 46 => 301 | _ => 240, fun x => x⟩
theorem lays25 : Lays7.n25 Tryz.prog ren25 := ⟨by kernel_rfl, by kernel_rfl, by kernel_rfl, fun _ => by kernel_rfl, fun _ => by kernel_rfl, fun _ => by kernel_rfl, by kernel_rfl⟩
theorem lays26 : Lays7.n26 Tryz.prog ren26 := ⟨by kernel_rfl, by kernel_rfl, by kernel_rfl, fun _ => by kernel_rfl, fun _ => by kernel_rfl, fun _ => by kernel_rfl, by kernel_rfl⟩
theorem lays264 : Lays.n264 Tryz.prog ren264 := ⟨by kernel_rfl, by kernel_rfl, by kernel_rfl, fun _ => by kernel_rfl, fun _ => by kernel_rfl, fun _ => by kernel_rfl, by kernel_rfl, fun _ => by kernel_rfl, fun _ => by kernel_rfl, fun _ => by kernel_rfl⟩
theorem enters223 : Enters Tryz.prog 223 := X.enters_of Tryz.func223 (by kernel_rfl) (by kernel_rfl)
variable {I : In} {w0 : World}
theorem pAdd220 : PrimOk Tryz.prog I w0 220 pAdd := pAdd_ok fun x y c hc w => Any7.bits_Add64 lays25 x y c hc w
theorem pSub222 : PrimOk Tryz.prog I w0 222 pSub := pSub_ok fun x y c hc w => Any7.bits_Sub64 lays26 x y c hc w
theorem pMul223 : PrimOk Tryz.prog I w0 223 pMul := pMul_ok enters223 fun x y hx hy w => Any.bits_Mul64 lays264 x y hx hy w
end Go.Proofs.YtpklnjegimchoaaGreatDoor
namespace Go.Proofs.YtpklnjegimchoaaGreatDoor
open Go Go.X Go.Z
set_option maxRecDepth 1000000
noncomputable def keepF (f r : Nat) : Option Nat := match keepT.get f with
  | some t => t.get r
  | none => none
noncomputable def plF (f r : Nat) : Option Pl := match plT.get f with
  | some t => t.get r
  | none => none
noncomputable def tmpF (f : Nat) : List Nat := match tmpT.get f with
  | some t => t
  | none => []
noncomputable def lpdF (f r : Nat) : List Nat := match lpdT.get f with
  | some t => match t.get r with
    | some l => l
    | none => []
  | none => []
noncomputable def primC : Nat → Option (List SV → G → Option (SV × G))
  | 220 => some pAdd
  | 222 => some pSub
  | 223 => some pMul
  | _ => none
def useC : List Nat := [88, 89, 90, 91, 156, 157, 158, 159, 160, 161, 162, 219, 221, 264, 266, 267, 268, 273, 281, 282, 283, 284, 285]
noncomputable def cfC : Cf := { zt := [], keep := keepF, pl := plF, tmps := tmpF, use := fun f => memN f useC, prim := primC, dfr := fun _ _ => false, skip := fun _ _ => none, lpd := lpdF }
theorem mixed : Tryz.prog.follows .mixedOrders = true := by kernel_rfl
theorem useC_ok : allUse Tryz.prog cfC useC = true := by kernel_rfl
theorem cfC_ok (I : In) (w : World) : CfOk Tryz.prog I w cfC :=
  cfOk_of (fun p hp => by cases hp) mixed rfl useC_ok (fun f _ fn _ c _ b _ sk hs => by cases hs)
    (fun f p hp => by
      have hp : primC f = some p := hp
      unfold primC at hp
      split at hp
      · cases hp; exact pAdd220
      · cases hp; exact pSub222
      · cases hp; exact pMul223
      · cases hp)
    (fun f k hd => by cases hd)
def prP : List SC := [.int .u64 (.k 18446744073709551597), .int .u64 (.k 18446744073709551615), .int .u64 (.k 18446744073709551615), .int .u64 (.k 9223372036854775807)]
def prQ : List SC := [.int .u64 (.k 18446744073709551611), .int .u64 (.k 18446744073709551615), .int .u64 (.k 3)]
def smallB : List SC := .int .u8 (.k 65) :: .int .u8 (.k 219) :: .int .u8 (.k 1) :: List.replicate 29 (.int .u8 (.k 0))
def beginB : List SC := .int .u8 (.k 9) :: List.replicate 31 (.int .u8 (.k 0))
noncomputable def fn2 (f : Nat) (k : IntKind) (sh : List (Option Nat)) (gl : List (Nat × List SC)) (k' : IntKind) : List SV → G → Option (SV × G) := pNx k sh gl k' (resC Tryz.prog cfC 3000 f k sh gl k')
theorem fn2_ok {I : In} {w0 : World} (f : Nat) (k : IntKind) (sh : List (Option Nat)) (gl : List (Nat × List SC)) (k' : IntKind) : PrimOk Tryz.prog I w0 f (fn2 f k sh gl k') := pNx_ok (cfC_ok I)
end Go.Proofs.YtpklnjegimchoaaGreatDoor
namespace Go.Proofs.YtpklnjegimchoaaGreatDoor
open Go Go.X Go.Z
set_option maxRecDepth 1000000
abbrev nk (n : Nat) : Nx := .lin (.k (.ofNat n))
abbrev op4 (o : NO) (a b : Nx) : Nx := .op o .u64 a b
structure W4 where
  a : Nx
  b : Nx
  c : Nx
  d : Nx
def byN (o : Nat) : Nx := .lin (.s 0 [(1, o)])
def wordX (o : Nat) : Nx := op4 .or (op4 .or (op4 .or (op4 .or (op4 .or (op4 .or (op4 .or (byN o) (op4 .shl (byN (Nat.add o 1)) (nk 8))) (op4 .shl (byN (Nat.add o 2)) (nk 16))) (op4 .shl (byN (Nat.add o 3)) (nk 24))) (op4 .shl (byN (Nat.add o 4)) (nk 32))) (op4 .shl (byN (Nat.add o 5)) (nk 40))) (op4 .shl (byN (Nat.add o 6)) (nk 48))) (op4 .shl (byN (Nat.add o 7)) (nk 56))
def loadX (o : Nat) : W4 := ⟨wordX o, wordX (Nat.add o 8), wordX (Nat.add o 16), wordX (Nat.add o 24)⟩
def bytX (w : Nx) (k : Nat) : Nx := .op .wrap .u8 (op4 .shr w (nk (Nat.mul 8 k))) (nk 0)
def byt8 (w : Nx) (r : List Nx) : List Nx := bytX w 0 :: bytX w 1 :: bytX w 2 :: bytX w 3 :: bytX w 4 :: bytX w 5 :: bytX w 6 :: bytX w 7 :: r
def storeX (w : W4) : List Nx := byt8 w.a (byt8 w.b (byt8 w.c (byt8 w.d [])))
def addL (x y c : Nx) : Nx := op4 .low (op4 .sum (op4 .sum x y) c) (nk 0)
def addH (x y c : Nx) : Nx := op4 .over (op4 .sum (op4 .sum x y) c) (nk 0)
def stL (a b t c : Nx) : Nx := addL (addL (op4 .low (op4 .prod a b) (nk 0)) t (nk 0)) c (nk 0)
def stH (a b t c : Nx) : Nx := op4 .add (op4 .add (op4 .high (op4 .prod a b) (nk 0)) (addH (op4 .low (op4 .prod a b) (nk 0)) t (nk 0))) (addH (addL (op4 .low (op4 .prod a b) (nk 0)) t (nk 0)) c (nk 0))
def rowX {β : Type} (x : Nx) (y t : W4) (k : W4 → Nx → β) : β :=
  let h0 := stH x y.a t.a (nk 0)
  let h1 := stH x y.b t.b h0
  let h2 := stH x y.c t.c h1
  k ⟨stL x y.a t.a (nk 0), stL x y.b t.b h0, stL x y.c t.c h1, stL x y.d t.d h2⟩ (stH x y.d t.d h2)
def moreX {β : Type} (w : W4) (u : Nx) (k : W4 → Nx → β) : β :=
  let lo := op4 .low (op4 .prod u (nk 38)) (nk 0)
  let hi := op4 .high (op4 .prod u (nk 38)) (nk 0)
  let c0 := addH w.a lo (nk 0)
  let c1 := addH w.b hi c0
  let c2 := addH w.c (nk 0) c1
  k ⟨addL w.a lo (nk 0), addL w.b hi c0, addL w.c (nk 0) c1, addL w.d (nk 0) c2⟩ (addH w.d (nk 0) c2)
def prodX (x y : W4) : W4 :=
  rowX x.a y ⟨nk 0, nk 0, nk 0, nk 0⟩ fun t0 u0 =>
  rowX x.b y ⟨t0.b, t0.c, t0.d, u0⟩ fun t1 u1 =>
  rowX x.c y ⟨t1.b, t1.c, t1.d, u1⟩ fun t2 u2 =>
  rowX x.d y ⟨t2.b, t2.c, t2.d, u2⟩ fun t3 u3 =>
  let l0 := stH t3.b (nk 38) t0.a (nk 0)
  let l1 := stH t3.c (nk 38) t1.a l0
  let l2 := stH t3.d (nk 38) t2.a l1
  moreX ⟨stL t3.b (nk 38) t0.a (nk 0), stL t3.c (nk 38) t1.a l0, stL t3.d (nk 38) t2.a l1, stL u3 (nk 38) t3.a l2⟩ (stH u3 (nk 38) t3.a l2) fun w u =>
  moreX w u fun w _ => w
def subL (x y c : Nx) : Nx := op4 .low (op4 .less x (op4 .sum y c)) (nk 0)
def subH (x y c : Nx) : Nx := op4 .below x (op4 .sum y c)
def pickX (c t w : Nx) : Nx := op4 .or (op4 .and t (op4 .sub c (nk 1))) (op4 .and w (op4 .sub (nk 0) c))
def p0 : Nat := 18446744073709551597
def p1 : Nat := 18446744073709551615
def p3 : Nat := 9223372036854775807
def lessX (w : W4) : W4 :=
  let c0 := subH w.a (nk p0) (nk 0)
  let c1 := subH w.b (nk p1) c0
  let c2 := subH w.c (nk p1) c1
  let c3 := subH w.d (nk p3) c2
  ⟨pickX c3 (subL w.a (nk p0) (nk 0)) w.a, pickX c3 (subL w.b (nk p1) c0) w.b, pickX c3 (subL w.c (nk p1) c1) w.c, pickX c3 (subL w.d (nk p3) c2) w.d⟩
def canonX (w : W4) : W4 := lessX (lessX w)
def sumX (x y : W4) : W4 :=
  let c0 := addH x.a y.a (nk 0)
  let c1 := addH x.b y.b c0
  let c2 := addH x.c y.c c1
  moreX ⟨addL x.a y.a (nk 0), addL x.b y.b c0, addL x.c y.c c1, addL x.d y.d c2⟩ (addH x.d y.d c2) fun w u => moreX w u fun w _ => w
def minusX (y : W4) : W4 :=
  let c0 := subH (nk p0) y.a (nk 0)
  let c1 := subH (nk p1) y.b c0
  let c2 := subH (nk p1) y.c c1
  ⟨subL (nk p0) y.a (nk 0), subL (nk p1) y.b c0, subL (nk p1) y.c c1, subL (nk p3) y.d c2⟩
noncomputable def sameL (r : Option (List Nx)) (l : List Nx) : Bool := match r with
  | some m => leq Nx.beq m l
  | none => false
theorem sameL_ok {r : Option (List Nx)} {l : List Nx} (h : sameL r l = true) : r = some l := by
  unfold sameL at h
  split at h
  · rw [leq_ok (fun _ _ h => Nx.beq_ok h) h]
  · cases h
noncomputable def res2 (f : Nat) (sh : List (Option Nat)) : Option (List Nx) := resC Tryz.prog cfC 3000 f .u8 sh [(2, prP)] .u8
theorem treeMul : res2 90 [some 32, some 32] = some (storeX (canonX (prodX (loadX 0) (loadX 32)))) := sameL_ok (by kernel_rfl)
theorem treeSq : res2 91 [some 32] = some (storeX (canonX (prodX (loadX 0) (loadX 0)))) := sameL_ok (by kernel_rfl)
theorem treeAdd : res2 88 [some 32, some 32] = some (storeX (canonX (sumX (loadX 0) (loadX 32)))) := sameL_ok (by kernel_rfl)
theorem treeSub : res2 89 [some 32, some 32] = some (storeX (canonX (sumX (loadX 0) (minusX (canonX (loadX 32)))))) := sameL_ok (by kernel_rfl)
theorem treeCanon : res2 273 [some 32] = some (storeX (canonX (loadX 0))) := sameL_ok (by kernel_rfl)
section
variable {xs : Nat → Nat}
noncomputable def V (xs : Nat → Nat) (e : Nx) : Nat := nxN xs e
theorem V_nk (n : Nat) : V xs (nk n) = n := rfl
theorem V_low (a b : Nx) : V xs (op4 .low a b) = V xs a % 18446744073709551616 := rfl
theorem V_high (a b : Nx) : V xs (op4 .high a b) = V xs a / 18446744073709551616 % 18446744073709551616 := rfl
theorem V_sum (a b : Nx) : V xs (op4 .sum a b) = V xs a + V xs b := rfl
theorem V_prod (a b : Nx) : V xs (op4 .prod a b) = V xs a * V xs b := rfl
theorem V_add (a b : Nx) : V xs (op4 .add a b) = (V xs a + V xs b) % 18446744073709551616 := rfl
theorem V_sub (a b : Nx) : V xs (op4 .sub a b) = (V xs a + (18446744073709551616 - V xs b % 18446744073709551616)) % 18446744073709551616 := rfl
theorem V_less (a b : Nx) : V xs (op4 .less a b) = V xs a + 18446744073709551616 - V xs b := rfl
theorem V_and (a b : Nx) : V xs (op4 .and a b) = (V xs a % 18446744073709551616) &&& (V xs b % 18446744073709551616) := rfl
theorem V_or (a b : Nx) : V xs (op4 .or a b) = (V xs a % 18446744073709551616) ||| (V xs b % 18446744073709551616) := rfl
theorem blt_dec (a b : Nat) : Nat.blt a b = decide (a < b) := by
  by_cases h : a < b
  · rw [decide_eq_true h]; exact blt_iff.2 h
  · rw [decide_eq_false h]
    cases hb : Nat.blt a b with
    | false => rfl
    | true => exact absurd (blt_iff.1 hb) h
theorem V_over (a b : Nx) : V xs (op4 .over a b) = if V xs a < 18446744073709551616 then 0 else 1 := by
  show (bif Nat.blt (V xs a) 18446744073709551616 then 0 else 1) = _
  rw [blt_dec]
  by_cases h : V xs a < 18446744073709551616 <;> simp [h]
theorem V_below (a b : Nx) : V xs (op4 .below a b) = if V xs a < V xs b then 1 else 0 := by
  show (bif Nat.blt (V xs a) (V xs b) then 1 else 0) = _
  rw [blt_dec]
  by_cases h : V xs a < V xs b <;> simp [h]
theorem add_ok {x y c : Nx} {a b d : Nat} (hx : V xs x = a) (hy : V xs y = b) (hc : V xs c = d) (h1 : a < 18446744073709551616) (h2 : b < 18446744073709551616) (h3 : d ≤ 1) :
    V xs (addL x y c) + 18446744073709551616 * V xs (addH x y c) = a + b + d ∧ V xs (addL x y c) < 18446744073709551616 ∧ V xs (addH x y c) ≤ 1 := by
  unfold addL addH
  rw [V_low, V_over, V_sum, V_sum, hx, hy, hc]
  split <;> omega
theorem st_ok {x y t c : Nx} {a b d e : Nat} (hx : V xs x = a) (hy : V xs y = b) (ht : V xs t = d) (hc : V xs c = e) (h1 : a < 18446744073709551616) (h2 : b < 18446744073709551616) (h3 : d < 18446744073709551616) (h4 : e < 18446744073709551616) :
    V xs (stL x y t c) + 18446744073709551616 * V xs (stH x y t c) = a * b + d + e ∧ V xs (stL x y t c) < 18446744073709551616 ∧ V xs (stH x y t c) < 18446744073709551616 := by
  have hp : a * b ≤ 18446744073709551615 * 18446744073709551615 := Nat.mul_le_mul (by omega) (by omega)
  have hlo : V xs (op4 .low (op4 .prod x y) (nk 0)) = a * b % 18446744073709551616 := by rw [V_low, V_prod, hx, hy]
  have hhi : V xs (op4 .high (op4 .prod x y) (nk 0)) = a * b / 18446744073709551616 % 18446744073709551616 := by rw [V_high, V_prod, hx, hy]
  generalize a * b = p at hp hlo hhi
  obtain ⟨g1, g2, g3⟩ := add_ok hlo ht (V_nk (xs := xs) 0) (by omega) h3 (by omega)
  obtain ⟨g4, g5, g6⟩ := add_ok (xs := xs) (x := addL (op4 .low (op4 .prod x y) (nk 0)) t (nk 0)) rfl hc (V_nk (xs := xs) 0) g2 h4 (by omega)
  unfold stL stH
  rw [V_add, V_add, hhi]
  generalize V xs (addL (addL (op4 .low (op4 .prod x y) (nk 0)) t (nk 0)) c (nk 0)) = q1 at *
  generalize V xs (addH (addL (op4 .low (op4 .prod x y) (nk 0)) t (nk 0)) c (nk 0)) = q2 at *
  generalize V xs (addL (op4 .low (op4 .prod x y) (nk 0)) t (nk 0)) = q3 at *
  generalize V xs (addH (op4 .low (op4 .prod x y) (nk 0)) t (nk 0)) = q4 at *
  omega
structure Wd (xs : Nat → Nat) (w : W4) : Prop where
  a : V xs w.a < 18446744073709551616
  b : V xs w.b < 18446744073709551616
  c : V xs w.c < 18446744073709551616
  d : V xs w.d < 18446744073709551616
noncomputable def V4 (xs : Nat → Nat) (w : W4) : Nat := V xs w.a + 18446744073709551616 * V xs w.b + 340282366920938463463374607431768211456 * V xs w.c + 6277101735386680763835789423207666416102355444464034512896 * V xs w.d
theorem Wd.lt {w : W4} (h : Wd xs w) : V4 xs w < 115792089237316195423570985008687907853269984665640564039457584007913129639936 := by
  have := h.a; have := h.b; have := h.c; have := h.d
  unfold V4; omega
def rowW (x : Nx) (y t : W4) : W4 := rowX x y t fun w _ => w
def rowU (x : Nx) (y t : W4) : Nx := rowX x y t fun _ u => u
theorem mul4 (a b c d e : Nat) : a * (b + 18446744073709551616 * c + 340282366920938463463374607431768211456 * d + 6277101735386680763835789423207666416102355444464034512896 * e) = a * b + 18446744073709551616 * (a * c) + 340282366920938463463374607431768211456 * (a * d) + 6277101735386680763835789423207666416102355444464034512896 * (a * e) := by
  rw [Nat.mul_add, Nat.mul_add, Nat.mul_add, Nat.mul_left_comm a, Nat.mul_left_comm a, Nat.mul_left_comm a]
theorem row_ok {x : Nx} {y t : W4} (hx : V xs x < 18446744073709551616) (hy : Wd xs y) (ht : Wd xs t) : Wd xs (rowW x y t) ∧ V xs (rowU x y t) < 18446744073709551616 ∧ V4 xs (rowW x y t) + 115792089237316195423570985008687907853269984665640564039457584007913129639936 * V xs (rowU x y t) = V xs x * V4 xs y + V4 xs t := by
  obtain ⟨e0, l0, k0⟩ := st_ok (xs := xs) (x := x) (y := y.a) (t := t.a) (c := nk 0) rfl rfl rfl (V_nk 0) hx hy.a ht.a (by decide)
  obtain ⟨e1, l1, k1⟩ := st_ok (xs := xs) (x := x) (y := y.b) (t := t.b) (c := stH x y.a t.a (nk 0)) rfl rfl rfl rfl hx hy.b ht.b k0
  obtain ⟨e2, l2, k2⟩ := st_ok (xs := xs) (x := x) (y := y.c) (t := t.c) (c := stH x y.b t.b (stH x y.a t.a (nk 0))) rfl rfl rfl rfl hx hy.c ht.c k1
  obtain ⟨e3, l3, k3⟩ := st_ok (xs := xs) (x := x) (y := y.d) (t := t.d) (c := stH x y.c t.c (stH x y.b t.b (stH x y.a t.a (nk 0)))) rfl rfl rfl rfl hx hy.d ht.d k2
  refine ⟨⟨l0, l1, l2, l3⟩, k3, ?_⟩
  show V xs (stL x y.a t.a (nk 0)) + 18446744073709551616 * V xs (stL x y.b t.b (stH x y.a t.a (nk 0))) + 340282366920938463463374607431768211456 * V xs (stL x y.c t.c (stH x y.b t.b (stH x y.a t.a (nk 0)))) + 6277101735386680763835789423207666416102355444464034512896 * V xs (stL x y.d t.d (stH x y.c t.c (stH x y.b t.b (stH x y.a t.a (nk 0))))) + 115792089237316195423570985008687907853269984665640564039457584007913129639936 * V xs (stH x y.d t.d (stH x y.c t.c (stH x y.b t.b (stH x y.a t.a (nk 0))))) = V xs x * V4 xs y + V4 xs t
  have hz : V xs (nk 0) = 0 := rfl
  unfold V4
  rw [mul4]
  generalize V xs x * V xs y.a = m0 at *
  generalize V xs x * V xs y.b = m1 at *
  generalize V xs x * V xs y.c = m2 at *
  generalize V xs x * V xs y.d = m3 at *
  omega
def moreW (w : W4) (u : Nx) : W4 := moreX w u fun w _ => w
def moreU (w : W4) (u : Nx) : Nx := moreX w u fun _ u => u
theorem more_ok {w : W4} {u : Nx} (hw : Wd xs w) (hu : V xs u < 18446744073709551616) : Wd xs (moreW w u) ∧ V xs (moreU w u) ≤ 1 ∧ V4 xs (moreW w u) + 115792089237316195423570985008687907853269984665640564039457584007913129639936 * V xs (moreU w u) = V4 xs w + 38 * V xs u := by
  have hlo : V xs (op4 .low (op4 .prod u (nk 38)) (nk 0)) = V xs u * 38 % 18446744073709551616 := by rw [V_low, V_prod, V_nk]
  have hhi : V xs (op4 .high (op4 .prod u (nk 38)) (nk 0)) = V xs u * 38 / 18446744073709551616 % 18446744073709551616 := by rw [V_high, V_prod, V_nk]
  obtain ⟨e0, l0, k0⟩ := add_ok (xs := xs) (x := w.a) rfl hlo (V_nk (xs := xs) 0) hw.a (by omega) (by decide)
  obtain ⟨e1, l1, k1⟩ := add_ok (xs := xs) (x := w.b) (c := addH w.a (op4 .low (op4 .prod u (nk 38)) (nk 0)) (nk 0)) rfl hhi rfl hw.b (by omega) k0
  obtain ⟨e2, l2, k2⟩ := add_ok (xs := xs) (x := w.c) (c := addH w.b (op4 .high (op4 .prod u (nk 38)) (nk 0)) (addH w.a (op4 .low (op4 .prod u (nk 38)) (nk 0)) (nk 0))) rfl (V_nk (xs := xs) 0) rfl hw.c (by omega) k1
  obtain ⟨e3, l3, k3⟩ := add_ok (xs := xs) (x := w.d) (c := addH w.c (nk 0) (addH w.b (op4 .high (op4 .prod u (nk 38)) (nk 0)) (addH w.a (op4 .low (op4 .prod u (nk 38)) (nk 0)) (nk 0)))) rfl (V_nk (xs := xs) 0) rfl hw.d (by omega) k2
  refine ⟨⟨l0, l1, l2, l3⟩, k3, ?_⟩
  show V xs (addL w.a (op4 .low (op4 .prod u (nk 38)) (nk 0)) (nk 0)) + 18446744073709551616 * V xs (addL w.b (op4 .high (op4 .prod u (nk 38)) (nk 0)) (addH w.a (op4 .low (op4 .prod u (nk 38)) (nk 0)) (nk 0))) + 340282366920938463463374607431768211456 * V xs (addL w.c (nk 0) (addH w.b (op4 .high (op4 .prod u (nk 38)) (nk 0)) (addH w.a (op4 .low (op4 .prod u (nk 38)) (nk 0)) (nk 0)))) + 6277101735386680763835789423207666416102355444464034512896 * V xs (addL w.d (nk 0) (addH w.c (nk 0) (addH w.b (op4 .high (op4 .prod u (nk 38)) (nk 0)) (addH w.a (op4 .low (op4 .prod u (nk 38)) (nk 0)) (nk 0))))) + 115792089237316195423570985008687907853269984665640564039457584007913129639936 * V xs (addH w.d (nk 0) (addH w.c (nk 0) (addH w.b (op4 .high (op4 .prod u (nk 38)) (nk 0)) (addH w.a (op4 .low (op4 .prod u (nk 38)) (nk 0)) (nk 0))))) = V4 xs w + 38 * V xs u
  unfold V4
  omega
theorem more2_ok {w : W4} {u : Nx} (hw : Wd xs w) (hu : V xs u < 18446744073709551616) : Wd xs (moreW (moreW w u) (moreU w u)) ∧ ∃ q, V4 xs (moreW (moreW w u) (moreU w u)) + 115792089237316195423570985008687907853269984665640564039457584007913129639898 * q = V4 xs w + 38 * V xs u := by
  obtain ⟨h1, h2, h3⟩ := more_ok hw hu
  obtain ⟨h4, h5, h6⟩ := more_ok h1 (Nat.lt_of_le_of_lt h2 (by decide))
  have := hw.lt; have := h1.lt; have := h4.lt
  refine ⟨h4, V xs (moreU w u), ?_⟩
  have : V xs (moreU w u) = 0 ∨ V xs (moreU w u) = 1 := by omega
  rcases this with h | h <;> omega
theorem sub_ok {x y c : Nx} {a b d : Nat} (hx : V xs x = a) (hy : V xs y = b) (hc : V xs c = d) (h1 : a < 18446744073709551616) (h2 : b < 18446744073709551616) (h3 : d ≤ 1) :
    V xs (subL x y c) + b + d = a + 18446744073709551616 * V xs (subH x y c) ∧ V xs (subL x y c) < 18446744073709551616 ∧ V xs (subH x y c) ≤ 1 := by
  unfold subL subH
  rw [V_low, V_less, V_below, V_sum, hx, hy, hc]
  split <;> omega
theorem land_all (a : Nat) (h : a < 18446744073709551616) : a &&& 18446744073709551615 = a := by
  have := Nat.and_two_pow_sub_one_eq_mod a 64
  rw [Nat.mod_eq_of_lt (by omega)] at this
  exact this
theorem pick_ok {c t w : Nx} (hc : V xs c ≤ 1) (ht : V xs t < 18446744073709551616) (hw : V xs w < 18446744073709551616) : V xs (pickX c t w) = if V xs c = 0 then V xs t else V xs w := by
  unfold pickX
  rw [V_or, V_and, V_and, V_sub, V_sub, V_nk, V_nk, Nat.mod_eq_of_lt ht, Nat.mod_eq_of_lt hw]
  have : V xs c = 0 ∨ V xs c = 1 := by omega
  rcases this with h | h
  · rw [h, if_pos rfl]
    show ((V xs t &&& 18446744073709551615) % 18446744073709551616) ||| ((V xs w &&& 0) % 18446744073709551616) = V xs t
    rw [land_all _ ht, Nat.mod_eq_of_lt ht]; simp
  · rw [h, if_neg (by decide)]
    show ((V xs t &&& 0) % 18446744073709551616) ||| ((V xs w &&& 18446744073709551615) % 18446744073709551616) = V xs w
    rw [land_all _ hw, Nat.mod_eq_of_lt hw]; simp
def P25 : Nat := 57896044618658097711785492504343953926634992332820282019728792003956564819949
theorem less_ok {w : W4} (hw : Wd xs w) : Wd xs (lessX w) ∧ V4 xs (lessX w) = if V4 xs w < P25 then V4 xs w else V4 xs w - P25 := by
  obtain ⟨e0, l0, k0⟩ := sub_ok (xs := xs) (x := w.a) (c := nk 0) rfl (V_nk (xs := xs) p0) (V_nk 0) hw.a (by decide) (by decide)
  obtain ⟨e1, l1, k1⟩ := sub_ok (xs := xs) (x := w.b) (c := subH w.a (nk p0) (nk 0)) rfl (V_nk (xs := xs) p1) rfl hw.b (by decide) k0
  obtain ⟨e2, l2, k2⟩ := sub_ok (xs := xs) (x := w.c) (c := subH w.b (nk p1) (subH w.a (nk p0) (nk 0))) rfl (V_nk (xs := xs) p1) rfl hw.c (by decide) k1
  obtain ⟨e3, l3, k3⟩ := sub_ok (xs := xs) (x := w.d) (c := subH w.c (nk p1) (subH w.b (nk p1) (subH w.a (nk p0) (nk 0)))) rfl (V_nk (xs := xs) p3) rfl hw.d (by decide) k2
  have q0 := pick_ok k3 l0 hw.a
  have q1 := pick_ok k3 l1 hw.b
  have q2 := pick_ok k3 l2 hw.c
  have q3 := pick_ok k3 l3 hw.d
  have hz : V xs (nk 0) = 0 := rfl
  have ha := hw.a; have hb := hw.b; have hcc := hw.c; have hd := hw.d
  have e : lessX w = ⟨pickX (subH w.d (nk p3) (subH w.c (nk p1) (subH w.b (nk p1) (subH w.a (nk p0) (nk 0))))) (subL w.a (nk p0) (nk 0)) w.a, pickX (subH w.d (nk p3) (subH w.c (nk p1) (subH w.b (nk p1) (subH w.a (nk p0) (nk 0))))) (subL w.b (nk p1) (subH w.a (nk p0) (nk 0))) w.b, pickX (subH w.d (nk p3) (subH w.c (nk p1) (subH w.b (nk p1) (subH w.a (nk p0) (nk 0))))) (subL w.c (nk p1) (subH w.b (nk p1) (subH w.a (nk p0) (nk 0)))) w.c, pickX (subH w.d (nk p3) (subH w.c (nk p1) (subH w.b (nk p1) (subH w.a (nk p0) (nk 0))))) (subL w.d (nk p3) (subH w.c (nk p1) (subH w.b (nk p1) (subH w.a (nk p0) (nk 0))))) w.d⟩ := rfl
  rw [e]
  unfold V4 P25
  simp only [q0, q1, q2, q3]
  generalize V xs (subH w.d (nk p3) (subH w.c (nk p1) (subH w.b (nk p1) (subH w.a (nk p0) (nk 0))))) = c3 at *
  generalize V xs (subH w.c (nk p1) (subH w.b (nk p1) (subH w.a (nk p0) (nk 0)))) = c2 at *
  generalize V xs (subH w.b (nk p1) (subH w.a (nk p0) (nk 0))) = c1 at *
  generalize V xs (subH w.a (nk p0) (nk 0)) = c0 at *
  have v0 : p0 = 18446744073709551597 := rfl
  have v1 : p1 = 18446744073709551615 := rfl
  have v3 : p3 = 9223372036854775807 := rfl
  by_cases h : c3 = 0
  · refine ⟨⟨by rw [q0, if_pos h]; exact l0, by rw [q1, if_pos h]; exact l1, by rw [q2, if_pos h]; exact l2, by rw [q3, if_pos h]; exact l3⟩, ?_⟩
    simp only [if_pos h]
    split <;> omega
  · refine ⟨⟨by rw [q0, if_neg h]; exact ha, by rw [q1, if_neg h]; exact hb, by rw [q2, if_neg h]; exact hcc, by rw [q3, if_neg h]; exact hd⟩, ?_⟩
    simp only [if_neg h]
    split <;> omega
theorem canon_ok {w : W4} (hw : Wd xs w) : Wd xs (canonX w) ∧ V4 xs (canonX w) = V4 xs w % P25 := by
  obtain ⟨h1, h2⟩ := less_ok hw
  obtain ⟨h3, h4⟩ := less_ok h1
  refine ⟨h3, ?_⟩
  show V4 xs (lessX (lessX w)) = _
  have := hw.lt
  rw [h4, h2]
  unfold P25
  generalize V4 xs w = n at *
  by_cases h5 : n < 57896044618658097711785492504343953926634992332820282019728792003956564819949
  · rw [if_pos h5, if_pos h5]; omega
  · rw [if_neg h5]
    split <;> omega
theorem prod_ok {x y : W4} (hx : Wd xs x) (hy : Wd xs y) : Wd xs (prodX x y) ∧ V4 xs (prodX x y) % P25 = V4 xs x * V4 xs y % P25 := by
  have hz0 : V xs (nk 0) < 18446744073709551616 := by rw [V_nk]; decide
  have hz : Wd xs ⟨nk 0, nk 0, nk 0, nk 0⟩ := ⟨hz0, hz0, hz0, hz0⟩
  obtain ⟨a1, a2, a3⟩ := row_ok hx.a hy hz
  generalize ht0 : rowW x.a y ⟨nk 0, nk 0, nk 0, nk 0⟩ = t0 at *
  generalize hu0 : rowU x.a y ⟨nk 0, nk 0, nk 0, nk 0⟩ = u0 at *
  obtain ⟨b1, b2, b3⟩ := row_ok hx.b hy (t := ⟨t0.b, t0.c, t0.d, u0⟩) ⟨a1.b, a1.c, a1.d, a2⟩
  generalize ht1 : rowW x.b y ⟨t0.b, t0.c, t0.d, u0⟩ = t1 at *
  generalize hu1 : rowU x.b y ⟨t0.b, t0.c, t0.d, u0⟩ = u1 at *
  obtain ⟨c1, c2, c3⟩ := row_ok hx.c hy (t := ⟨t1.b, t1.c, t1.d, u1⟩) ⟨b1.b, b1.c, b1.d, b2⟩
  generalize ht2 : rowW x.c y ⟨t1.b, t1.c, t1.d, u1⟩ = t2 at *
  generalize hu2 : rowU x.c y ⟨t1.b, t1.c, t1.d, u1⟩ = u2 at *
  obtain ⟨d1, d2, d3⟩ := row_ok hx.d hy (t := ⟨t2.b, t2.c, t2.d, u2⟩) ⟨c1.b, c1.c, c1.d, c2⟩
  generalize ht3 : rowW x.d y ⟨t2.b, t2.c, t2.d, u2⟩ = t3 at *
  generalize hu3 : rowU x.d y ⟨t2.b, t2.c, t2.d, u2⟩ = u3 at *
  obtain ⟨e0, l0, k0⟩ := st_ok (xs := xs) (x := t3.b) (y := nk 38) (t := t0.a) (c := nk 0) rfl (V_nk 38) rfl (V_nk 0) d1.b (by decide) a1.a (by decide)
  obtain ⟨e1, l1, k1⟩ := st_ok (xs := xs) (x := t3.c) (y := nk 38) (t := t1.a) (c := stH t3.b (nk 38) t0.a (nk 0)) rfl (V_nk 38) rfl rfl d1.c (by decide) b1.a k0
  obtain ⟨e2, l2, k2⟩ := st_ok (xs := xs) (x := t3.d) (y := nk 38) (t := t2.a) (c := stH t3.c (nk 38) t1.a (stH t3.b (nk 38) t0.a (nk 0))) rfl (V_nk 38) rfl rfl d1.d (by decide) c1.a k1
  obtain ⟨e3, l3, k3⟩ := st_ok (xs := xs) (x := u3) (y := nk 38) (t := t3.a) (c := stH t3.d (nk 38) t2.a (stH t3.c (nk 38) t1.a (stH t3.b (nk 38) t0.a (nk 0)))) rfl (V_nk 38) rfl rfl d2 (by decide) d1.a k2
  have e : prodX x y = moreW (moreW ⟨stL t3.b (nk 38) t0.a (nk 0), stL t3.c (nk 38) t1.a (stH t3.b (nk 38) t0.a (nk 0)), stL t3.d (nk 38) t2.a (stH t3.c (nk 38) t1.a (stH t3.b (nk 38) t0.a (nk 0))), stL u3 (nk 38) t3.a (stH t3.d (nk 38) t2.a (stH t3.c (nk 38) t1.a (stH t3.b (nk 38) t0.a (nk 0))))⟩ (stH u3 (nk 38) t3.a (stH t3.d (nk 38) t2.a (stH t3.c (nk 38) t1.a (stH t3.b (nk 38) t0.a (nk 0)))))) (moreU ⟨stL t3.b (nk 38) t0.a (nk 0), stL t3.c (nk 38) t1.a (stH t3.b (nk 38) t0.a (nk 0)), stL t3.d (nk 38) t2.a (stH t3.c (nk 38) t1.a (stH t3.b (nk 38) t0.a (nk 0))), stL u3 (nk 38) t3.a (stH t3.d (nk 38) t2.a (stH t3.c (nk 38) t1.a (stH t3.b (nk 38) t0.a (nk 0))))⟩ (stH u3 (nk 38) t3.a (stH t3.d (nk 38) t2.a (stH t3.c (nk 38) t1.a (stH t3.b (nk 38) t0.a (nk 0)))))) := by
    subst ht0 hu0 ht1 hu1 ht2 hu2 ht3 hu3; rfl
  obtain ⟨f1, q, f2⟩ := more2_ok (xs := xs) (w := ⟨stL t3.b (nk 38) t0.a (nk 0), stL t3.c (nk 38) t1.a (stH t3.b (nk 38) t0.a (nk 0)), stL t3.d (nk 38) t2.a (stH t3.c (nk 38) t1.a (stH t3.b (nk 38) t0.a (nk 0))), stL u3 (nk 38) t3.a (stH t3.d (nk 38) t2.a (stH t3.c (nk 38) t1.a (stH t3.b (nk 38) t0.a (nk 0))))⟩) ⟨l0, l1, l2, l3⟩ k3
  rw [← e] at f1 f2
  refine ⟨f1, ?_⟩
  have hxy : V4 xs x * V4 xs y = V xs x.a * V4 xs y + 18446744073709551616 * (V xs x.b * V4 xs y) + 340282366920938463463374607431768211456 * (V xs x.c * V4 xs y) + 6277101735386680763835789423207666416102355444464034512896 * (V xs x.d * V4 xs y) := by
    show (V xs x.a + 18446744073709551616 * V xs x.b + 340282366920938463463374607431768211456 * V xs x.c + 6277101735386680763835789423207666416102355444464034512896 * V xs x.d) * V4 xs y = _
    rw [Nat.add_mul, Nat.add_mul, Nat.add_mul, Nat.mul_assoc, Nat.mul_assoc, Nat.mul_assoc]
  rw [hxy]
  generalize V xs x.a * V4 xs y = m0 at *
  generalize V xs x.b * V4 xs y = m1 at *
  generalize V xs x.c * V4 xs y = m2 at *
  generalize V xs x.d * V4 xs y = m3 at *
  generalize V4 xs (prodX x y) = r at *
  clear e hxy ht0 hu0 ht1 hu1 ht2 hu2 ht3 hu3
  unfold V4 at a3 b3 c3 d3 f2
  dsimp only at a3 b3 c3 d3 f2
  generalize V xs (stH u3 (nk 38) t3.a (stH t3.d (nk 38) t2.a (stH t3.c (nk 38) t1.a (stH t3.b (nk 38) t0.a (nk 0))))) = v3 at *
  generalize V xs (stL u3 (nk 38) t3.a (stH t3.d (nk 38) t2.a (stH t3.c (nk 38) t1.a (stH t3.b (nk 38) t0.a (nk 0))))) = s3 at *
  generalize V xs (stH t3.d (nk 38) t2.a (stH t3.c (nk 38) t1.a (stH t3.b (nk 38) t0.a (nk 0)))) = v2 at *
  generalize V xs (stL t3.d (nk 38) t2.a (stH t3.c (nk 38) t1.a (stH t3.b (nk 38) t0.a (nk 0)))) = s2 at *
  generalize V xs (stH t3.c (nk 38) t1.a (stH t3.b (nk 38) t0.a (nk 0))) = v1 at *
  generalize V xs (stL t3.c (nk 38) t1.a (stH t3.b (nk 38) t0.a (nk 0))) = s1 at *
  generalize V xs (stH t3.b (nk 38) t0.a (nk 0)) = v0 at *
  generalize V xs (stL t3.b (nk 38) t0.a (nk 0)) = s0 at *
  have hz1 : V xs (nk 0) = 0 := V_nk 0
  have hH : ∃ H, H = V xs t3.b + 18446744073709551616 * V xs t3.c + 340282366920938463463374607431768211456 * V xs t3.d + 6277101735386680763835789423207666416102355444464034512896 * V xs u3 := ⟨_, rfl⟩
  obtain ⟨H, hH⟩ := hH
  have hA : m0 + 18446744073709551616 * m1 + 340282366920938463463374607431768211456 * m2 + 6277101735386680763835789423207666416102355444464034512896 * m3 = V xs t0.a + 18446744073709551616 * V xs t1.a + 340282366920938463463374607431768211456 * V xs t2.a + 6277101735386680763835789423207666416102355444464034512896 * V xs t3.a + 115792089237316195423570985008687907853269984665640564039457584007913129639936 * H := by omega
  have hB : s0 + 18446744073709551616 * s1 + 340282366920938463463374607431768211456 * s2 + 6277101735386680763835789423207666416102355444464034512896 * s3 + 115792089237316195423570985008687907853269984665640564039457584007913129639936 * v3 = 38 * H + (V xs t0.a + 18446744073709551616 * V xs t1.a + 340282366920938463463374607431768211456 * V xs t2.a + 6277101735386680763835789423207666416102355444464034512896 * V xs t3.a) := by
    clear a3 b3 c3 d3 hA f2
    omega
  have hT : ∃ H', r + 115792089237316195423570985008687907853269984665640564039457584007913129639898 * q + 115792089237316195423570985008687907853269984665640564039457584007913129639898 * H' = m0 + 18446744073709551616 * m1 + 340282366920938463463374607431768211456 * m2 + 6277101735386680763835789423207666416102355444464034512896 * m3 := ⟨H + v3, by
    clear a3 b3 c3 d3 e0 e1 e2 e3 hH
    omega⟩
  clear hA hB hH
  obtain ⟨H, hT⟩ := hT
  rw [← hT]
  unfold P25
  omega
end
end Go.Proofs.YtpklnjegimchoaaGreatDoor
namespace Go.Proofs.YtpklnjegimchoaaGreatDoor
open Go Go.X Go.Z
set_option maxRecDepth 1000000
section
variable {xs : Nat → Nat}
theorem sum_ok {x y : W4} (hx : Wd xs x) (hy : Wd xs y) : Wd xs (sumX x y) ∧ V4 xs (sumX x y) % P25 = (V4 xs x + V4 xs y) % P25 := by
  obtain ⟨e0, l0, k0⟩ := add_ok (xs := xs) (x := x.a) (y := y.a) rfl rfl (V_nk (xs := xs) 0) hx.a hy.a (by decide)
  obtain ⟨e1, l1, k1⟩ := add_ok (xs := xs) (x := x.b) (y := y.b) (c := addH x.a y.a (nk 0)) rfl rfl rfl hx.b hy.b k0
  obtain ⟨e2, l2, k2⟩ := add_ok (xs := xs) (x := x.c) (y := y.c) (c := addH x.b y.b (addH x.a y.a (nk 0))) rfl rfl rfl hx.c hy.c k1
  obtain ⟨e3, l3, k3⟩ := add_ok (xs := xs) (x := x.d) (y := y.d) (c := addH x.c y.c (addH x.b y.b (addH x.a y.a (nk 0)))) rfl rfl rfl hx.d hy.d k2
  obtain ⟨f1, q, f2⟩ := more2_ok (xs := xs) (w := ⟨addL x.a y.a (nk 0), addL x.b y.b (addH x.a y.a (nk 0)), addL x.c y.c (addH x.b y.b (addH x.a y.a (nk 0))), addL x.d y.d (addH x.c y.c (addH x.b y.b (addH x.a y.a (nk 0))))⟩) ⟨l0, l1, l2, l3⟩ (Nat.lt_of_le_of_lt k3 (by decide))
  refine ⟨f1, ?_⟩
  have e : sumX x y = moreW (moreW ⟨addL x.a y.a (nk 0), addL x.b y.b (addH x.a y.a (nk 0)), addL x.c y.c (addH x.b y.b (addH x.a y.a (nk 0))), addL x.d y.d (addH x.c y.c (addH x.b y.b (addH x.a y.a (nk 0))))⟩ (addH x.d y.d (addH x.c y.c (addH x.b y.b (addH x.a y.a (nk 0)))))) (moreU ⟨addL x.a y.a (nk 0), addL x.b y.b (addH x.a y.a (nk 0)), addL x.c y.c (addH x.b y.b (addH x.a y.a (nk 0))), addL x.d y.d (addH x.c y.c (addH x.b y.b (addH x.a y.a (nk 0))))⟩ (addH x.d y.d (addH x.c y.c (addH x.b y.b (addH x.a y.a (nk 0)))))) := rfl
  rw [← e] at f2
  generalize V4 xs (sumX x y) = r at *
  clear e f1
  unfold V4 at *
  dsimp only at f2
  have hT : ∃ H, r + 115792089237316195423570985008687907853269984665640564039457584007913129639898 * H = (V xs x.a + 18446744073709551616 * V xs x.b + 340282366920938463463374607431768211456 * V xs x.c + 6277101735386680763835789423207666416102355444464034512896 * V xs x.d) + (V xs y.a + 18446744073709551616 * V xs y.b + 340282366920938463463374607431768211456 * V xs y.c + 6277101735386680763835789423207666416102355444464034512896 * V xs y.d) := ⟨q + V xs (addH x.d y.d (addH x.c y.c (addH x.b y.b (addH x.a y.a (nk 0))))), by omega⟩
  obtain ⟨H, hT⟩ := hT
  rw [← hT]
  unfold P25
  omega
theorem minus_ok {y : W4} (hy : Wd xs y) (hlt : V4 xs y < P25) : Wd xs (minusX y) ∧ V4 xs (minusX y) = P25 - V4 xs y := by
  obtain ⟨e0, l0, k0⟩ := sub_ok (xs := xs) (x := nk p0) (y := y.a) (c := nk 0) (V_nk p0) rfl (V_nk 0) (by decide) hy.a (by decide)
  obtain ⟨e1, l1, k1⟩ := sub_ok (xs := xs) (x := nk p1) (y := y.b) (c := subH (nk p0) y.a (nk 0)) (V_nk p1) rfl rfl (by decide) hy.b k0
  obtain ⟨e2, l2, k2⟩ := sub_ok (xs := xs) (x := nk p1) (y := y.c) (c := subH (nk p1) y.b (subH (nk p0) y.a (nk 0))) (V_nk p1) rfl rfl (by decide) hy.c k1
  obtain ⟨e3, l3, k3⟩ := sub_ok (xs := xs) (x := nk p3) (y := y.d) (c := subH (nk p1) y.c (subH (nk p1) y.b (subH (nk p0) y.a (nk 0)))) (V_nk p3) rfl rfl (by decide) hy.d k2
  refine ⟨⟨l0, l1, l2, l3⟩, ?_⟩
  show V xs (subL (nk p0) y.a (nk 0)) + 18446744073709551616 * V xs (subL (nk p1) y.b (subH (nk p0) y.a (nk 0))) + 340282366920938463463374607431768211456 * V xs (subL (nk p1) y.c (subH (nk p1) y.b (subH (nk p0) y.a (nk 0)))) + 6277101735386680763835789423207666416102355444464034512896 * V xs (subL (nk p3) y.d (subH (nk p1) y.c (subH (nk p1) y.b (subH (nk p0) y.a (nk 0))))) = _
  have v0 : p0 = 18446744073709551597 := rfl
  have v1 : p1 = 18446744073709551615 := rfl
  have v3 : p3 = 9223372036854775807 := rfl
  unfold V4 P25 at *
  omega
theorem or_add (x b k : Nat) (hx : x < 2 ^ k) : x ||| (b * 2 ^ k) = x + b * 2 ^ k := by
  have := Nat.two_pow_add_eq_or_of_lt hx b
  rw [Nat.or_comm, Nat.mul_comm b, ← this, Nat.add_comm]
theorem V_shl (x : Nx) (j : Nat) (hj : j ≤ 64) : V xs (op4 .shl x (nk j)) = V xs x * 2 ^ j % 18446744073709551616 := by
  show Nat.mod (Nat.mul (V xs x) (Nat.pow 2 (bif Nat.ble j 64 then j else 64))) 18446744073709551616 = _
  have : Nat.ble j 64 = true := Nat.ble_eq_true_of_le hj
  rw [this]; rfl
theorem or_step {a x : Nx} {p b : Nat} (j : Nat) (hj : j ≤ 56) (ha : V xs a = p) (hp : p < 2 ^ j) (hx : V xs x = b) (hb : b < 256) : V xs (op4 .or a (op4 .shl x (nk j))) = p + b * 2 ^ j := by
  have h1 : (2 : Nat) ^ j ≤ 2 ^ 56 := Nat.pow_le_pow_right (by decide) hj
  have h2 : b * 2 ^ j ≤ 255 * 2 ^ 56 := Nat.mul_le_mul (by omega) h1
  rw [V_or, V_shl x j (by omega), ha, hx, Nat.mod_mod, Nat.mod_eq_of_lt (show p < 18446744073709551616 by omega), Nat.mod_eq_of_lt (show b * 2 ^ j < 18446744073709551616 by omega), or_add p b j hp]
theorem V_by (o : Nat) : V xs (byN o) = xs o := rfl
theorem word_ok (hb : ∀ i, xs i < 256) (o : Nat) : V xs (wordX o) = xs o + xs (o + 1) * 256 + xs (o + 2) * 65536 + xs (o + 3) * 16777216 + xs (o + 4) * 4294967296 + xs (o + 5) * 1099511627776 + xs (o + 6) * 281474976710656 + xs (o + 7) * 72057594037927936 := by
  have h0 := hb o; have h1 := hb (o + 1); have h2 := hb (o + 2); have h3 := hb (o + 3); have h4 := hb (o + 4); have h5 := hb (o + 5); have h6 := hb (o + 6); have h7 := hb (o + 7)
  have s1 := or_step (xs := xs) (a := byN o) (x := byN (o + 1)) 8 (by decide) (V_by o) (show xs o < 2 ^ 8 by omega) (V_by _) h1
  have s2 := or_step (xs := xs) (x := byN (o + 2)) 16 (by decide) s1 (by omega) (V_by _) h2
  have s3 := or_step (xs := xs) (x := byN (o + 3)) 24 (by decide) s2 (by omega) (V_by _) h3
  have s4 := or_step (xs := xs) (x := byN (o + 4)) 32 (by decide) s3 (by omega) (V_by _) h4
  have s5 := or_step (xs := xs) (x := byN (o + 5)) 40 (by decide) s4 (by omega) (V_by _) h5
  have s6 := or_step (xs := xs) (x := byN (o + 6)) 48 (by decide) s5 (by omega) (V_by _) h6
  exact or_step (xs := xs) (x := byN (o + 7)) 56 (by decide) s6 (by omega) (V_by _) h7
end
theorem dig_at (n o j : Nat) : dig 8 n (o + j) = (n >>> (8 * o)) / 2 ^ (8 * j) % 256 := by
  show n >>> (8 * (o + j)) % 2 ^ 8 = _
  rw [Nat.mul_add, Nat.shiftRight_add, Nat.shiftRight_eq_div_pow (n >>> (8 * o))]
theorem dig_lt (n i : Nat) : dig 8 n i < 256 := Nat.mod_lt _ (by decide)
theorem word_dig (n o : Nat) : V (dig 8 n) (wordX o) = (n >>> (8 * o)) % 18446744073709551616 := by
  rw [word_ok (dig_lt n)]
  have h0 := dig_at n o 0
  rw [Nat.add_zero] at h0
  rw [h0, dig_at n o 1, dig_at n o 2, dig_at n o 3, dig_at n o 4, dig_at n o 5, dig_at n o 6, dig_at n o 7]
  generalize n >>> (8 * o) = y
  omega
theorem word_dig8 (n o j : Nat) : V (dig 8 n) (wordX (o + 8 * j)) = (n >>> (8 * o)) / 2 ^ (64 * j) % 18446744073709551616 := by
  rw [word_dig, Nat.mul_add, Nat.shiftRight_add, Nat.shiftRight_eq_div_pow (n >>> (8 * o)), ← Nat.mul_assoc]
theorem load_ok (n o : Nat) : Wd (dig 8 n) (loadX o) ∧ V4 (dig 8 n) (loadX o) = (n >>> (8 * o)) % 115792089237316195423570985008687907853269984665640564039457584007913129639936 := by
  have h0 := word_dig n o
  have h1 := word_dig8 n o 1
  have h2 := word_dig8 n o 2
  have h3 := word_dig8 n o 3
  have l : ∀ a : Nat, a % 18446744073709551616 < 18446744073709551616 := fun a => Nat.mod_lt _ (by decide)
  refine ⟨⟨?_, ?_, ?_, ?_⟩, ?_⟩
  · show V (dig 8 n) (wordX o) < _; rw [h0]; exact l _
  · show V (dig 8 n) (wordX (o + 8 * 1)) < _; rw [h1]; exact l _
  · show V (dig 8 n) (wordX (o + 8 * 2)) < _; rw [h2]; exact l _
  · show V (dig 8 n) (wordX (o + 8 * 3)) < _; rw [h3]; exact l _
  · show V (dig 8 n) (wordX o) + 18446744073709551616 * V (dig 8 n) (wordX (o + 8 * 1)) + 340282366920938463463374607431768211456 * V (dig 8 n) (wordX (o + 8 * 2)) + 6277101735386680763835789423207666416102355444464034512896 * V (dig 8 n) (wordX (o + 8 * 3)) = _
    rw [h0, h1, h2, h3]
    generalize n >>> (8 * o) = y
    omega
def digB : Nat → Nat → List Nat
  | 0, _ => []
  | n + 1, r => r % 256 :: digB n (r / 256)
theorem digB_word (n a r : Nat) (ha : a < 18446744073709551616) : digB (n + 8) (a + 18446744073709551616 * r) = a % 256 :: a / 256 % 256 :: a / 65536 % 256 :: a / 16777216 % 256 :: a / 4294967296 % 256 :: a / 1099511627776 % 256 :: a / 281474976710656 % 256 :: a / 72057594037927936 % 256 :: digB n r := by
  simp only [digB]
  rw [show (a + 18446744073709551616 * r) / 256 / 256 / 256 / 256 / 256 / 256 / 256 / 256 = r by omega, show (a + 18446744073709551616 * r) % 256 = a % 256 by omega, show (a + 18446744073709551616 * r) / 256 % 256 = a / 256 % 256 by omega, show (a + 18446744073709551616 * r) / 256 / 256 % 256 = a / 65536 % 256 by omega, show (a + 18446744073709551616 * r) / 256 / 256 / 256 % 256 = a / 16777216 % 256 by omega, show (a + 18446744073709551616 * r) / 256 / 256 / 256 / 256 % 256 = a / 4294967296 % 256 by omega, show (a + 18446744073709551616 * r) / 256 / 256 / 256 / 256 / 256 % 256 = a / 1099511627776 % 256 by omega, show (a + 18446744073709551616 * r) / 256 / 256 / 256 / 256 / 256 / 256 % 256 = a / 281474976710656 % 256 by omega, show (a + 18446744073709551616 * r) / 256 / 256 / 256 / 256 / 256 / 256 / 256 % 256 = a / 72057594037927936 % 256 by omega]
theorem byt8_map (xs : Nat → Nat) (w : Nx) (r : List Nx) : (byt8 w r).map (nxN xs) = V xs w % 256 :: V xs w / 256 % 256 :: V xs w / 65536 % 256 :: V xs w / 16777216 % 256 :: V xs w / 4294967296 % 256 :: V xs w / 1099511627776 % 256 :: V xs w / 281474976710656 % 256 :: V xs w / 72057594037927936 % 256 :: r.map (nxN xs) := by
  have h0 : nxN xs (bytX w 0) = V xs w % 256 := by
    show V xs w / 1 % 256 = _
    rw [Nat.div_one]
  show [nxN xs (bytX w 0), nxN xs (bytX w 1), nxN xs (bytX w 2), nxN xs (bytX w 3), nxN xs (bytX w 4), nxN xs (bytX w 5), nxN xs (bytX w 6), nxN xs (bytX w 7)] ++ r.map (nxN xs) = _
  rw [h0]; rfl
theorem store_ok {xs : Nat → Nat} {w : W4} (h : Wd xs w) : (storeX w).map (nxN xs) = digB 32 (V4 xs w) := by
  unfold storeX
  rw [byt8_map, byt8_map, byt8_map, byt8_map]
  have e : V4 xs w = V xs w.a + 18446744073709551616 * (V xs w.b + 18446744073709551616 * (V xs w.c + 18446744073709551616 * (V xs w.d + 18446744073709551616 * 0))) := by unfold V4; omega
  rw [e, digB_word 24 _ _ h.a, digB_word 16 _ _ h.b, digB_word 8 _ _ h.c, digB_word 0 _ _ h.d]
  rfl
def B56 : Nat := 115792089237316195423570985008687907853269984665640564039457584007913129639936
theorem numI_digB : ∀ (n r : Nat), numI 8 n r = (digB n r).map Int.ofNat
  | 0, _ => rfl
  | n + 1, r => by
    show Int.ofNat (r % 256) :: numI 8 n (r >>> 8) = Int.ofNat (r % 256) :: (digB n (r / 256)).map Int.ofNat
    rw [numI_digB n (r >>> 8), Nat.shiftRight_eq_div_pow]
noncomputable def fst32 (cs : Cs) : Option Nat := match cs with
  | [.num .u8 8 32 x] => some (Nat.mod x B56)
  | cs => match intsOf .u8 cs with
    | some l => bif Nat.beq (lenN l) 32 then packN 256 l else none
    | none => none
noncomputable def argsN : List SV → Option Nat
  | [.e (.agg a), .e (.agg b)] => match fst32 a, fst32 b with
    | some x, some y => some (Nat.add x (Nat.mul B56 y))
    | _, _ => none
  | [.e (.agg a)] => fst32 a
  | _ => none
def onesN : List Nat → Cs
  | [] => []
  | x :: r => .one (.int .u8 (.k (.ofNat x))) :: onesN r
theorem outN_eq (xs : Nat → Nat) : ∀ (m : List Nx), outN .u8 xs m = onesN (m.map (nxN xs))
  | [] => rfl
  | e :: m => by
    have h : outN .u8 xs (e :: m) = nF (nxN xs e) fun v => .one (.int .u8 (.k (.ofNat v))) :: outN .u8 xs m := rfl
    rw [h, nF_eq, outN_eq xs m]; rfl
noncomputable def pFld (sh : List (Option Nat)) (op : Nat → Nat → Nat) (args : List SV) (g : G) : Option (SV × G) :=
  match argsN args with
  | some N => bif Nat.beq (lenA sh) (Nat.mul 32 (lenN args)) && glOk g.H [(2, prP)] then nF (op (Nat.mod N B56) (Nat.mod (Nat.shiftRight N 256) B56)) fun r => some (.e (.agg [.num .u8 8 32 r]), g) else none
  | none => none
theorem packN_num (m : Nat) : ∀ (n x : Nat), x < 256 ^ n → packN 256 (numI 8 n x) = some x
  | 0, x, h => by
    have : x = 0 := by simpa using h
    subst this; rfl
  | n + 1, x, h => by
    have e : numI 8 (n + 1) x = Int.ofNat (x % 256) :: numI 8 n (x >>> 8) := rfl
    have hx : x >>> 8 < 256 ^ n := by
      rw [Nat.shiftRight_eq_div_pow]
      exact Nat.div_lt_of_lt_mul (by rw [Nat.pow_succ, Nat.mul_comm] at h; exact h)
    have hb : Nat.blt (x % 256) 256 = true := blt_iff.2 (Nat.mod_lt _ (by decide))
    rw [e]
    simp only [packN, hb, cond_true, packN_num m n _ hx]
    congr 1
    show x % 256 + 256 * (x >>> 8) = x
    rw [Nat.shiftRight_eq_div_pow]
    exact Nat.mod_add_div x 256
theorem packN_append : ∀ {a b : List Int} {x y : Nat}, packN 256 a = some x → packN 256 b = some y → packN 256 (a ++ b) = some (x + 256 ^ a.length * y)
  | [], b, x, y, ha, hb => by cases ha; simpa using hb
  | .ofNat d :: r, b, x, y, ha, hb => by
    simp only [packN] at ha
    cases hd : Nat.blt d 256 with
    | false => rw [hd, cond_false] at ha; cases ha
    | true =>
      rw [hd, cond_true] at ha
      split at ha
      · next n hn =>
        cases ha
        simp only [List.cons_append, packN, hd, cond_true, packN_append hn hb]
        congr 1
        show d + 256 * (n + 256 ^ r.length * y) = d + 256 * n + 256 ^ (r.length + 1) * y
        rw [Nat.pow_succ, Nat.mul_add, Nat.mul_comm (256 ^ r.length) 256, Nat.mul_assoc]; omega
      · cases ha
  | .negSucc _ :: _, b, x, y, ha, hb => by simp [packN] at ha
theorem fst32_ok {cs : Cs} {x : Nat} (h : fst32 cs = some x) : ∃ l, intsOf .u8 cs = some l ∧ l.length = 32 ∧ packN 256 l = some x := by
  unfold fst32 at h
  split at h
  · next y =>
    cases h
    refine ⟨numI 8 32 y, ?_, numI_length _ _ _, ?_⟩
    · show some (numI 8 32 y ++ []) = _
      rw [List.append_nil]
    · have e : numI 8 32 y = numI 8 32 (Nat.mod y B56) := by
        have : ∀ n z, numI 8 n z = numI 8 n (z % 256 ^ n) := by
          intro n
          induction n with
          | zero => intro z; rfl
          | succ n ih =>
            intro z
            show Int.ofNat (z % 256) :: numI 8 n (z >>> 8) = Int.ofNat (z % 256 ^ (n + 1) % 256) :: numI 8 n ((z % 256 ^ (n + 1)) >>> 8)
            have h1 : z % 256 ^ (n + 1) % 256 = z % 256 := Nat.mod_mod_of_dvd _ (by rw [Nat.pow_succ]; exact Nat.dvd_mul_left _ _)
            rw [h1, ih (z >>> 8), ih ((z % 256 ^ (n + 1)) >>> 8)]
            have h2 : (z % 256 ^ (n + 1)) >>> 8 = (z >>> 8) % 256 ^ n := by
              rw [Nat.shiftRight_eq_div_pow, Nat.shiftRight_eq_div_pow, Nat.pow_succ, Nat.mul_comm, Nat.mod_mul_right_div_self]
            rw [h2, Nat.mod_mod]
        exact this 32 y
      rw [e]
      exact packN_num 0 32 _ (Nat.mod_lt _ (by decide))
  · split at h
    · next l hl =>
      cases hb : Nat.beq (lenN l) 32 with
      | false => rw [hb, cond_false] at h; cases h
      | true =>
        rw [hb, cond_true] at h
        have := Nat.eq_of_beq_eq_true hb
        rw [lenN_eq] at this
        exact ⟨l, hl, this, h⟩
    · cases h
def shF : List (Option Nat) → Bool
  | [some 32] => true
  | [some 32, some 32] => true
  | _ => false
theorem argsN_ok {sh : List (Option Nat)} {args : List SV} {N : Nat} (hs : shF sh = true) (h : argsN args = some N) (hl : Nat.beq (lenA sh) (Nat.mul 32 (lenN args)) = true) : ∃ l, conA .u8 sh args = some l ∧ packN 256 l = some N := by
  have hl := Nat.eq_of_beq_eq_true hl
  unfold argsN at h
  split at h
  · next a b =>
    split at h
    · next x y hx hy =>
      cases h
      obtain ⟨la, h1, h2, h3⟩ := fst32_ok hx
      obtain ⟨lb, h4, h5, h6⟩ := fst32_ok hy
      unfold shF at hs
      split at hs
      · cases hl
      · refine ⟨la ++ (lb ++ []), ?_, ?_⟩
        · have e1 : Nat.beq (lenN la) 32 = true := by rw [lenN_eq, h2]; rfl
          have e2 : Nat.beq (lenN lb) 32 = true := by rw [lenN_eq, h5]; rfl
          simp only [conA, h1, h4, e1, e2, cond_true]
        · rw [List.append_nil, packN_append h3 h6, h2]; rfl
      · cases hs
    · cases h
  · next a =>
    obtain ⟨la, h1, h2, h3⟩ := fst32_ok h
    unfold shF at hs
    split at hs
    · refine ⟨la ++ [], ?_, by rw [List.append_nil]; exact h3⟩
      have e1 : Nat.beq (lenN la) 32 = true := by rw [lenN_eq, h2]; rfl
      simp only [conA, h1, e1, cond_true]
    · cases hl
    · cases hs
  · cases h
theorem onesN_ev (ρ : Env) : ∀ l : List Nat, Cs.ev ρ (onesN l) = some (l.map fun x => .int .u8 (x : Int))
  | [] => rfl
  | x :: r => by simp only [onesN, Cs.ev, Seg.ev, SC.ev, Lin.ev, Option.map_some, onesN_ev ρ r, List.map_cons]; rfl
theorem pFld_ok {I : In} {w0 : World} {f : Nat} {sh : List (Option Nat)} {op : Nat → Nat → Nat} {w : W4} (hs : shF sh = true) (hm : res2 f sh = some (storeX w)) (hw : ∀ n, Wd (dig 8 n) w ∧ V4 (dig 8 n) w = op (n % B56) (n >>> 256 % B56)) : PrimOk Tryz.prog I w0 f (pFld sh op) := by
  intro args g r g' h ρ vs w1 hvs hg
  unfold pFld at h
  split at h
  · next N hN =>
    cases hb : (Nat.beq (lenA sh) (Nat.mul 32 (lenN args)) && glOk g.H [(2, prP)]) with
    | false => rw [hb, cond_false] at h; cases h
    | true =>
      rw [hb, cond_true, nF_eq] at h
      cases h
      simp only [Bool.and_eq_true] at hb
      obtain ⟨l, h1, h2⟩ := argsN_ok hs hN hb.1
      obtain ⟨h3, h4⟩ := hw N
      have hp : pNx .u8 sh [(2, prP)] .u8 (resC Tryz.prog cfC 3000 f .u8 sh [(2, prP)] .u8) args g = some (.e (.agg (onesN (digB 32 (op (Nat.mod N B56) (Nat.mod (Nat.shiftRight N 256) B56))))), g) := by
        have hm' : resC Tryz.prog cfC 3000 f .u8 sh [(2, prP)] .u8 = some (storeX w) := hm
        have e2 : Nat.pow 2 (bK .u8) = 256 := rfl
        have hcl : glCl [(2, prP)] = true := rfl
        unfold pNx
        rw [hm', e2, h1]
        simp only [h2, hb.2, hcl, Bool.true_and, cond_true, nF_eq]
        rw [outN_eq, show dig (bK .u8) N = dig 8 N from rfl, store_ok h3, h4]
        rfl
      have hev : ∀ x ρ' v, (SV.e (.agg (onesN (digB 32 x)))).ev ρ' = some v → (SV.e (.agg [.num .u8 8 32 x])).ev ρ' = some v := fun x ρ' v hv => by
        simp only [SV.ev, EV.ev, onesN_ev, Option.map_some] at hv
        simp only [SV.ev, EV.ev, Cs.ev, Seg.ev, numI_digB, Option.map_some, List.map_map, List.append_nil]
        exact hv
      rcases pNx_ok (cfC_ok I) (fuel := 3000) (sh := sh) (gl := [(2, prP)]) (k := .u8) (k' := .u8) args g _ _ hp ρ vs w1 hvs hg with ⟨h5, h6⟩ | ⟨v, h5, h6, h7⟩
      · refine .inl ⟨h5, Calls.mono h6 ?_⟩
        rintro e w' ⟨ρ', v, hle, he, hv, hg'⟩
        exact ⟨ρ', v, hle, he, hev _ _ _ hv, hg'⟩
      · exact .inr ⟨v, h5, hev _ _ _ h6, h7⟩
  · cases h
theorem two_ok (n : Nat) : Wd (dig 8 n) (loadX 0) ∧ V4 (dig 8 n) (loadX 0) = n % B56 := by
  have := load_ok n 0
  rwa [Nat.mul_zero, Nat.shiftRight_zero] at this
theorem two_ok' (n : Nat) : Wd (dig 8 n) (loadX 32) ∧ V4 (dig 8 n) (loadX 32) = n >>> 256 % B56 := load_ok n 32
variable {I : In} {w0 : World}
theorem fldMul : PrimOk Tryz.prog I w0 90 (pFld [some 32, some 32] fun a b => Nat.mod (Nat.mul a b) P25) := pFld_ok rfl treeMul fun n => by
  obtain ⟨h1, h2⟩ := prod_ok (two_ok n).1 (two_ok' n).1
  obtain ⟨h3, h4⟩ := canon_ok h1
  exact ⟨h3, by rw [h4, h2, (two_ok n).2, (two_ok' n).2]; rfl⟩
theorem fldSq : PrimOk Tryz.prog I w0 91 (pFld [some 32] fun a _ => Nat.mod (Nat.mul a a) P25) := pFld_ok rfl treeSq fun n => by
  obtain ⟨h1, h2⟩ := prod_ok (two_ok n).1 (two_ok n).1
  obtain ⟨h3, h4⟩ := canon_ok h1
  exact ⟨h3, by rw [h4, h2, (two_ok n).2]; rfl⟩
theorem fldAdd : PrimOk Tryz.prog I w0 88 (pFld [some 32, some 32] fun a b => Nat.mod (Nat.add a b) P25) := pFld_ok rfl treeAdd fun n => by
  obtain ⟨h1, h2⟩ := sum_ok (two_ok n).1 (two_ok' n).1
  obtain ⟨h3, h4⟩ := canon_ok h1
  exact ⟨h3, by rw [h4, h2, (two_ok n).2, (two_ok' n).2]; rfl⟩
theorem fldSub : PrimOk Tryz.prog I w0 89 (pFld [some 32, some 32] fun a b => Nat.mod (Nat.add a (Nat.sub P25 (Nat.mod b P25))) P25) := pFld_ok rfl treeSub fun n => by
  obtain ⟨g1, g2⟩ := canon_ok (two_ok' n).1
  obtain ⟨g3, g4⟩ := minus_ok g1 (by rw [g2]; exact Nat.mod_lt _ (by decide))
  obtain ⟨h1, h2⟩ := sum_ok (two_ok n).1 g3
  obtain ⟨h3, h4⟩ := canon_ok h1
  exact ⟨h3, by rw [h4, h2, g4, g2, (two_ok n).2, (two_ok' n).2]; rfl⟩
theorem fldCanon : PrimOk Tryz.prog I w0 273 (pFld [some 32] fun a _ => Nat.mod a P25) := pFld_ok rfl treeCanon fun n => by
  obtain ⟨h3, h4⟩ := canon_ok (two_ok n).1
  exact ⟨h3, by rw [h4, (two_ok n).2]; rfl⟩
def pickB (i : Nat) : Nx := .op .xor .u8 (byN (Nat.add 1 i)) (.op .and .u8 (.op .sub .u8 (nk 0) (.op .and .u8 (byN 0) (nk 1))) (.op .xor .u8 (byN (Nat.add 1 i)) (byN (Nat.add 33 i))))
def pickL : Nat → Nat → List Nx
  | 0, _ => []
  | n + 1, i => pickB i :: pickL n (Nat.succ i)
theorem treePick : resC Tryz.prog cfC 3000 156 .u8 [none, some 32, some 32] [] .u8 = some (pickL 32 0) := sameL_ok (by kernel_rfl)
noncomputable def pPick (args : List SV) (g : G) : Option (SV × G) :=
  match args with
  | [.e (.c (.int .u8 (.k b))), .e (.agg x), .e (.agg y)] => match fst32 x, fst32 y with
    | some _, some _ => bif ieq b 0 then some (.e (.agg x), g) else bif ieq b 1 then some (.e (.agg y), g) else none
    | _, _ => none
  | _ => none
theorem pickB_0 {xs : Nat → Nat} (h : xs 0 = 0) (hb : ∀ i, xs i < 256) (i : Nat) : nxN xs (pickB i) = xs (1 + i) := by
  show ((xs (1 + i) % 256) ^^^ (((((0 + (256 - ((xs 0 % 256) &&& (1 % 256)) % 256)) % 256) % 256) &&& (((xs (1 + i) % 256) ^^^ (xs (33 + i) % 256)) % 256)) % 256)) = _
  rw [h, Nat.mod_eq_of_lt (hb (1 + i))]
  simp
theorem pickB_1 {xs : Nat → Nat} (h : xs 0 = 1) (hb : ∀ i, xs i < 256) (i : Nat) : nxN xs (pickB i) = xs (33 + i) := by
  show ((xs (1 + i) % 256) ^^^ (((((0 + (256 - ((xs 0 % 256) &&& (1 % 256)) % 256)) % 256) % 256) &&& (((xs (1 + i) % 256) ^^^ (xs (33 + i) % 256)) % 256)) % 256)) = _
  rw [h, Nat.mod_eq_of_lt (hb (1 + i)), Nat.mod_eq_of_lt (hb (33 + i))]
  have h1 : xs (1 + i) ^^^ xs (33 + i) < 2 ^ 8 := Nat.xor_lt_two_pow (hb _) (hb _)
  have h2 := Nat.and_two_pow_sub_one_eq_mod (xs (1 + i) ^^^ xs (33 + i)) 8
  show xs (1 + i) ^^^ ((255 &&& ((xs (1 + i) ^^^ xs (33 + i)) % 256)) % 256) = _
  rw [Nat.mod_eq_of_lt h1, Nat.and_comm, show (255 : Nat) = 2 ^ 8 - 1 from rfl, h2, Nat.mod_eq_of_lt h1, Nat.mod_eq_of_lt h1, ← Nat.xor_assoc, Nat.xor_self, Nat.zero_xor]
theorem pickL_map (xs : Nat → Nat) (f : Nat → Nat) (h : ∀ i, nxN xs (pickB i) = f i) : ∀ n i, (pickL n i).map (nxN xs) = (List.range' i n).map f
  | 0, _ => rfl
  | n + 1, i => by simp only [pickL, List.map_cons, h, pickL_map xs f h n (i + 1), List.range'_succ]
theorem pick_row {N o : Nat} {l : List Int} (hl : l.length = 32) (h : ∀ i, i < 32 → l[i]? = some ((dig 8 N (o + i) : Nat) : Int)) : (List.range' 0 32).map (fun i => (Int.ofNat (dig 8 N (o + i)))) = l := by
  apply List.ext_getElem?
  intro i
  by_cases hi : i < 32
  · rw [h i hi]
    simp [hi]
  · rw [List.getElem?_eq_none (by simp; omega), List.getElem?_eq_none (by rw [hl]; omega)]
theorem fldPick {I : In} {w0 : World} : PrimOk Tryz.prog I w0 156 pPick := by
  intro args g r g' h ρ vs w1 hvs hg
  unfold pPick at h
  split at h
  · next b x y =>
    split at h
    · next X Y hX hY =>
      obtain ⟨lx, h1, h2, h3⟩ := fst32_ok hX
      obtain ⟨ly, h4, h5, h6⟩ := fst32_ok hY
      have hb : (b = 0 ∧ r = .e (.agg x) ∧ g' = g) ∨ (b = 1 ∧ r = .e (.agg y) ∧ g' = g) := by
        cases h0 : ieq b 0 with
        | true => rw [h0, cond_true] at h; cases h; exact .inl ⟨ieq_true h0, rfl, rfl⟩
        | false =>
          rw [h0, cond_false] at h
          cases h7 : ieq b 1 with
          | true => rw [h7, cond_true] at h; cases h; exact .inr ⟨ieq_true h7, rfl, rfl⟩
          | false => rw [h7, cond_false] at h; cases h
      have hbn : ∃ d : Nat, b = Int.ofNat d ∧ d < 2 := by
        rcases hb with ⟨rfl, _⟩ | ⟨rfl, _⟩
        · exact ⟨0, rfl, by decide⟩
        · exact ⟨1, rfl, by decide⟩
      obtain ⟨d, rfl, hd⟩ := hbn
      have hbl : Nat.blt d 256 = true := blt_iff.2 (by omega)
      have hp : packN 256 (Int.ofNat d :: (lx ++ (ly ++ []))) = some (Nat.add d (Nat.mul 256 (X + 256 ^ lx.length * Y))) := by
        rw [List.append_nil]
        simp only [packN, hbl, cond_true, packN_append h3 h6]
      have hc : conA .u8 [none, some 32, some 32] [.e (.c (.int .u8 (.k (Int.ofNat d)))), .e (.agg x), .e (.agg y)] = some (Int.ofNat d :: (lx ++ (ly ++ []))) := by
        have e1 : Nat.beq (lenN lx) 32 = true := by rw [lenN_eq, h2]; rfl
        have e2 : Nat.beq (lenN ly) 32 = true := by rw [lenN_eq, h5]; rfl
        have e3 : kq .u8 .u8 = true := rfl
        simp only [conA, h1, h4, e1, e2, e3, cond_true]
      generalize hN : Nat.add d (Nat.mul 256 (X + 256 ^ lx.length * Y)) = N at hp
      have hdig := packN_ok (w := 8) (n := N) hp
      have hd0 : dig 8 N 0 = d := by
        have := (hdig 0 (by simp)).1
        simp only [List.getElem?_cons_zero, Option.some.injEq] at this
        have e : (Int.ofNat d : Int) = (d : Int) := rfl
        omega
      have hdx : ∀ i, i < 32 → lx[i]? = some ((dig 8 N (1 + i) : Nat) : Int) := fun i hi => by
        have := (hdig (1 + i) (by simp [h2, h5]; omega)).1
        rw [Nat.add_comm 1 i, List.getElem?_cons_succ, List.getElem?_append_left (by omega)] at this
        rw [Nat.add_comm 1 i]; exact this
      have hdy : ∀ i, i < 32 → ly[i]? = some ((dig 8 N (33 + i) : Nat) : Int) := fun i hi => by
        have := (hdig (33 + i) (by simp [h2, h5]; omega)).1
        rw [show 33 + i = (32 + i) + 1 by omega, List.getElem?_cons_succ, List.getElem?_append_right (by omega), List.append_nil, h2, Nat.add_sub_cancel_left] at this
        rw [show 33 + i = (32 + i) + 1 by omega]; exact this
      have hpn : pNx .u8 [none, some 32, some 32] [] .u8 (resC Tryz.prog cfC 3000 156 .u8 [none, some 32, some 32] [] .u8) [.e (.c (.int .u8 (.k (Int.ofNat d)))), .e (.agg x), .e (.agg y)] g = some (.e (.agg (onesN ((pickL 32 0).map (nxN (dig 8 N))))), g) := by
        have e2 : Nat.pow 2 (bK .u8) = 256 := rfl
        have e3 : (glOk g.H [] && glCl []) = true := rfl
        unfold pNx
        rw [treePick, e2, hc]
        simp only [hp, e3, cond_true, nF_eq]
        rw [outN_eq]; rfl
      have hout : ∀ (o : Nat) (l : List Int) (z : Cs), l.length = 32 → intsOf .u8 z = some l → (∀ i, i < 32 → l[i]? = some ((dig 8 N (o + i) : Nat) : Int)) → (∀ i, nxN (dig 8 N) (pickB i) = dig 8 N (o + i)) → ∀ ρ' v, (SV.e (.agg (onesN ((pickL 32 0).map (nxN (dig 8 N)))))).ev ρ' = some v → (SV.e (.agg z)).ev ρ' = some v := fun o l z hl hz hli hpi ρ' v hv => by
        rw [pickL_map _ _ hpi] at hv
        simp only [SV.ev, EV.ev, onesN_ev, Option.map_some, List.map_map] at hv
        have hrow := pick_row hl hli
        have e : Cs.ev ρ' z = some (ints .u8 l) := intsOf_ok hz
        simp only [SV.ev, EV.ev, e, Option.map_some]
        rw [← hrow]
        unfold ints
        rw [List.map_map]
        exact hv
      have hgood : ∀ ρ' v, (SV.e (.agg (onesN ((pickL 32 0).map (nxN (dig 8 N)))))).ev ρ' = some v → r.ev ρ' = some v := by
        rcases hb with ⟨hb0, rfl, _⟩ | ⟨hb1, rfl, _⟩
        · have : d = 0 := by have e : (Int.ofNat d : Int) = (d : Int) := rfl; omega
          exact hout 1 lx x h2 h1 hdx (pickB_0 (by rw [hd0, this]) (dig_lt N))
        · have : d = 1 := by have e : (Int.ofNat d : Int) = (d : Int) := rfl; omega
          exact hout 33 ly y h5 h4 hdy (pickB_1 (by rw [hd0, this]) (dig_lt N))
      have hg' : g' = g := by rcases hb with ⟨_, _, e⟩ | ⟨_, _, e⟩ <;> exact e
      subst hg'
      rcases pNx_ok (cfC_ok I) (fuel := 3000) (sh := [none, some 32, some 32]) (gl := []) (k := .u8) (k' := .u8) _ _ _ _ hpn ρ vs w1 hvs hg with ⟨h7, h8⟩ | ⟨v, h7, h8, h9⟩
      · refine .inl ⟨h7, Calls.mono h8 ?_⟩
        rintro e w' ⟨ρ', v, hle, he, hv, hg2⟩
        exact ⟨ρ', v, hle, he, hgood _ _ hv, hg2⟩
      · exact .inr ⟨v, h7, hgood _ _ h8, h9⟩
    · cases h
  · cases h
end Go.Proofs.YtpklnjegimchoaaGreatDoor
namespace Go.Proofs.YtpklnjegimchoaaGreatDoor
open Go Go.X Go.Z
set_option maxRecDepth 1000000
noncomputable def primL : Nat → Option (List SV → G → Option (SV × G))
  | 88 => some (pFld [some 32, some 32] fun a b => Nat.mod (Nat.add a b) P25)
  | 89 => some (pFld [some 32, some 32] fun a b => Nat.mod (Nat.add a (Nat.sub P25 (Nat.mod b P25))) P25)
  | 90 => some (pFld [some 32, some 32] fun a b => Nat.mod (Nat.mul a b) P25)
  | 91 => some (pFld [some 32] fun a _ => Nat.mod (Nat.mul a a) P25)
  | 273 => some (pFld [some 32] fun a _ => Nat.mod a P25)
  | 156 => some pPick
  | 162 => some (fn2 162 .u64 [some 4, some 4] [] .u64)
  | 158 => some (fn2 158 .u64 [some 4] [(2, prP)] .u64)
  | 157 => some (fn2 157 .u64 [some 4] [] .u8)
  | 160 => some (fn2 160 .u8 [some 32] [] .u64)
  | _ => none
def useL : List Nat := [20, 49, 86, 87, 92, 198, 245]
noncomputable def cfL : Cf := { zt := [], keep := keepF, pl := plF, tmps := tmpF, use := fun f => memN f useL, prim := primL, dfr := fun _ _ => false, skip := fun _ _ => none, lpd := lpdF }
theorem useL_ok : allUse Tryz.prog cfL useL = true := by kernel_rfl
theorem primL_ok {I : In} {w : World} : ∀ f p, primL f = some p → PrimOk Tryz.prog I w f p := fun f p hp => by
  unfold primL at hp
  split at hp
  · cases hp; exact fldAdd
  · cases hp; exact fldSub
  · cases hp; exact fldMul
  · cases hp; exact fldSq
  · cases hp; exact fldCanon
  · cases hp; exact fldPick
  · cases hp; exact fn2_ok _ _ _ _ _
  · cases hp; exact fn2_ok _ _ _ _ _
  · cases hp; exact fn2_ok _ _ _ _ _
  · cases hp; exact fn2_ok _ _ _ _ _
  · cases hp
theorem cfL_ok (I : In) (w : World) : CfOk Tryz.prog I w cfL :=
  cfOk_of (fun p hp => by cases hp) mixed rfl useL_ok (fun f _ fn _ c _ b _ sk hs => by cases hs) primL_ok (fun f k hd => by cases hd)
end Go.Proofs.YtpklnjegimchoaaGreatDoor
