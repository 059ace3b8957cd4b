/-
  A copy into a part of a block; what a slice within a struct reads.
-/
import Derived.Test.YtmkjnefongjniaaX16
namespace Go.X
open Go
variable {dF : List Deferred}
variable {P : Program} {n : Nat} {w0 : World} {X : List Nat} {L : Slots} {F : List Blk} {o : Oper}
/-- Bytes laid over some of a block's. -/
theorem e_copyO {tD tS e : TypeId} {by_ : Nat} {x y : Operand} {kk : IntKind} {D B : Option Addr} {dl dc sl sc k : Nat} {d : Nat} (ha : slc P tD = some (e, 1, by_)) (i off : Nat) (xs ys : List Int) {ty : TypeId}
    (hR : ∀ w, Mem w0 X F w → Reads w B (ints kk ys)) (ho : o.op = .call { callee := .builtin .copy, args := #[x, y], argTypes := #[tD, tS] }) (hx : ev L x = some (.slice D dl dc)) (hy : ev L y = some (.slice B sl sc))
    (hi : F[i]? = some ⟨some k, ints kk xs, ty, (0, 0)⟩) (hD : D = some ⟨k, off, none⟩) (hsl : ys.length = sl) (hle : sl ≤ dl) (hfit : off + sl ≤ xs.length) (hd : o.dst = some d) (hn : Nat.blt d n = true) :
    Eff P dF n w0 X o L F fun L' F' => L' = (d, .int .i64 sl) :: L ∧ F' = F.set i ⟨some k, ints kk (xs.take off ++ ys ++ xs.drop (off + sl)), ty, (0, 0)⟩ := by
  have h := e_copy (dF := dF) (n := n) (w0 := w0) (X := X) (L := L) ha i k off (ints kk ys) (ints kk xs) hR ho hx hy hi (.inr hD) (by simp; omega) (by simp; omega) ints_one hd hn
  intro Q K hK
  refine h Q K fun L' F' hg => ?_
  obtain ⟨rfl, rfl⟩ := hg
  refine hK _ _ ⟨by rw [ints_length, hsl], ?_⟩
  rw [ints_drop, ints_take, ints_length, hsl, ints_append, ints_append]
end Go.X
