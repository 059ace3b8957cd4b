/-
  The statement, of whatever policy, bytes and choice: what its runs by length say together.
-/
import Derived.Test.YtpklnjegimchoaaGreatDoorRA
import Derived.Test.YtpklnjegimchoaaGreatDoorRC1
import Derived.Test.YtpklnjegimchoaaGreatDoorRC2
import Derived.Test.YtpklnjegimchoaaGreatDoorRC3
import Derived.Test.YtpklnjegimchoaaGreatDoorRC4
import Derived.Test.YtpklnjegimchoaaGreatDoorRC5
namespace Go.Proofs.YtpklnjegimchoaaGreatDoor
open Go Go.X Go.Z
theorem twice_law {w : World} (h : Base w) (p : Int) (hp0 : -9223372036854775808 ≤ p) (hp1 : p ≤ 9223372036854775807) (A : Option Addr) (xs : List Int) (c : Nat) (hb : Bytes xs) (hR : Reads w A (ints .u8 xs)) (hc : xs.length ≤ c) (hc1 : c ≤ 140737488355328) (hA : A = none → c = 0) (once : Bool) :
    Calls Tryz.prog 3 #[.int .i64 p, .slice A xs.length c, .bool once] w fun e w' => e = .returned (.bool true) ∧ Kept [] w w' := by
  by_cases h0 : xs.length = 0
  · have hx : xs = [] := List.eq_nil_of_length_eq_zero h0
    subst hx
    cases A with
    | none =>
      obtain rfl := hA rfl
      cases once with
      | true => exact run_none run0nt h hp0 hp1 (ad := ⟨0, 0, none⟩) (c := 0) (by decide) rfl
      | false => exact run_none run0nf h hp0 hp1 (ad := ⟨0, 0, none⟩) (c := 0) (by decide) rfl
    | some ad =>
      have hx : SV.ev (rhoS p ad [] c) sl0 = some (.slice (some ad) 0 c) := by
        have hb : (rhoS p ad [] c).b 12 = some ad := rfl
        have hi2 : (rhoS p ad [] c).i 2 = some ((c : Int) - (0 : Nat)) := rfl
        simp only [sl0, SV.ev, EV.ev, SC.ev, hb, Lin.ev, evTs, hi2, Option.map_some]
        rw [if_pos (by omega)]
        congr 2
        omega
      cases once with
      | true => exact run_none run0st h hp0 hp1 (by omega) hx
      | false => exact run_none run0sf h hp0 hp1 (by omega) hx
  · have key : ∀ {lo hi : Int} (_ : runC lo hi true = true) (_ : runC lo hi false = true) (_ : lo ≤ xs.length) (_ : (xs.length : Int) ≤ hi), Calls Tryz.prog 3 #[.int .i64 p, .slice A xs.length c, .bool once] w fun e w' => e = .returned (.bool true) ∧ Kept [] w w' := fun ht hf h1 h2 => by
      cases once with
      | true => exact run_some ht h hp0 hp1 hb hR hc (by omega) h1 h2 (by omega)
      | false => exact run_some hf h hp0 hp1 hb hR hc (by omega) h1 h2 (by omega)
    by_cases h1 : xs.length ≤ 63
    · exact key run1t run1f (by omega) (by omega)
    by_cases h2 : xs.length ≤ 128
    · exact key run2t run2f (by omega) (by omega)
    by_cases h3 : xs.length ≤ 191
    · exact key run3t run3f (by omega) (by omega)
    by_cases h4 : xs.length ≤ 256
    · exact key run4t run4f (by omega) (by omega)
    by_cases h5 : xs.length ≤ 319
    · exact key run5t run5f (by omega) (by omega)
    by_cases h6 : xs.length ≤ 384
    · exact key run6t run6f (by omega) (by omega)
    by_cases h7 : xs.length ≤ 447
    · exact key run7t run7f (by omega) (by omega)
    by_cases h8 : xs.length ≤ 512
    · exact key run8t run8f (by omega) (by omega)
    exact key run9t run9f (by omega) (by omega)
end Go.Proofs.YtpklnjegimchoaaGreatDoor
