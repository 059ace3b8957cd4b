/-
  DERIVED. GIVEN WITH THE SEED: THE PROGRAM's TIES (one call each: nine closed facts by the kernel) AND EACH ROW's TIE, after the 31st guide's Derived/Test/Toyas{Tie, Card}.lean. No idea stands in it: it is a product of the set-up. Laid BY PROGRAM, IN A SANDBOX (cutbox-door.mjs). By AI agents, Wed Nov 11 2026. No macro, syntax, notation, axiom, sorry.
-/
import Derived.Test.YtpklnjegimchoaaGreatDoorRows
import Derived.LaidByTextLater
import Derived.SevenTiedAt
import Derived.LaidSub
import Derived.LaidOnce
namespace Go.Proofs.YtpklnjegimchoaaGreatDoor
open Go
set_option maxRecDepth 100000
theorem seatTie1 : Tryz.prog.laidByTextLater [("math/bits.deBruijn32tab", Rows.laid_math_bits_deBruijn32tab), ("math/bits.deBruijn64tab", Rows.laid_math_bits_deBruijn64tab), ("internal/strconv.uint64pow10", Rows.laid_internal_strconv_uint64pow10), ("sheave/blake.start", Rows.laid_sheave_blake_start), ("sheave/blake.rows", Rows.laid_sheave_blake_rows), ("sheave/blake.places", Rows.laid_sheave_blake_places), ("sheave/chacha.head", Rows.laid_sheave_chacha_head), ("sheave/chacha.round", Rows.laid_sheave_chacha_round), ("sheave/clamp.prime", Rows.laid_sheave_clamp_prime), ("sheave/curve.prime", Rows.laid_sheave_curve_prime), ("sheave/ladder.begin", Rows.laid_sheave_ladder_begin), ("sheave/ladder.small", Rows.laid_sheave_ladder_small)] [.data, .data, .data, .data, .data, .data, .data, .data, .data, .data, .data, .data] true :=
  Program.laidByTextLater_by_one 95 8 161 (by kernel_rfl) (by kernel_rfl) (by kernel_rfl) (by kernel_rfl) (by kernel_rfl) (by kernel_rfl) (fun _ _ => by kernel_rfl)
theorem noOwnUnsafe : Tryz.pinned.checked.prog.headLifts.contains "ownunsafe" = false := by kernel_rfl
theorem tie : Tryz.prog.laidByTextLater [("math/bits.deBruijn32tab", Rows.laid_math_bits_deBruijn32tab), ("math/bits.deBruijn64tab", Rows.laid_math_bits_deBruijn64tab), ("internal/strconv.uint64pow10", Rows.laid_internal_strconv_uint64pow10), ("sheave/blake.start", Rows.laid_sheave_blake_start), ("sheave/blake.rows", Rows.laid_sheave_blake_rows), ("sheave/blake.places", Rows.laid_sheave_blake_places), ("sheave/chacha.head", Rows.laid_sheave_chacha_head), ("sheave/chacha.round", Rows.laid_sheave_chacha_round), ("sheave/clamp.prime", Rows.laid_sheave_clamp_prime), ("sheave/curve.prime", Rows.laid_sheave_curve_prime), ("sheave/ladder.begin", Rows.laid_sheave_ladder_begin), ("sheave/ladder.small", Rows.laid_sheave_ladder_small)] [.data, .data, .data, .data, .data, .data, .data, .data, .data, .data, .data, .data] true :=
  Program.laidByTextLater.sub seatTie1 ["math/bits.deBruijn32tab", "math/bits.deBruijn64tab", "internal/strconv.uint64pow10", "sheave/blake.start", "sheave/blake.rows", "sheave/blake.places", "sheave/chacha.head", "sheave/chacha.round", "sheave/clamp.prime", "sheave/curve.prime", "sheave/ladder.begin", "sheave/ladder.small"] (by kernel_rfl) (by kernel_rfl)
theorem topTwice_row_tie : Rows.topTwiceRow.laidByTextAt .later Tryz.pinned [.data, .data, .data, .data, .data, .data, .data, .data, .data, .data, .data, .data] true :=
  OpenClaim.laidByTextAt_later rfl rfl tie noOwnUnsafe
theorem topTwiceUpto_row_tie : Rows.topTwiceUptoRow.laidByTextAt .later Tryz.pinned [.data, .data, .data, .data, .data, .data, .data, .data, .data, .data, .data, .data] true :=
  OpenClaim.laidByTextAt_later rfl rfl tie noOwnUnsafe
end Go.Proofs.YtpklnjegimchoaaGreatDoor
