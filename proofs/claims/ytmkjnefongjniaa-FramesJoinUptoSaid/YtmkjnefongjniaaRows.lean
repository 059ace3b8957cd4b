/-
  No cell of these rows narrows 'for every input' (looked for: loops, veiled, ifaces, maps, wideKeys, modest, calm, conditions, laid).
  DERIVED. THE GIVEN ROWS OF THIS SEAT. 16 by the template 'for every input the law returns true; each argument reads behind the call as it read before'; 0 by the template 'total and deterministic' (their statements: YtmkjnefongjniaaTotals.lean).
  GIVEN WITH THE SEED: the statements are not yours to turn. If you find one false, say at which input.
  Laid BY PROGRAM, IN A SANDBOX (cutbox-rows.mjs): the forced cells as the released guide's own fill.sh prints them over the translation 1b81965141fcdc00… (all of the seat's roots in one cut). By AI agents, Wed Nov 11 2026. No macro, syntax, notation, axiom, sorry.
-/
import Derived.Test.YtmkjnefongjniaaChecked
import GoSem.Claim
import GoSem.ClaimJoined
import GoSem.ClaimMapViews
import Derived.JoinedTies
import Derived.KernelRfl
namespace Go.Proofs.Ytmkjnefongjniaa
/- THE CELL 'sum', in the pinned program and in every row, IS THE sha256 OF THE DUMP (.gsa) THAT YtmkjnefongjniaaProg.lean LOADS. Nothing in Lean hashes anything: it is a label: what it is worth is what the hold of that sum in a sandbox is worth. -/
noncomputable def Try.pinned : Pinned := { name := "ytmkjnefongjniaa", sum := "1b81965141fcdc0051f4db755c6f22111d2fa4c75b61042111bfb768a68353cb", checked := Try.checked }
namespace Rows
def none {H : Type} : Left H := { results := [], args := [] }

/-- 'sheavelaw09.OctetsVars': WHATEVER THE INPUT: true; the input reads as it did. -/
def octetsVarsSpec : ChangeSpec := { name := "octetsVars", fn := fun _ => fun
  | [d1, d2] => { results := [.lit (.bool true)], args := [d1, d2] }
  | _ => none }
def octetsVarsRow : OpenClaim := { program := "ytmkjnefongjniaa", sum := "1b81965141fcdc0051f4db755c6f22111d2fa4c75b61042111bfb768a68353cb", func := "sheave/sheavelaw09.OctetsVars", spec := "octetsVars", unfollowed := true, recurses := true, apart := false }
def OctetsVarsSaid : Prop := octetsVarsRow.holds Try.pinned (OpenSpec.ofChange octetsVarsSpec)

/-- ITS FALSE NEIGHBOUR: 'it returns false'. Refute it at one input. -/
def octetsVarsWrong : ChangeSpec := { name := "octetsVars", fn := fun _ => fun
  | [d1, d2] => { results := [.lit (.bool false)], args := [d1, d2] }
  | _ => none }
def OctetsVarsWrongFalsely : Prop := octetsVarsRow.holds Try.pinned (OpenSpec.ofChange octetsVarsWrong)

/-- 'sheavelaw09.OctetsBack': WHATEVER THE INPUT: true; the input reads as it did. -/
def octetsBackSpec : ChangeSpec := { name := "octetsBack", fn := fun _ => fun
  | [d1, d2] => { results := [.lit (.bool true)], args := [d1, d2] }
  | _ => none }
def octetsBackRow : OpenClaim := { program := "ytmkjnefongjniaa", sum := "1b81965141fcdc0051f4db755c6f22111d2fa4c75b61042111bfb768a68353cb", func := "sheave/sheavelaw09.OctetsBack", spec := "octetsBack", unfollowed := true, recurses := true, apart := false }
def OctetsBackSaid : Prop := octetsBackRow.holds Try.pinned (OpenSpec.ofChange octetsBackSpec)

/-- ITS FALSE NEIGHBOUR: 'it returns false'. Refute it at one input. -/
def octetsBackWrong : ChangeSpec := { name := "octetsBack", fn := fun _ => fun
  | [d1, d2] => { results := [.lit (.bool false)], args := [d1, d2] }
  | _ => none }
def OctetsBackWrongFalsely : Prop := octetsBackRow.holds Try.pinned (OpenSpec.ofChange octetsBackWrong)

/-- 'sheavelaw09.OctetsTexts': WHATEVER THE INPUT: true; the input reads as it did. -/
def octetsTextsSpec : ChangeSpec := { name := "octetsTexts", fn := fun _ => fun
  | [d1, d2, d3] => { results := [.lit (.bool true)], args := [d1, d2, d3] }
  | _ => none }
def octetsTextsRow : OpenClaim := { program := "ytmkjnefongjniaa", sum := "1b81965141fcdc0051f4db755c6f22111d2fa4c75b61042111bfb768a68353cb", func := "sheave/sheavelaw09.OctetsTexts", spec := "octetsTexts", unfollowed := true, recurses := true, apart := false }
def OctetsTextsSaid : Prop := octetsTextsRow.holds Try.pinned (OpenSpec.ofChange octetsTextsSpec)

/-- ITS FALSE NEIGHBOUR: 'it returns false'. Refute it at one input. -/
def octetsTextsWrong : ChangeSpec := { name := "octetsTexts", fn := fun _ => fun
  | [d1, d2, d3] => { results := [.lit (.bool false)], args := [d1, d2, d3] }
  | _ => none }
def OctetsTextsWrongFalsely : Prop := octetsTextsRow.holds Try.pinned (OpenSpec.ofChange octetsTextsWrong)

/-- 'sheavelaw09.OctetsWhole': WHATEVER THE INPUT: true; the input reads as it did. -/
def octetsWholeSpec : ChangeSpec := { name := "octetsWhole", fn := fun _ => fun
  | [d1, d2] => { results := [.lit (.bool true)], args := [d1, d2] }
  | _ => none }
def octetsWholeRow : OpenClaim := { program := "ytmkjnefongjniaa", sum := "1b81965141fcdc0051f4db755c6f22111d2fa4c75b61042111bfb768a68353cb", func := "sheave/sheavelaw09.OctetsWhole", spec := "octetsWhole", unfollowed := true, recurses := true, apart := false }
def OctetsWholeSaid : Prop := octetsWholeRow.holds Try.pinned (OpenSpec.ofChange octetsWholeSpec)

/-- ITS FALSE NEIGHBOUR: 'it returns false'. Refute it at one input. -/
def octetsWholeWrong : ChangeSpec := { name := "octetsWhole", fn := fun _ => fun
  | [d1, d2] => { results := [.lit (.bool false)], args := [d1, d2] }
  | _ => none }
def OctetsWholeWrongFalsely : Prop := octetsWholeRow.holds Try.pinned (OpenSpec.ofChange octetsWholeWrong)

/-- 'sheavelaw09.OctetsTakes': WHATEVER THE INPUT: true; the input reads as it did. -/
def octetsTakesSpec : ChangeSpec := { name := "octetsTakes", fn := fun _ => fun
  | [d1, d2] => { results := [.lit (.bool true)], args := [d1, d2] }
  | _ => none }
def octetsTakesRow : OpenClaim := { program := "ytmkjnefongjniaa", sum := "1b81965141fcdc0051f4db755c6f22111d2fa4c75b61042111bfb768a68353cb", func := "sheave/sheavelaw09.OctetsTakes", spec := "octetsTakes", unfollowed := true, recurses := true, apart := false }
def OctetsTakesSaid : Prop := octetsTakesRow.holds Try.pinned (OpenSpec.ofChange octetsTakesSpec)

/-- ITS FALSE NEIGHBOUR: 'it returns false'. Refute it at one input. -/
def octetsTakesWrong : ChangeSpec := { name := "octetsTakes", fn := fun _ => fun
  | [d1, d2] => { results := [.lit (.bool false)], args := [d1, d2] }
  | _ => none }
def OctetsTakesWrongFalsely : Prop := octetsTakesRow.holds Try.pinned (OpenSpec.ofChange octetsTakesWrong)

/-- 'sheavelaw09.OctetsFixed': WHATEVER THE INPUT: true; the input reads as it did. -/
def octetsFixedSpec : ChangeSpec := { name := "octetsFixed", fn := fun _ => fun
  | [d1, d2, d3] => { results := [.lit (.bool true)], args := [d1, d2, d3] }
  | _ => none }
def octetsFixedRow : OpenClaim := { program := "ytmkjnefongjniaa", sum := "1b81965141fcdc0051f4db755c6f22111d2fa4c75b61042111bfb768a68353cb", func := "sheave/sheavelaw09.OctetsFixed", spec := "octetsFixed", unfollowed := true, recurses := true, apart := false }
def OctetsFixedSaid : Prop := octetsFixedRow.holds Try.pinned (OpenSpec.ofChange octetsFixedSpec)

/-- ITS FALSE NEIGHBOUR: 'it returns false'. Refute it at one input. -/
def octetsFixedWrong : ChangeSpec := { name := "octetsFixed", fn := fun _ => fun
  | [d1, d2, d3] => { results := [.lit (.bool false)], args := [d1, d2, d3] }
  | _ => none }
def OctetsFixedWrongFalsely : Prop := octetsFixedRow.holds Try.pinned (OpenSpec.ofChange octetsFixedWrong)

/-- 'sheavelaw11.PacketPrints': WHATEVER THE INPUT: true; the input reads as it did. -/
def packetPrintsSpec : ChangeSpec := { name := "packetPrints", fn := fun _ => fun
  | [d] => { results := [.lit (.bool true)], args := [d] }
  | _ => none }
def packetPrintsRow : OpenClaim := { program := "ytmkjnefongjniaa", sum := "1b81965141fcdc0051f4db755c6f22111d2fa4c75b61042111bfb768a68353cb", func := "sheave/sheavelaw11.PacketPrints", spec := "packetPrints", apart := false }
def PacketPrintsSaid : Prop := packetPrintsRow.holds Try.pinned (OpenSpec.ofChange packetPrintsSpec)

/-- ITS FALSE NEIGHBOUR: 'it returns false'. Refute it at one input. -/
def packetPrintsWrong : ChangeSpec := { name := "packetPrints", fn := fun _ => fun
  | [d] => { results := [.lit (.bool false)], args := [d] }
  | _ => none }
def PacketPrintsWrongFalsely : Prop := packetPrintsRow.holds Try.pinned (OpenSpec.ofChange packetPrintsWrong)

/-- 'sheavelaw11.PacketParses': WHATEVER THE INPUT: true; the input reads as it did. -/
def packetParsesSpec : ChangeSpec := { name := "packetParses", fn := fun _ => fun
  | [d] => { results := [.lit (.bool true)], args := [d] }
  | _ => none }
def packetParsesRow : OpenClaim := { program := "ytmkjnefongjniaa", sum := "1b81965141fcdc0051f4db755c6f22111d2fa4c75b61042111bfb768a68353cb", func := "sheave/sheavelaw11.PacketParses", spec := "packetParses", apart := false }
def PacketParsesSaid : Prop := packetParsesRow.holds Try.pinned (OpenSpec.ofChange packetParsesSpec)

/-- ITS FALSE NEIGHBOUR: 'it returns false'. Refute it at one input. -/
def packetParsesWrong : ChangeSpec := { name := "packetParses", fn := fun _ => fun
  | [d] => { results := [.lit (.bool false)], args := [d] }
  | _ => none }
def PacketParsesWrongFalsely : Prop := packetParsesRow.holds Try.pinned (OpenSpec.ofChange packetParsesWrong)

/-- 'sheavelaw11.PacketBack': WHATEVER THE INPUT: true; the input reads as it did. -/
def packetBackSpec : ChangeSpec := { name := "packetBack", fn := fun _ => fun
  | [d1, d2] => { results := [.lit (.bool true)], args := [d1, d2] }
  | _ => none }
def packetBackRow : OpenClaim := { program := "ytmkjnefongjniaa", sum := "1b81965141fcdc0051f4db755c6f22111d2fa4c75b61042111bfb768a68353cb", func := "sheave/sheavelaw11.PacketBack", spec := "packetBack", apart := false }
def PacketBackSaid : Prop := packetBackRow.holds Try.pinned (OpenSpec.ofChange packetBackSpec)

/-- ITS FALSE NEIGHBOUR: 'it returns false'. Refute it at one input. -/
def packetBackWrong : ChangeSpec := { name := "packetBack", fn := fun _ => fun
  | [d1, d2] => { results := [.lit (.bool false)], args := [d1, d2] }
  | _ => none }
def PacketBackWrongFalsely : Prop := packetBackRow.holds Try.pinned (OpenSpec.ofChange packetBackWrong)

/-- 'sheavelaw11.PacketNonces': WHATEVER THE INPUT: true; the input reads as it did. -/
def packetNoncesSpec : ChangeSpec := { name := "packetNonces", fn := fun _ => fun
  | [d1, d2] => { results := [.lit (.bool true)], args := [d1, d2] }
  | _ => none }
def packetNoncesRow : OpenClaim := { program := "ytmkjnefongjniaa", sum := "1b81965141fcdc0051f4db755c6f22111d2fa4c75b61042111bfb768a68353cb", func := "sheave/sheavelaw11.PacketNonces", spec := "packetNonces", apart := false }
def PacketNoncesSaid : Prop := packetNoncesRow.holds Try.pinned (OpenSpec.ofChange packetNoncesSpec)

/-- ITS FALSE NEIGHBOUR: 'it returns false'. Refute it at one input. -/
def packetNoncesWrong : ChangeSpec := { name := "packetNonces", fn := fun _ => fun
  | [d1, d2] => { results := [.lit (.bool false)], args := [d1, d2] }
  | _ => none }
def PacketNoncesWrongFalsely : Prop := packetNoncesRow.holds Try.pinned (OpenSpec.ofChange packetNoncesWrong)

/-- 'sheavelaw11.PacketHeads': WHATEVER THE INPUT: true; the input reads as it did. -/
def packetHeadsSpec : ChangeSpec := { name := "packetHeads", fn := fun _ => fun
  | [d] => { results := [.lit (.bool true)], args := [d] }
  | _ => none }
def packetHeadsRow : OpenClaim := { program := "ytmkjnefongjniaa", sum := "1b81965141fcdc0051f4db755c6f22111d2fa4c75b61042111bfb768a68353cb", func := "sheave/sheavelaw11.PacketHeads", spec := "packetHeads", apart := false }
def PacketHeadsSaid : Prop := packetHeadsRow.holds Try.pinned (OpenSpec.ofChange packetHeadsSpec)

/-- ITS FALSE NEIGHBOUR: 'it returns false'. Refute it at one input. -/
def packetHeadsWrong : ChangeSpec := { name := "packetHeads", fn := fun _ => fun
  | [d] => { results := [.lit (.bool false)], args := [d] }
  | _ => none }
def PacketHeadsWrongFalsely : Prop := packetHeadsRow.holds Try.pinned (OpenSpec.ofChange packetHeadsWrong)

/-- 'sheavelaw10.FramesWrites': WHATEVER THE INPUT: true; the input reads as it did. -/
def framesWritesSpec : ChangeSpec := { name := "framesWrites", fn := fun _ => fun
  | [d] => { results := [.lit (.bool true)], args := [d] }
  | _ => none }
def framesWritesRow : OpenClaim := { program := "ytmkjnefongjniaa", sum := "1b81965141fcdc0051f4db755c6f22111d2fa4c75b61042111bfb768a68353cb", func := "sheave/sheavelaw10.FramesWrites", spec := "framesWrites", unfollowed := true, recurses := true, apart := false }
def FramesWritesSaid : Prop := framesWritesRow.holds Try.pinned (OpenSpec.ofChange framesWritesSpec)

/-- ITS FALSE NEIGHBOUR: 'it returns false'. Refute it at one input. -/
def framesWritesWrong : ChangeSpec := { name := "framesWrites", fn := fun _ => fun
  | [d] => { results := [.lit (.bool false)], args := [d] }
  | _ => none }
def FramesWritesWrongFalsely : Prop := framesWritesRow.holds Try.pinned (OpenSpec.ofChange framesWritesWrong)

/-- 'sheavelaw10.FramesJoin': WHATEVER THE INPUT: true; the input reads as it did. -/
def framesJoinSpec : ChangeSpec := { name := "framesJoin", fn := fun _ => fun
  | [d1, d2] => { results := [.lit (.bool true)], args := [d1, d2] }
  | _ => none }
def framesJoinRow : OpenClaim := { program := "ytmkjnefongjniaa", sum := "1b81965141fcdc0051f4db755c6f22111d2fa4c75b61042111bfb768a68353cb", func := "sheave/sheavelaw10.FramesJoin", spec := "framesJoin", unfollowed := true, recurses := true, apart := false }
def FramesJoinSaid : Prop := framesJoinRow.holds Try.pinned (OpenSpec.ofChange framesJoinSpec)

/-- ITS FALSE NEIGHBOUR: 'it returns false'. Refute it at one input. -/
def framesJoinWrong : ChangeSpec := { name := "framesJoin", fn := fun _ => fun
  | [d1, d2] => { results := [.lit (.bool false)], args := [d1, d2] }
  | _ => none }
def FramesJoinWrongFalsely : Prop := framesJoinRow.holds Try.pinned (OpenSpec.ofChange framesJoinWrong)

/-- 'sheavelaw10.FramesCuts': WHATEVER THE INPUT: true; the input reads as it did. -/
def framesCutsSpec : ChangeSpec := { name := "framesCuts", fn := fun _ => fun
  | [d1, d2] => { results := [.lit (.bool true)], args := [d1, d2] }
  | _ => none }
def framesCutsRow : OpenClaim := { program := "ytmkjnefongjniaa", sum := "1b81965141fcdc0051f4db755c6f22111d2fa4c75b61042111bfb768a68353cb", func := "sheave/sheavelaw10.FramesCuts", spec := "framesCuts", unfollowed := true, recurses := true, apart := false }
def FramesCutsSaid : Prop := framesCutsRow.holds Try.pinned (OpenSpec.ofChange framesCutsSpec)

/-- ITS FALSE NEIGHBOUR: 'it returns false'. Refute it at one input. -/
def framesCutsWrong : ChangeSpec := { name := "framesCuts", fn := fun _ => fun
  | [d1, d2] => { results := [.lit (.bool false)], args := [d1, d2] }
  | _ => none }
def FramesCutsWrongFalsely : Prop := framesCutsRow.holds Try.pinned (OpenSpec.ofChange framesCutsWrong)

/-- 'sheavelaw10.FramesChecks': WHATEVER THE INPUT: true; the input reads as it did. -/
def framesChecksSpec : ChangeSpec := { name := "framesChecks", fn := fun _ => fun
  | [d] => { results := [.lit (.bool true)], args := [d] }
  | _ => none }
def framesChecksRow : OpenClaim := { program := "ytmkjnefongjniaa", sum := "1b81965141fcdc0051f4db755c6f22111d2fa4c75b61042111bfb768a68353cb", func := "sheave/sheavelaw10.FramesChecks", spec := "framesChecks", unfollowed := true, recurses := true, apart := false }
def FramesChecksSaid : Prop := framesChecksRow.holds Try.pinned (OpenSpec.ofChange framesChecksSpec)

/-- ITS FALSE NEIGHBOUR: 'it returns false'. Refute it at one input. -/
def framesChecksWrong : ChangeSpec := { name := "framesChecks", fn := fun _ => fun
  | [d] => { results := [.lit (.bool false)], args := [d] }
  | _ => none }
def FramesChecksWrongFalsely : Prop := framesChecksRow.holds Try.pinned (OpenSpec.ofChange framesChecksWrong)

/-- 'sheavelaw10.FramesBack': WHATEVER THE INPUT: true; the input reads as it did. -/
def framesBackSpec : ChangeSpec := { name := "framesBack", fn := fun _ => fun
  | [d1, d2] => { results := [.lit (.bool true)], args := [d1, d2] }
  | _ => none }
def framesBackRow : OpenClaim := { program := "ytmkjnefongjniaa", sum := "1b81965141fcdc0051f4db755c6f22111d2fa4c75b61042111bfb768a68353cb", func := "sheave/sheavelaw10.FramesBack", spec := "framesBack", unfollowed := true, recurses := true, apart := false }
def FramesBackSaid : Prop := framesBackRow.holds Try.pinned (OpenSpec.ofChange framesBackSpec)

/-- ITS FALSE NEIGHBOUR: 'it returns false'. Refute it at one input. -/
def framesBackWrong : ChangeSpec := { name := "framesBack", fn := fun _ => fun
  | [d1, d2] => { results := [.lit (.bool false)], args := [d1, d2] }
  | _ => none }
def FramesBackWrongFalsely : Prop := framesBackRow.holds Try.pinned (OpenSpec.ofChange framesBackWrong)

/- THE SECOND FORM. 'bulk': how many values and letters a reading holds, each counted each time it is reached (what is shared counts as often as it is met; a slice's spare places count too). A statement '..UptoSaid' is the law's where the arguments, and the package variables that the reading takes, are together of bulk at most 1048576: NARROWER than '..Said'. Prove '..Said' where nothing that the law and all that it calls make is longer than what came in: it says more and counts as full. Else prove '..UptoSaid'. A law counts once. -/
mutual
def uptoBulk {H : Type} : DataW H → Nat
  | .lit (.string bytes) => bytes.length + 1
  | .lit _ => 1
  | .nil => 1
  | .ptr d => uptoBulk d + 1
  | .slice elems spare => uptoBulkAll elems + uptoBulkAll spare + 1
  | .agg parts => uptoBulkAll parts + 1
  | .iface _ d => uptoBulk d + 1
  | .map entries => uptoBulkEntries entries + 1
  | .held _ => 1
def uptoBulkAll {H : Type} : List (DataW H) → Nat
  | [] => 0
  | d :: r => uptoBulk d + uptoBulkAll r
def uptoBulkEntries {H : Type} : List (Lit × DataW H) → Nat
  | [] => 0
  | x :: r => uptoBulkEntry x + uptoBulkEntries r
def uptoBulkEntry {H : Type} : Lit × DataW H → Nat
  | (.string bytes, d) => bytes.length + uptoBulk d + 1
  | (_, d) => uptoBulk d + 1
 end
def uptoSmall : (H : Type) → List (DataW H) → Bool := fun _ ds => decide (uptoBulkAll ds ≤ 1048576)
def OpenSpec.upto (s : _root_.Go.ChangeSpec) : _root_.Go.OpenSpec := { _root_.Go.OpenSpec.ofChange s with cond := some uptoSmall }

/-- 'sheavelaw09.OctetsVars', WHERE WHAT IT READS IS OF BULK AT MOST 1048576: true; the input reads as it did. -/
def octetsVarsUptoRow : OpenClaim := { program := "ytmkjnefongjniaa", sum := "1b81965141fcdc0051f4db755c6f22111d2fa4c75b61042111bfb768a68353cb", func := "sheave/sheavelaw09.OctetsVars", spec := "octetsVars", unfollowed := true, recurses := true, apart := false, narrowed := true }
def OctetsVarsUptoSaid : Prop := octetsVarsUptoRow.holds Try.pinned (OpenSpec.upto octetsVarsSpec)

/-- 'sheavelaw09.OctetsBack', WHERE WHAT IT READS IS OF BULK AT MOST 1048576: true; the input reads as it did. -/
def octetsBackUptoRow : OpenClaim := { program := "ytmkjnefongjniaa", sum := "1b81965141fcdc0051f4db755c6f22111d2fa4c75b61042111bfb768a68353cb", func := "sheave/sheavelaw09.OctetsBack", spec := "octetsBack", unfollowed := true, recurses := true, apart := false, narrowed := true }
def OctetsBackUptoSaid : Prop := octetsBackUptoRow.holds Try.pinned (OpenSpec.upto octetsBackSpec)

/-- 'sheavelaw09.OctetsTexts', WHERE WHAT IT READS IS OF BULK AT MOST 1048576: true; the input reads as it did. -/
def octetsTextsUptoRow : OpenClaim := { program := "ytmkjnefongjniaa", sum := "1b81965141fcdc0051f4db755c6f22111d2fa4c75b61042111bfb768a68353cb", func := "sheave/sheavelaw09.OctetsTexts", spec := "octetsTexts", unfollowed := true, recurses := true, apart := false, narrowed := true }
def OctetsTextsUptoSaid : Prop := octetsTextsUptoRow.holds Try.pinned (OpenSpec.upto octetsTextsSpec)

/-- 'sheavelaw09.OctetsWhole', WHERE WHAT IT READS IS OF BULK AT MOST 1048576: true; the input reads as it did. -/
def octetsWholeUptoRow : OpenClaim := { program := "ytmkjnefongjniaa", sum := "1b81965141fcdc0051f4db755c6f22111d2fa4c75b61042111bfb768a68353cb", func := "sheave/sheavelaw09.OctetsWhole", spec := "octetsWhole", unfollowed := true, recurses := true, apart := false, narrowed := true }
def OctetsWholeUptoSaid : Prop := octetsWholeUptoRow.holds Try.pinned (OpenSpec.upto octetsWholeSpec)

/-- 'sheavelaw09.OctetsTakes', WHERE WHAT IT READS IS OF BULK AT MOST 1048576: true; the input reads as it did. -/
def octetsTakesUptoRow : OpenClaim := { program := "ytmkjnefongjniaa", sum := "1b81965141fcdc0051f4db755c6f22111d2fa4c75b61042111bfb768a68353cb", func := "sheave/sheavelaw09.OctetsTakes", spec := "octetsTakes", unfollowed := true, recurses := true, apart := false, narrowed := true }
def OctetsTakesUptoSaid : Prop := octetsTakesUptoRow.holds Try.pinned (OpenSpec.upto octetsTakesSpec)

/-- 'sheavelaw09.OctetsFixed', WHERE WHAT IT READS IS OF BULK AT MOST 1048576: true; the input reads as it did. -/
def octetsFixedUptoRow : OpenClaim := { program := "ytmkjnefongjniaa", sum := "1b81965141fcdc0051f4db755c6f22111d2fa4c75b61042111bfb768a68353cb", func := "sheave/sheavelaw09.OctetsFixed", spec := "octetsFixed", unfollowed := true, recurses := true, apart := false, narrowed := true }
def OctetsFixedUptoSaid : Prop := octetsFixedUptoRow.holds Try.pinned (OpenSpec.upto octetsFixedSpec)

/-- 'sheavelaw11.PacketPrints', WHERE WHAT IT READS IS OF BULK AT MOST 1048576: true; the input reads as it did. -/
def packetPrintsUptoRow : OpenClaim := { program := "ytmkjnefongjniaa", sum := "1b81965141fcdc0051f4db755c6f22111d2fa4c75b61042111bfb768a68353cb", func := "sheave/sheavelaw11.PacketPrints", spec := "packetPrints", apart := false, narrowed := true }
def PacketPrintsUptoSaid : Prop := packetPrintsUptoRow.holds Try.pinned (OpenSpec.upto packetPrintsSpec)

/-- 'sheavelaw11.PacketParses', WHERE WHAT IT READS IS OF BULK AT MOST 1048576: true; the input reads as it did. -/
def packetParsesUptoRow : OpenClaim := { program := "ytmkjnefongjniaa", sum := "1b81965141fcdc0051f4db755c6f22111d2fa4c75b61042111bfb768a68353cb", func := "sheave/sheavelaw11.PacketParses", spec := "packetParses", apart := false, narrowed := true }
def PacketParsesUptoSaid : Prop := packetParsesUptoRow.holds Try.pinned (OpenSpec.upto packetParsesSpec)

/-- 'sheavelaw11.PacketBack', WHERE WHAT IT READS IS OF BULK AT MOST 1048576: true; the input reads as it did. -/
def packetBackUptoRow : OpenClaim := { program := "ytmkjnefongjniaa", sum := "1b81965141fcdc0051f4db755c6f22111d2fa4c75b61042111bfb768a68353cb", func := "sheave/sheavelaw11.PacketBack", spec := "packetBack", apart := false, narrowed := true }
def PacketBackUptoSaid : Prop := packetBackUptoRow.holds Try.pinned (OpenSpec.upto packetBackSpec)

/-- 'sheavelaw11.PacketNonces', WHERE WHAT IT READS IS OF BULK AT MOST 1048576: true; the input reads as it did. -/
def packetNoncesUptoRow : OpenClaim := { program := "ytmkjnefongjniaa", sum := "1b81965141fcdc0051f4db755c6f22111d2fa4c75b61042111bfb768a68353cb", func := "sheave/sheavelaw11.PacketNonces", spec := "packetNonces", apart := false, narrowed := true }
def PacketNoncesUptoSaid : Prop := packetNoncesUptoRow.holds Try.pinned (OpenSpec.upto packetNoncesSpec)

/-- 'sheavelaw11.PacketHeads', WHERE WHAT IT READS IS OF BULK AT MOST 1048576: true; the input reads as it did. -/
def packetHeadsUptoRow : OpenClaim := { program := "ytmkjnefongjniaa", sum := "1b81965141fcdc0051f4db755c6f22111d2fa4c75b61042111bfb768a68353cb", func := "sheave/sheavelaw11.PacketHeads", spec := "packetHeads", apart := false, narrowed := true }
def PacketHeadsUptoSaid : Prop := packetHeadsUptoRow.holds Try.pinned (OpenSpec.upto packetHeadsSpec)

/-- 'sheavelaw10.FramesWrites', WHERE WHAT IT READS IS OF BULK AT MOST 1048576: true; the input reads as it did. -/
def framesWritesUptoRow : OpenClaim := { program := "ytmkjnefongjniaa", sum := "1b81965141fcdc0051f4db755c6f22111d2fa4c75b61042111bfb768a68353cb", func := "sheave/sheavelaw10.FramesWrites", spec := "framesWrites", unfollowed := true, recurses := true, apart := false, narrowed := true }
def FramesWritesUptoSaid : Prop := framesWritesUptoRow.holds Try.pinned (OpenSpec.upto framesWritesSpec)

/-- 'sheavelaw10.FramesJoin', WHERE WHAT IT READS IS OF BULK AT MOST 1048576: true; the input reads as it did. -/
def framesJoinUptoRow : OpenClaim := { program := "ytmkjnefongjniaa", sum := "1b81965141fcdc0051f4db755c6f22111d2fa4c75b61042111bfb768a68353cb", func := "sheave/sheavelaw10.FramesJoin", spec := "framesJoin", unfollowed := true, recurses := true, apart := false, narrowed := true }
def FramesJoinUptoSaid : Prop := framesJoinUptoRow.holds Try.pinned (OpenSpec.upto framesJoinSpec)

/-- 'sheavelaw10.FramesCuts', WHERE WHAT IT READS IS OF BULK AT MOST 1048576: true; the input reads as it did. -/
def framesCutsUptoRow : OpenClaim := { program := "ytmkjnefongjniaa", sum := "1b81965141fcdc0051f4db755c6f22111d2fa4c75b61042111bfb768a68353cb", func := "sheave/sheavelaw10.FramesCuts", spec := "framesCuts", unfollowed := true, recurses := true, apart := false, narrowed := true }
def FramesCutsUptoSaid : Prop := framesCutsUptoRow.holds Try.pinned (OpenSpec.upto framesCutsSpec)

/-- 'sheavelaw10.FramesChecks', WHERE WHAT IT READS IS OF BULK AT MOST 1048576: true; the input reads as it did. -/
def framesChecksUptoRow : OpenClaim := { program := "ytmkjnefongjniaa", sum := "1b81965141fcdc0051f4db755c6f22111d2fa4c75b61042111bfb768a68353cb", func := "sheave/sheavelaw10.FramesChecks", spec := "framesChecks", unfollowed := true, recurses := true, apart := false, narrowed := true }
def FramesChecksUptoSaid : Prop := framesChecksUptoRow.holds Try.pinned (OpenSpec.upto framesChecksSpec)

/-- 'sheavelaw10.FramesBack', WHERE WHAT IT READS IS OF BULK AT MOST 1048576: true; the input reads as it did. -/
def framesBackUptoRow : OpenClaim := { program := "ytmkjnefongjniaa", sum := "1b81965141fcdc0051f4db755c6f22111d2fa4c75b61042111bfb768a68353cb", func := "sheave/sheavelaw10.FramesBack", spec := "framesBack", unfollowed := true, recurses := true, apart := false, narrowed := true }
def FramesBackUptoSaid : Prop := framesBackUptoRow.holds Try.pinned (OpenSpec.upto framesBackSpec)

end Rows
end Go.Proofs.Ytmkjnefongjniaa
