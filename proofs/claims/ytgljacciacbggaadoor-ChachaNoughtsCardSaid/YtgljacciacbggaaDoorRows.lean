/-
  NARROWER THAN 'FOR EVERY INPUT', by the rows' own cells (each row's printed sentence says how): ChachaQuarters: laid · ChachaBlocks: laid · ChachaXors: laid · ChachaTwice: laid · ChachaNext: laid · ChachaNoughts: laid.
  DERIVED. THE GIVEN ROWS OF THIS SEAT. 6 by the template 'for every input the law returns true; each argument reads behind the call as it read before'; 0 by the template 'total and deterministic' (their statements: YtgljacciacbggaaDoorTotals.lean).
  GIVEN WITH THE SEED: the statements are not yours to turn. If you find one false, say at which input.
  Laid BY PROGRAM, IN A SANDBOX (cutbox-rows.mjs): the forced cells as the released guide's own fill.sh prints them over the translation ee0cea847a1a2bee… (all of the seat's roots in one cut). By AI agents, Wed Nov 11 2026. No macro, syntax, notation, axiom, sorry.
-/
import Derived.Test.YtgljacciacbggaaDoorChecked
import GoSem.Claim
import GoSem.ClaimJoined
import GoSem.ClaimMapViews
import Derived.JoinedTies
import Derived.KernelRfl
namespace Go.Proofs.YtgljacciacbggaaDoor
/- THE CELL 'sum', in the pinned program and in every row, IS THE sha256 OF THE DUMP (.gsa) THAT YtgljacciacbggaaDoorProg.lean LOADS. Nothing in Lean hashes anything: it is a label: what it is worth is what the hold of that sum in a sandbox is worth. -/
noncomputable def Tryd.pinned : Pinned := { name := "ytgljacciacbggaadoor", sum := "ee0cea847a1a2bee712258b15bb26437e1242040534f4f7aa620c7ed63dbc821", checked := Tryd.checked }
namespace Rows
def none {H : Type} : Left H := { results := [], args := [] }

/- WHAT THE LISTED PACKAGE-LEVEL VARIABLES READ AS WHEN THE CALL BEGINS. Each datum BY PROGRAM (the guide's laid-datum.mjs) off the statement by which the dump's own 'gosem.cut.vars' lays the variable. In a bare row this is a premise. The card (YtgljacciacbggaaDoorCards.lean) ties it to the program's text. -/
def laid_sheave_chacha_head {H : Type} : DataW H := .agg [.lit (.int .u32 1634760805), .lit (.int .u32 857760878), .lit (.int .u32 2036477234), .lit (.int .u32 1797285236)]
def laid_sheave_chacha_round {H : Type} : DataW H := .agg [.agg [.lit (.int .i64 0), .lit (.int .i64 4), .lit (.int .i64 8), .lit (.int .i64 12)], .agg [.lit (.int .i64 1), .lit (.int .i64 5), .lit (.int .i64 9), .lit (.int .i64 13)], .agg [.lit (.int .i64 2), .lit (.int .i64 6), .lit (.int .i64 10), .lit (.int .i64 14)], .agg [.lit (.int .i64 3), .lit (.int .i64 7), .lit (.int .i64 11), .lit (.int .i64 15)], .agg [.lit (.int .i64 0), .lit (.int .i64 5), .lit (.int .i64 10), .lit (.int .i64 15)], .agg [.lit (.int .i64 1), .lit (.int .i64 6), .lit (.int .i64 11), .lit (.int .i64 12)], .agg [.lit (.int .i64 2), .lit (.int .i64 7), .lit (.int .i64 8), .lit (.int .i64 13)], .agg [.lit (.int .i64 3), .lit (.int .i64 4), .lit (.int .i64 9), .lit (.int .i64 14)]]

/-- 'sheavelaw04.ChachaQuarters': WHATEVER THE INPUT: true; the input reads as it did. -/
def chachaQuartersSpec : ChangeSpec := { name := "chachaQuarters", fn := fun _ => fun
  | [d] => { results := [.lit (.bool true)], args := [d] }
  | _ => none }
def chachaQuartersRow : OpenClaim := { program := "ytgljacciacbggaadoor", sum := "ee0cea847a1a2bee712258b15bb26437e1242040534f4f7aa620c7ed63dbc821", func := "sheave/sheavelaw04.ChachaQuarters", spec := "chachaQuarters", named := ["sheave/chacha.head", "sheave/chacha.round"], apart := false, laid := [("sheave/chacha.head", laid_sheave_chacha_head), ("sheave/chacha.round", laid_sheave_chacha_round)] }
def ChachaQuartersSaid : Prop := chachaQuartersRow.holds Tryd.pinned (OpenSpec.ofChange chachaQuartersSpec)

/-- ITS FALSE NEIGHBOUR: 'it returns false'. Refute it at one input. -/
def chachaQuartersWrong : ChangeSpec := { name := "chachaQuarters", fn := fun _ => fun
  | [d] => { results := [.lit (.bool false)], args := [d] }
  | _ => none }
def ChachaQuartersWrongFalsely : Prop := chachaQuartersRow.holds Tryd.pinned (OpenSpec.ofChange chachaQuartersWrong)

/-- 'sheavelaw04.ChachaBlocks': WHATEVER THE INPUT: true; the input reads as it did. -/
def chachaBlocksSpec : ChangeSpec := { name := "chachaBlocks", fn := fun _ => fun
  | [d1, d2, d3] => { results := [.lit (.bool true)], args := [d1, d2, d3] }
  | _ => none }
def chachaBlocksRow : OpenClaim := { program := "ytgljacciacbggaadoor", sum := "ee0cea847a1a2bee712258b15bb26437e1242040534f4f7aa620c7ed63dbc821", func := "sheave/sheavelaw04.ChachaBlocks", spec := "chachaBlocks", named := ["sheave/chacha.head", "sheave/chacha.round"], apart := false, laid := [("sheave/chacha.head", laid_sheave_chacha_head), ("sheave/chacha.round", laid_sheave_chacha_round)] }
def ChachaBlocksSaid : Prop := chachaBlocksRow.holds Tryd.pinned (OpenSpec.ofChange chachaBlocksSpec)

/-- ITS FALSE NEIGHBOUR: 'it returns false'. Refute it at one input. -/
def chachaBlocksWrong : ChangeSpec := { name := "chachaBlocks", fn := fun _ => fun
  | [d1, d2, d3] => { results := [.lit (.bool false)], args := [d1, d2, d3] }
  | _ => none }
def ChachaBlocksWrongFalsely : Prop := chachaBlocksRow.holds Tryd.pinned (OpenSpec.ofChange chachaBlocksWrong)

/-- 'sheavelaw04.ChachaXors': WHATEVER THE INPUT: true; the input reads as it did. -/
def chachaXorsSpec : ChangeSpec := { name := "chachaXors", fn := fun _ => fun
  | [d1, d2] => { results := [.lit (.bool true)], args := [d1, d2] }
  | _ => none }
def chachaXorsRow : OpenClaim := { program := "ytgljacciacbggaadoor", sum := "ee0cea847a1a2bee712258b15bb26437e1242040534f4f7aa620c7ed63dbc821", func := "sheave/sheavelaw04.ChachaXors", spec := "chachaXors", named := ["sheave/chacha.head", "sheave/chacha.round"], apart := false, laid := [("sheave/chacha.head", laid_sheave_chacha_head), ("sheave/chacha.round", laid_sheave_chacha_round)] }
def ChachaXorsSaid : Prop := chachaXorsRow.holds Tryd.pinned (OpenSpec.ofChange chachaXorsSpec)

/-- ITS FALSE NEIGHBOUR: 'it returns false'. Refute it at one input. -/
def chachaXorsWrong : ChangeSpec := { name := "chachaXors", fn := fun _ => fun
  | [d1, d2] => { results := [.lit (.bool false)], args := [d1, d2] }
  | _ => none }
def ChachaXorsWrongFalsely : Prop := chachaXorsRow.holds Tryd.pinned (OpenSpec.ofChange chachaXorsWrong)

/-- 'sheavelaw04.ChachaTwice': WHATEVER THE INPUT: true; the input reads as it did. -/
def chachaTwiceSpec : ChangeSpec := { name := "chachaTwice", fn := fun _ => fun
  | [d1, d2, d3] => { results := [.lit (.bool true)], args := [d1, d2, d3] }
  | _ => none }
def chachaTwiceRow : OpenClaim := { program := "ytgljacciacbggaadoor", sum := "ee0cea847a1a2bee712258b15bb26437e1242040534f4f7aa620c7ed63dbc821", func := "sheave/sheavelaw04.ChachaTwice", spec := "chachaTwice", named := ["sheave/chacha.head", "sheave/chacha.round"], apart := false, laid := [("sheave/chacha.head", laid_sheave_chacha_head), ("sheave/chacha.round", laid_sheave_chacha_round)] }
def ChachaTwiceSaid : Prop := chachaTwiceRow.holds Tryd.pinned (OpenSpec.ofChange chachaTwiceSpec)

/-- ITS FALSE NEIGHBOUR: 'it returns false'. Refute it at one input. -/
def chachaTwiceWrong : ChangeSpec := { name := "chachaTwice", fn := fun _ => fun
  | [d1, d2, d3] => { results := [.lit (.bool false)], args := [d1, d2, d3] }
  | _ => none }
def ChachaTwiceWrongFalsely : Prop := chachaTwiceRow.holds Tryd.pinned (OpenSpec.ofChange chachaTwiceWrong)

/-- 'sheavelaw04.ChachaNext': WHATEVER THE INPUT: true; the input reads as it did. -/
def chachaNextSpec : ChangeSpec := { name := "chachaNext", fn := fun _ => fun
  | [d1, d2] => { results := [.lit (.bool true)], args := [d1, d2] }
  | _ => none }
def chachaNextRow : OpenClaim := { program := "ytgljacciacbggaadoor", sum := "ee0cea847a1a2bee712258b15bb26437e1242040534f4f7aa620c7ed63dbc821", func := "sheave/sheavelaw04.ChachaNext", spec := "chachaNext", named := ["sheave/chacha.head", "sheave/chacha.round"], apart := false, laid := [("sheave/chacha.head", laid_sheave_chacha_head), ("sheave/chacha.round", laid_sheave_chacha_round)] }
def ChachaNextSaid : Prop := chachaNextRow.holds Tryd.pinned (OpenSpec.ofChange chachaNextSpec)

/-- ITS FALSE NEIGHBOUR: 'it returns false'. Refute it at one input. -/
def chachaNextWrong : ChangeSpec := { name := "chachaNext", fn := fun _ => fun
  | [d1, d2] => { results := [.lit (.bool false)], args := [d1, d2] }
  | _ => none }
def ChachaNextWrongFalsely : Prop := chachaNextRow.holds Tryd.pinned (OpenSpec.ofChange chachaNextWrong)

/-- 'sheavelaw04.ChachaNoughts': WHATEVER THE INPUT: true; the input reads as it did. -/
def chachaNoughtsSpec : ChangeSpec := { name := "chachaNoughts", fn := fun _ => fun
  | [d] => { results := [.lit (.bool true)], args := [d] }
  | _ => none }
def chachaNoughtsRow : OpenClaim := { program := "ytgljacciacbggaadoor", sum := "ee0cea847a1a2bee712258b15bb26437e1242040534f4f7aa620c7ed63dbc821", func := "sheave/sheavelaw04.ChachaNoughts", spec := "chachaNoughts", named := ["sheave/chacha.head", "sheave/chacha.round"], apart := false, laid := [("sheave/chacha.head", laid_sheave_chacha_head), ("sheave/chacha.round", laid_sheave_chacha_round)] }
def ChachaNoughtsSaid : Prop := chachaNoughtsRow.holds Tryd.pinned (OpenSpec.ofChange chachaNoughtsSpec)

/-- ITS FALSE NEIGHBOUR: 'it returns false'. Refute it at one input. -/
def chachaNoughtsWrong : ChangeSpec := { name := "chachaNoughts", fn := fun _ => fun
  | [d] => { results := [.lit (.bool false)], args := [d] }
  | _ => none }
def ChachaNoughtsWrongFalsely : Prop := chachaNoughtsRow.holds Tryd.pinned (OpenSpec.ofChange chachaNoughtsWrong)

/- THE SECOND FORM. 'bulk': how many values and letters a reading holds, each counted each time it is reached (what is shared counts as often as it is met; a slice's spare places count too). A statement '..UptoSaid' is the law's where the arguments, and the package variables that the reading takes, are together of bulk at most 1048576: NARROWER than '..Said'. Prove '..Said' where nothing that the law and all that it calls make is longer than what came in: it says more and counts as full. Else prove '..UptoSaid'. A law counts once. -/
mutual
def uptoBulk {H : Type} : DataW H → Nat
  | .lit (.string bytes) => bytes.length + 1
  | .lit _ => 1
  | .nil => 1
  | .ptr d => uptoBulk d + 1
  | .slice elems spare => uptoBulkAll elems + uptoBulkAll spare + 1
  | .agg parts => uptoBulkAll parts + 1
  | .iface _ d => uptoBulk d + 1
  | .map entries => uptoBulkEntries entries + 1
  | .held _ => 1
def uptoBulkAll {H : Type} : List (DataW H) → Nat
  | [] => 0
  | d :: r => uptoBulk d + uptoBulkAll r
def uptoBulkEntries {H : Type} : List (Lit × DataW H) → Nat
  | [] => 0
  | x :: r => uptoBulkEntry x + uptoBulkEntries r
def uptoBulkEntry {H : Type} : Lit × DataW H → Nat
  | (.string bytes, d) => bytes.length + uptoBulk d + 1
  | (_, d) => uptoBulk d + 1
 end
def uptoSmall : (H : Type) → List (DataW H) → Bool := fun _ ds => decide (uptoBulkAll ds ≤ 1048576)
def OpenSpec.upto (s : _root_.Go.ChangeSpec) : _root_.Go.OpenSpec := { _root_.Go.OpenSpec.ofChange s with cond := some uptoSmall }

/-- 'sheavelaw04.ChachaQuarters', WHERE WHAT IT READS IS OF BULK AT MOST 1048576: true; the input reads as it did. -/
def chachaQuartersUptoRow : OpenClaim := { program := "ytgljacciacbggaadoor", sum := "ee0cea847a1a2bee712258b15bb26437e1242040534f4f7aa620c7ed63dbc821", func := "sheave/sheavelaw04.ChachaQuarters", spec := "chachaQuarters", named := ["sheave/chacha.head", "sheave/chacha.round"], apart := false, laid := [("sheave/chacha.head", laid_sheave_chacha_head), ("sheave/chacha.round", laid_sheave_chacha_round)], narrowed := true }
def ChachaQuartersUptoSaid : Prop := chachaQuartersUptoRow.holds Tryd.pinned (OpenSpec.upto chachaQuartersSpec)

/-- 'sheavelaw04.ChachaBlocks', WHERE WHAT IT READS IS OF BULK AT MOST 1048576: true; the input reads as it did. -/
def chachaBlocksUptoRow : OpenClaim := { program := "ytgljacciacbggaadoor", sum := "ee0cea847a1a2bee712258b15bb26437e1242040534f4f7aa620c7ed63dbc821", func := "sheave/sheavelaw04.ChachaBlocks", spec := "chachaBlocks", named := ["sheave/chacha.head", "sheave/chacha.round"], apart := false, laid := [("sheave/chacha.head", laid_sheave_chacha_head), ("sheave/chacha.round", laid_sheave_chacha_round)], narrowed := true }
def ChachaBlocksUptoSaid : Prop := chachaBlocksUptoRow.holds Tryd.pinned (OpenSpec.upto chachaBlocksSpec)

/-- 'sheavelaw04.ChachaXors', WHERE WHAT IT READS IS OF BULK AT MOST 1048576: true; the input reads as it did. -/
def chachaXorsUptoRow : OpenClaim := { program := "ytgljacciacbggaadoor", sum := "ee0cea847a1a2bee712258b15bb26437e1242040534f4f7aa620c7ed63dbc821", func := "sheave/sheavelaw04.ChachaXors", spec := "chachaXors", named := ["sheave/chacha.head", "sheave/chacha.round"], apart := false, laid := [("sheave/chacha.head", laid_sheave_chacha_head), ("sheave/chacha.round", laid_sheave_chacha_round)], narrowed := true }
def ChachaXorsUptoSaid : Prop := chachaXorsUptoRow.holds Tryd.pinned (OpenSpec.upto chachaXorsSpec)

/-- 'sheavelaw04.ChachaTwice', WHERE WHAT IT READS IS OF BULK AT MOST 1048576: true; the input reads as it did. -/
def chachaTwiceUptoRow : OpenClaim := { program := "ytgljacciacbggaadoor", sum := "ee0cea847a1a2bee712258b15bb26437e1242040534f4f7aa620c7ed63dbc821", func := "sheave/sheavelaw04.ChachaTwice", spec := "chachaTwice", named := ["sheave/chacha.head", "sheave/chacha.round"], apart := false, laid := [("sheave/chacha.head", laid_sheave_chacha_head), ("sheave/chacha.round", laid_sheave_chacha_round)], narrowed := true }
def ChachaTwiceUptoSaid : Prop := chachaTwiceUptoRow.holds Tryd.pinned (OpenSpec.upto chachaTwiceSpec)

/-- 'sheavelaw04.ChachaNext', WHERE WHAT IT READS IS OF BULK AT MOST 1048576: true; the input reads as it did. -/
def chachaNextUptoRow : OpenClaim := { program := "ytgljacciacbggaadoor", sum := "ee0cea847a1a2bee712258b15bb26437e1242040534f4f7aa620c7ed63dbc821", func := "sheave/sheavelaw04.ChachaNext", spec := "chachaNext", named := ["sheave/chacha.head", "sheave/chacha.round"], apart := false, laid := [("sheave/chacha.head", laid_sheave_chacha_head), ("sheave/chacha.round", laid_sheave_chacha_round)], narrowed := true }
def ChachaNextUptoSaid : Prop := chachaNextUptoRow.holds Tryd.pinned (OpenSpec.upto chachaNextSpec)

/-- 'sheavelaw04.ChachaNoughts', WHERE WHAT IT READS IS OF BULK AT MOST 1048576: true; the input reads as it did. -/
def chachaNoughtsUptoRow : OpenClaim := { program := "ytgljacciacbggaadoor", sum := "ee0cea847a1a2bee712258b15bb26437e1242040534f4f7aa620c7ed63dbc821", func := "sheave/sheavelaw04.ChachaNoughts", spec := "chachaNoughts", named := ["sheave/chacha.head", "sheave/chacha.round"], apart := false, laid := [("sheave/chacha.head", laid_sheave_chacha_head), ("sheave/chacha.round", laid_sheave_chacha_round)], narrowed := true }
def ChachaNoughtsUptoSaid : Prop := chachaNoughtsUptoRow.holds Tryd.pinned (OpenSpec.upto chachaNoughtsSpec)

end Rows
end Go.Proofs.YtgljacciacbggaaDoor
