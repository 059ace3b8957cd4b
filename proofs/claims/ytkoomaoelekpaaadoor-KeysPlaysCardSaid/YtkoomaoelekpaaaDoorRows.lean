/-
  NARROWER THAN 'FOR EVERY INPUT', by the rows' own cells (each row's printed sentence says how): BlakeSums: laid · BlakeHashes: laid · BlakeParts: laid · BlakeMacs: laid · BlakeNoughts: laid · BlakeMade: laid · KdfExpands: laid · KdfPrefixes: laid · KdfEpochs: laid · KdfExtracts: laid · KdfChains: laid · KdfSalts: laid · KeysStay: laid · KeysEnd: laid · KeysPlays: laid.
  DERIVED. THE GIVEN ROWS OF THIS SEAT. 15 by the template 'for every input the law returns true; each argument reads behind the call as it read before'; 0 by the template 'total and deterministic' (their statements: YtkoomaoelekpaaaDoorTotals.lean).
  GIVEN WITH THE SEED: the statements are not yours to turn. If you find one false, say at which input.
  Laid BY PROGRAM, IN A SANDBOX (cutbox-rows.mjs): the forced cells as the released guide's own fill.sh prints them over the translation 5430fb3cc04a5ffb… (all of the seat's roots in one cut). By AI agents, Wed Nov 11 2026. No macro, syntax, notation, axiom, sorry.
-/
import Derived.Test.YtkoomaoelekpaaaDoorChecked
import GoSem.Claim
import GoSem.ClaimJoined
import GoSem.ClaimMapViews
import Derived.JoinedTies
import Derived.KernelRfl
namespace Go.Proofs.YtkoomaoelekpaaaDoor
/- THE CELL 'sum', in the pinned program and in every row, IS THE sha256 OF THE DUMP (.gsa) THAT YtkoomaoelekpaaaDoorProg.lean LOADS. Nothing in Lean hashes anything: it is a label: what it is worth is what the hold of that sum in a sandbox is worth. -/
noncomputable def Tryd.pinned : Pinned := { name := "ytkoomaoelekpaaadoor", sum := "5430fb3cc04a5ffb9b6e22adbaa4f117718a0857cca14fb9a74a8d74c208d353", checked := Tryd.checked }
namespace Rows
def none {H : Type} : Left H := { results := [], args := [] }

/- WHAT THE LISTED PACKAGE-LEVEL VARIABLES READ AS WHEN THE CALL BEGINS. Each datum BY PROGRAM (the guide's laid-datum.mjs) off the statement by which the dump's own 'gosem.cut.vars' lays the variable. In a bare row this is a premise. The card (YtkoomaoelekpaaaDoorCards.lean) ties it to the program's text. -/
def laid_sheave_blake_start {H : Type} : DataW H := .agg [.lit (.int .u32 1779033703), .lit (.int .u32 3144134277), .lit (.int .u32 1013904242), .lit (.int .u32 2773480762), .lit (.int .u32 1359893119), .lit (.int .u32 2600822924), .lit (.int .u32 528734635), .lit (.int .u32 1541459225)]
def laid_sheave_blake_rows {H : Type} : DataW H := .agg [.agg [.lit (.int .u8 0), .lit (.int .u8 1), .lit (.int .u8 2), .lit (.int .u8 3), .lit (.int .u8 4), .lit (.int .u8 5), .lit (.int .u8 6), .lit (.int .u8 7), .lit (.int .u8 8), .lit (.int .u8 9), .lit (.int .u8 10), .lit (.int .u8 11), .lit (.int .u8 12), .lit (.int .u8 13), .lit (.int .u8 14), .lit (.int .u8 15)], .agg [.lit (.int .u8 14), .lit (.int .u8 10), .lit (.int .u8 4), .lit (.int .u8 8), .lit (.int .u8 9), .lit (.int .u8 15), .lit (.int .u8 13), .lit (.int .u8 6), .lit (.int .u8 1), .lit (.int .u8 12), .lit (.int .u8 0), .lit (.int .u8 2), .lit (.int .u8 11), .lit (.int .u8 7), .lit (.int .u8 5), .lit (.int .u8 3)], .agg [.lit (.int .u8 11), .lit (.int .u8 8), .lit (.int .u8 12), .lit (.int .u8 0), .lit (.int .u8 5), .lit (.int .u8 2), .lit (.int .u8 15), .lit (.int .u8 13), .lit (.int .u8 10), .lit (.int .u8 14), .lit (.int .u8 3), .lit (.int .u8 6), .lit (.int .u8 7), .lit (.int .u8 1), .lit (.int .u8 9), .lit (.int .u8 4)], .agg [.lit (.int .u8 7), .lit (.int .u8 9), .lit (.int .u8 3), .lit (.int .u8 1), .lit (.int .u8 13), .lit (.int .u8 12), .lit (.int .u8 11), .lit (.int .u8 14), .lit (.int .u8 2), .lit (.int .u8 6), .lit (.int .u8 5), .lit (.int .u8 10), .lit (.int .u8 4), .lit (.int .u8 0), .lit (.int .u8 15), .lit (.int .u8 8)], .agg [.lit (.int .u8 9), .lit (.int .u8 0), .lit (.int .u8 5), .lit (.int .u8 7), .lit (.int .u8 2), .lit (.int .u8 4), .lit (.int .u8 10), .lit (.int .u8 15), .lit (.int .u8 14), .lit (.int .u8 1), .lit (.int .u8 11), .lit (.int .u8 12), .lit (.int .u8 6), .lit (.int .u8 8), .lit (.int .u8 3), .lit (.int .u8 13)], .agg [.lit (.int .u8 2), .lit (.int .u8 12), .lit (.int .u8 6), .lit (.int .u8 10), .lit (.int .u8 0), .lit (.int .u8 11), .lit (.int .u8 8), .lit (.int .u8 3), .lit (.int .u8 4), .lit (.int .u8 13), .lit (.int .u8 7), .lit (.int .u8 5), .lit (.int .u8 15), .lit (.int .u8 14), .lit (.int .u8 1), .lit (.int .u8 9)], .agg [.lit (.int .u8 12), .lit (.int .u8 5), .lit (.int .u8 1), .lit (.int .u8 15), .lit (.int .u8 14), .lit (.int .u8 13), .lit (.int .u8 4), .lit (.int .u8 10), .lit (.int .u8 0), .lit (.int .u8 7), .lit (.int .u8 6), .lit (.int .u8 3), .lit (.int .u8 9), .lit (.int .u8 2), .lit (.int .u8 8), .lit (.int .u8 11)], .agg [.lit (.int .u8 13), .lit (.int .u8 11), .lit (.int .u8 7), .lit (.int .u8 14), .lit (.int .u8 12), .lit (.int .u8 1), .lit (.int .u8 3), .lit (.int .u8 9), .lit (.int .u8 5), .lit (.int .u8 0), .lit (.int .u8 15), .lit (.int .u8 4), .lit (.int .u8 8), .lit (.int .u8 6), .lit (.int .u8 2), .lit (.int .u8 10)], .agg [.lit (.int .u8 6), .lit (.int .u8 15), .lit (.int .u8 14), .lit (.int .u8 9), .lit (.int .u8 11), .lit (.int .u8 3), .lit (.int .u8 0), .lit (.int .u8 8), .lit (.int .u8 12), .lit (.int .u8 2), .lit (.int .u8 13), .lit (.int .u8 7), .lit (.int .u8 1), .lit (.int .u8 4), .lit (.int .u8 10), .lit (.int .u8 5)], .agg [.lit (.int .u8 10), .lit (.int .u8 2), .lit (.int .u8 8), .lit (.int .u8 4), .lit (.int .u8 7), .lit (.int .u8 6), .lit (.int .u8 1), .lit (.int .u8 5), .lit (.int .u8 15), .lit (.int .u8 11), .lit (.int .u8 9), .lit (.int .u8 14), .lit (.int .u8 3), .lit (.int .u8 12), .lit (.int .u8 13), .lit (.int .u8 0)]]
def laid_sheave_blake_places {H : Type} : DataW H := .agg [.agg [.lit (.int .u8 0), .lit (.int .u8 4), .lit (.int .u8 8), .lit (.int .u8 12)], .agg [.lit (.int .u8 1), .lit (.int .u8 5), .lit (.int .u8 9), .lit (.int .u8 13)], .agg [.lit (.int .u8 2), .lit (.int .u8 6), .lit (.int .u8 10), .lit (.int .u8 14)], .agg [.lit (.int .u8 3), .lit (.int .u8 7), .lit (.int .u8 11), .lit (.int .u8 15)], .agg [.lit (.int .u8 0), .lit (.int .u8 5), .lit (.int .u8 10), .lit (.int .u8 15)], .agg [.lit (.int .u8 1), .lit (.int .u8 6), .lit (.int .u8 11), .lit (.int .u8 12)], .agg [.lit (.int .u8 2), .lit (.int .u8 7), .lit (.int .u8 8), .lit (.int .u8 13)], .agg [.lit (.int .u8 3), .lit (.int .u8 4), .lit (.int .u8 9), .lit (.int .u8 14)]]

/-- 'sheavelaw06.BlakeSums': WHATEVER THE INPUT: true; the input reads as it did. -/
def blakeSumsSpec : ChangeSpec := { name := "blakeSums", fn := fun _ => fun
  | [d1, d2, d3] => { results := [.lit (.bool true)], args := [d1, d2, d3] }
  | _ => none }
def blakeSumsRow : OpenClaim := { program := "ytkoomaoelekpaaadoor", sum := "5430fb3cc04a5ffb9b6e22adbaa4f117718a0857cca14fb9a74a8d74c208d353", func := "sheave/sheavelaw06.BlakeSums", spec := "blakeSums", named := ["sheave/blake.start", "sheave/blake.rows", "sheave/blake.places"], apart := false, laid := [("sheave/blake.start", laid_sheave_blake_start), ("sheave/blake.rows", laid_sheave_blake_rows), ("sheave/blake.places", laid_sheave_blake_places)] }
def BlakeSumsSaid : Prop := blakeSumsRow.holds Tryd.pinned (OpenSpec.ofChange blakeSumsSpec)

/-- ITS FALSE NEIGHBOUR: 'it returns false'. Refute it at one input. -/
def blakeSumsWrong : ChangeSpec := { name := "blakeSums", fn := fun _ => fun
  | [d1, d2, d3] => { results := [.lit (.bool false)], args := [d1, d2, d3] }
  | _ => none }
def BlakeSumsWrongFalsely : Prop := blakeSumsRow.holds Tryd.pinned (OpenSpec.ofChange blakeSumsWrong)

/-- 'sheavelaw06.BlakeHashes': WHATEVER THE INPUT: true; the input reads as it did. -/
def blakeHashesSpec : ChangeSpec := { name := "blakeHashes", fn := fun _ => fun
  | [d] => { results := [.lit (.bool true)], args := [d] }
  | _ => none }
def blakeHashesRow : OpenClaim := { program := "ytkoomaoelekpaaadoor", sum := "5430fb3cc04a5ffb9b6e22adbaa4f117718a0857cca14fb9a74a8d74c208d353", func := "sheave/sheavelaw06.BlakeHashes", spec := "blakeHashes", named := ["sheave/blake.start", "sheave/blake.rows", "sheave/blake.places"], apart := false, laid := [("sheave/blake.start", laid_sheave_blake_start), ("sheave/blake.rows", laid_sheave_blake_rows), ("sheave/blake.places", laid_sheave_blake_places)] }
def BlakeHashesSaid : Prop := blakeHashesRow.holds Tryd.pinned (OpenSpec.ofChange blakeHashesSpec)

/-- ITS FALSE NEIGHBOUR: 'it returns false'. Refute it at one input. -/
def blakeHashesWrong : ChangeSpec := { name := "blakeHashes", fn := fun _ => fun
  | [d] => { results := [.lit (.bool false)], args := [d] }
  | _ => none }
def BlakeHashesWrongFalsely : Prop := blakeHashesRow.holds Tryd.pinned (OpenSpec.ofChange blakeHashesWrong)

/-- 'sheavelaw06.BlakeParts': WHATEVER THE INPUT: true; the input reads as it did. -/
def blakePartsSpec : ChangeSpec := { name := "blakeParts", fn := fun _ => fun
  | [d1, d2] => { results := [.lit (.bool true)], args := [d1, d2] }
  | _ => none }
def blakePartsRow : OpenClaim := { program := "ytkoomaoelekpaaadoor", sum := "5430fb3cc04a5ffb9b6e22adbaa4f117718a0857cca14fb9a74a8d74c208d353", func := "sheave/sheavelaw06.BlakeParts", spec := "blakeParts", named := ["sheave/blake.start", "sheave/blake.rows", "sheave/blake.places"], apart := false, laid := [("sheave/blake.start", laid_sheave_blake_start), ("sheave/blake.rows", laid_sheave_blake_rows), ("sheave/blake.places", laid_sheave_blake_places)] }
def BlakePartsSaid : Prop := blakePartsRow.holds Tryd.pinned (OpenSpec.ofChange blakePartsSpec)

/-- ITS FALSE NEIGHBOUR: 'it returns false'. Refute it at one input. -/
def blakePartsWrong : ChangeSpec := { name := "blakeParts", fn := fun _ => fun
  | [d1, d2] => { results := [.lit (.bool false)], args := [d1, d2] }
  | _ => none }
def BlakePartsWrongFalsely : Prop := blakePartsRow.holds Tryd.pinned (OpenSpec.ofChange blakePartsWrong)

/-- 'sheavelaw06.BlakeMacs': WHATEVER THE INPUT: true; the input reads as it did. -/
def blakeMacsSpec : ChangeSpec := { name := "blakeMacs", fn := fun _ => fun
  | [d1, d2] => { results := [.lit (.bool true)], args := [d1, d2] }
  | _ => none }
def blakeMacsRow : OpenClaim := { program := "ytkoomaoelekpaaadoor", sum := "5430fb3cc04a5ffb9b6e22adbaa4f117718a0857cca14fb9a74a8d74c208d353", func := "sheave/sheavelaw06.BlakeMacs", spec := "blakeMacs", named := ["sheave/blake.start", "sheave/blake.rows", "sheave/blake.places"], apart := false, laid := [("sheave/blake.start", laid_sheave_blake_start), ("sheave/blake.rows", laid_sheave_blake_rows), ("sheave/blake.places", laid_sheave_blake_places)] }
def BlakeMacsSaid : Prop := blakeMacsRow.holds Tryd.pinned (OpenSpec.ofChange blakeMacsSpec)

/-- ITS FALSE NEIGHBOUR: 'it returns false'. Refute it at one input. -/
def blakeMacsWrong : ChangeSpec := { name := "blakeMacs", fn := fun _ => fun
  | [d1, d2] => { results := [.lit (.bool false)], args := [d1, d2] }
  | _ => none }
def BlakeMacsWrongFalsely : Prop := blakeMacsRow.holds Tryd.pinned (OpenSpec.ofChange blakeMacsWrong)

/-- 'sheavelaw06.BlakeNoughts': WHATEVER THE INPUT: true; the input reads as it did. -/
def blakeNoughtsSpec : ChangeSpec := { name := "blakeNoughts", fn := fun _ => fun
  | [d1, d2, d3] => { results := [.lit (.bool true)], args := [d1, d2, d3] }
  | _ => none }
def blakeNoughtsRow : OpenClaim := { program := "ytkoomaoelekpaaadoor", sum := "5430fb3cc04a5ffb9b6e22adbaa4f117718a0857cca14fb9a74a8d74c208d353", func := "sheave/sheavelaw06.BlakeNoughts", spec := "blakeNoughts", named := ["sheave/blake.start", "sheave/blake.rows", "sheave/blake.places"], apart := false, laid := [("sheave/blake.start", laid_sheave_blake_start), ("sheave/blake.rows", laid_sheave_blake_rows), ("sheave/blake.places", laid_sheave_blake_places)] }
def BlakeNoughtsSaid : Prop := blakeNoughtsRow.holds Tryd.pinned (OpenSpec.ofChange blakeNoughtsSpec)

/-- ITS FALSE NEIGHBOUR: 'it returns false'. Refute it at one input. -/
def blakeNoughtsWrong : ChangeSpec := { name := "blakeNoughts", fn := fun _ => fun
  | [d1, d2, d3] => { results := [.lit (.bool false)], args := [d1, d2, d3] }
  | _ => none }
def BlakeNoughtsWrongFalsely : Prop := blakeNoughtsRow.holds Tryd.pinned (OpenSpec.ofChange blakeNoughtsWrong)

/-- 'sheavelaw06.BlakeMade': WHATEVER THE INPUT: true; the input reads as it did. -/
def blakeMadeSpec : ChangeSpec := { name := "blakeMade", fn := fun _ => fun
  | [d1, d2] => { results := [.lit (.bool true)], args := [d1, d2] }
  | _ => none }
def blakeMadeRow : OpenClaim := { program := "ytkoomaoelekpaaadoor", sum := "5430fb3cc04a5ffb9b6e22adbaa4f117718a0857cca14fb9a74a8d74c208d353", func := "sheave/sheavelaw06.BlakeMade", spec := "blakeMade", named := ["sheave/blake.start", "sheave/blake.rows", "sheave/blake.places"], apart := false, laid := [("sheave/blake.start", laid_sheave_blake_start), ("sheave/blake.rows", laid_sheave_blake_rows), ("sheave/blake.places", laid_sheave_blake_places)] }
def BlakeMadeSaid : Prop := blakeMadeRow.holds Tryd.pinned (OpenSpec.ofChange blakeMadeSpec)

/-- ITS FALSE NEIGHBOUR: 'it returns false'. Refute it at one input. -/
def blakeMadeWrong : ChangeSpec := { name := "blakeMade", fn := fun _ => fun
  | [d1, d2] => { results := [.lit (.bool false)], args := [d1, d2] }
  | _ => none }
def BlakeMadeWrongFalsely : Prop := blakeMadeRow.holds Tryd.pinned (OpenSpec.ofChange blakeMadeWrong)

/-- 'sheavelaw08.KdfExpands': WHATEVER THE INPUT: true; the input reads as it did. -/
def kdfExpandsSpec : ChangeSpec := { name := "kdfExpands", fn := fun _ => fun
  | [d1, d2, d3] => { results := [.lit (.bool true)], args := [d1, d2, d3] }
  | _ => none }
def kdfExpandsRow : OpenClaim := { program := "ytkoomaoelekpaaadoor", sum := "5430fb3cc04a5ffb9b6e22adbaa4f117718a0857cca14fb9a74a8d74c208d353", func := "sheave/sheavelaw08.KdfExpands", spec := "kdfExpands", named := ["sheave/blake.start", "sheave/blake.rows", "sheave/blake.places"], apart := false, laid := [("sheave/blake.start", laid_sheave_blake_start), ("sheave/blake.rows", laid_sheave_blake_rows), ("sheave/blake.places", laid_sheave_blake_places)] }
def KdfExpandsSaid : Prop := kdfExpandsRow.holds Tryd.pinned (OpenSpec.ofChange kdfExpandsSpec)

/-- ITS FALSE NEIGHBOUR: 'it returns false'. Refute it at one input. -/
def kdfExpandsWrong : ChangeSpec := { name := "kdfExpands", fn := fun _ => fun
  | [d1, d2, d3] => { results := [.lit (.bool false)], args := [d1, d2, d3] }
  | _ => none }
def KdfExpandsWrongFalsely : Prop := kdfExpandsRow.holds Tryd.pinned (OpenSpec.ofChange kdfExpandsWrong)

/-- 'sheavelaw08.KdfPrefixes': WHATEVER THE INPUT: true; the input reads as it did. -/
def kdfPrefixesSpec : ChangeSpec := { name := "kdfPrefixes", fn := fun _ => fun
  | [d1, d2, d3] => { results := [.lit (.bool true)], args := [d1, d2, d3] }
  | _ => none }
def kdfPrefixesRow : OpenClaim := { program := "ytkoomaoelekpaaadoor", sum := "5430fb3cc04a5ffb9b6e22adbaa4f117718a0857cca14fb9a74a8d74c208d353", func := "sheave/sheavelaw08.KdfPrefixes", spec := "kdfPrefixes", named := ["sheave/blake.start", "sheave/blake.rows", "sheave/blake.places"], apart := false, laid := [("sheave/blake.start", laid_sheave_blake_start), ("sheave/blake.rows", laid_sheave_blake_rows), ("sheave/blake.places", laid_sheave_blake_places)] }
def KdfPrefixesSaid : Prop := kdfPrefixesRow.holds Tryd.pinned (OpenSpec.ofChange kdfPrefixesSpec)

/-- ITS FALSE NEIGHBOUR: 'it returns false'. Refute it at one input. -/
def kdfPrefixesWrong : ChangeSpec := { name := "kdfPrefixes", fn := fun _ => fun
  | [d1, d2, d3] => { results := [.lit (.bool false)], args := [d1, d2, d3] }
  | _ => none }
def KdfPrefixesWrongFalsely : Prop := kdfPrefixesRow.holds Tryd.pinned (OpenSpec.ofChange kdfPrefixesWrong)

/-- 'sheavelaw08.KdfEpochs': WHATEVER THE INPUT: true; the input reads as it did. -/
def kdfEpochsSpec : ChangeSpec := { name := "kdfEpochs", fn := fun _ => fun
  | [d] => { results := [.lit (.bool true)], args := [d] }
  | _ => none }
def kdfEpochsRow : OpenClaim := { program := "ytkoomaoelekpaaadoor", sum := "5430fb3cc04a5ffb9b6e22adbaa4f117718a0857cca14fb9a74a8d74c208d353", func := "sheave/sheavelaw08.KdfEpochs", spec := "kdfEpochs", named := ["sheave/blake.start", "sheave/blake.rows", "sheave/blake.places"], apart := false, laid := [("sheave/blake.start", laid_sheave_blake_start), ("sheave/blake.rows", laid_sheave_blake_rows), ("sheave/blake.places", laid_sheave_blake_places)] }
def KdfEpochsSaid : Prop := kdfEpochsRow.holds Tryd.pinned (OpenSpec.ofChange kdfEpochsSpec)

/-- ITS FALSE NEIGHBOUR: 'it returns false'. Refute it at one input. -/
def kdfEpochsWrong : ChangeSpec := { name := "kdfEpochs", fn := fun _ => fun
  | [d] => { results := [.lit (.bool false)], args := [d] }
  | _ => none }
def KdfEpochsWrongFalsely : Prop := kdfEpochsRow.holds Tryd.pinned (OpenSpec.ofChange kdfEpochsWrong)

/-- 'sheavelaw08.KdfExtracts': WHATEVER THE INPUT: true; the input reads as it did. -/
def kdfExtractsSpec : ChangeSpec := { name := "kdfExtracts", fn := fun _ => fun
  | [d1, d2] => { results := [.lit (.bool true)], args := [d1, d2] }
  | _ => none }
def kdfExtractsRow : OpenClaim := { program := "ytkoomaoelekpaaadoor", sum := "5430fb3cc04a5ffb9b6e22adbaa4f117718a0857cca14fb9a74a8d74c208d353", func := "sheave/sheavelaw08.KdfExtracts", spec := "kdfExtracts", named := ["sheave/blake.start", "sheave/blake.rows", "sheave/blake.places"], apart := false, laid := [("sheave/blake.start", laid_sheave_blake_start), ("sheave/blake.rows", laid_sheave_blake_rows), ("sheave/blake.places", laid_sheave_blake_places)] }
def KdfExtractsSaid : Prop := kdfExtractsRow.holds Tryd.pinned (OpenSpec.ofChange kdfExtractsSpec)

/-- ITS FALSE NEIGHBOUR: 'it returns false'. Refute it at one input. -/
def kdfExtractsWrong : ChangeSpec := { name := "kdfExtracts", fn := fun _ => fun
  | [d1, d2] => { results := [.lit (.bool false)], args := [d1, d2] }
  | _ => none }
def KdfExtractsWrongFalsely : Prop := kdfExtractsRow.holds Tryd.pinned (OpenSpec.ofChange kdfExtractsWrong)

/-- 'sheavelaw08.KdfChains': WHATEVER THE INPUT: true; the input reads as it did. -/
def kdfChainsSpec : ChangeSpec := { name := "kdfChains", fn := fun _ => fun
  | [d1, d2] => { results := [.lit (.bool true)], args := [d1, d2] }
  | _ => none }
def kdfChainsRow : OpenClaim := { program := "ytkoomaoelekpaaadoor", sum := "5430fb3cc04a5ffb9b6e22adbaa4f117718a0857cca14fb9a74a8d74c208d353", func := "sheave/sheavelaw08.KdfChains", spec := "kdfChains", named := ["sheave/blake.start", "sheave/blake.rows", "sheave/blake.places"], apart := false, laid := [("sheave/blake.start", laid_sheave_blake_start), ("sheave/blake.rows", laid_sheave_blake_rows), ("sheave/blake.places", laid_sheave_blake_places)] }
def KdfChainsSaid : Prop := kdfChainsRow.holds Tryd.pinned (OpenSpec.ofChange kdfChainsSpec)

/-- ITS FALSE NEIGHBOUR: 'it returns false'. Refute it at one input. -/
def kdfChainsWrong : ChangeSpec := { name := "kdfChains", fn := fun _ => fun
  | [d1, d2] => { results := [.lit (.bool false)], args := [d1, d2] }
  | _ => none }
def KdfChainsWrongFalsely : Prop := kdfChainsRow.holds Tryd.pinned (OpenSpec.ofChange kdfChainsWrong)

/-- 'sheavelaw08.KdfSalts': WHATEVER THE INPUT: true; the input reads as it did. -/
def kdfSaltsSpec : ChangeSpec := { name := "kdfSalts", fn := fun _ => fun
  | [d1, d2] => { results := [.lit (.bool true)], args := [d1, d2] }
  | _ => none }
def kdfSaltsRow : OpenClaim := { program := "ytkoomaoelekpaaadoor", sum := "5430fb3cc04a5ffb9b6e22adbaa4f117718a0857cca14fb9a74a8d74c208d353", func := "sheave/sheavelaw08.KdfSalts", spec := "kdfSalts", named := ["sheave/blake.start", "sheave/blake.rows", "sheave/blake.places"], apart := false, laid := [("sheave/blake.start", laid_sheave_blake_start), ("sheave/blake.rows", laid_sheave_blake_rows), ("sheave/blake.places", laid_sheave_blake_places)] }
def KdfSaltsSaid : Prop := kdfSaltsRow.holds Tryd.pinned (OpenSpec.ofChange kdfSaltsSpec)

/-- ITS FALSE NEIGHBOUR: 'it returns false'. Refute it at one input. -/
def kdfSaltsWrong : ChangeSpec := { name := "kdfSalts", fn := fun _ => fun
  | [d1, d2] => { results := [.lit (.bool false)], args := [d1, d2] }
  | _ => none }
def KdfSaltsWrongFalsely : Prop := kdfSaltsRow.holds Tryd.pinned (OpenSpec.ofChange kdfSaltsWrong)

/-- 'sheavelaw15.KeysStay': WHATEVER THE INPUT: true; the input reads as it did. -/
def keysStaySpec : ChangeSpec := { name := "keysStay", fn := fun _ => fun
  | [d1, d2] => { results := [.lit (.bool true)], args := [d1, d2] }
  | _ => none }
def keysStayRow : OpenClaim := { program := "ytkoomaoelekpaaadoor", sum := "5430fb3cc04a5ffb9b6e22adbaa4f117718a0857cca14fb9a74a8d74c208d353", func := "sheave/sheavelaw15.KeysStay", spec := "keysStay", named := ["sheave/blake.start", "sheave/blake.rows", "sheave/blake.places"], apart := false, laid := [("sheave/blake.start", laid_sheave_blake_start), ("sheave/blake.rows", laid_sheave_blake_rows), ("sheave/blake.places", laid_sheave_blake_places)] }
def KeysStaySaid : Prop := keysStayRow.holds Tryd.pinned (OpenSpec.ofChange keysStaySpec)

/-- ITS FALSE NEIGHBOUR: 'it returns false'. Refute it at one input. -/
def keysStayWrong : ChangeSpec := { name := "keysStay", fn := fun _ => fun
  | [d1, d2] => { results := [.lit (.bool false)], args := [d1, d2] }
  | _ => none }
def KeysStayWrongFalsely : Prop := keysStayRow.holds Tryd.pinned (OpenSpec.ofChange keysStayWrong)

/-- 'sheavelaw15.KeysEnd': WHATEVER THE INPUT: true; the input reads as it did. -/
def keysEndSpec : ChangeSpec := { name := "keysEnd", fn := fun _ => fun
  | [d1, d2, d3] => { results := [.lit (.bool true)], args := [d1, d2, d3] }
  | _ => none }
def keysEndRow : OpenClaim := { program := "ytkoomaoelekpaaadoor", sum := "5430fb3cc04a5ffb9b6e22adbaa4f117718a0857cca14fb9a74a8d74c208d353", func := "sheave/sheavelaw15.KeysEnd", spec := "keysEnd", named := ["sheave/blake.start", "sheave/blake.rows", "sheave/blake.places"], apart := false, laid := [("sheave/blake.start", laid_sheave_blake_start), ("sheave/blake.rows", laid_sheave_blake_rows), ("sheave/blake.places", laid_sheave_blake_places)] }
def KeysEndSaid : Prop := keysEndRow.holds Tryd.pinned (OpenSpec.ofChange keysEndSpec)

/-- ITS FALSE NEIGHBOUR: 'it returns false'. Refute it at one input. -/
def keysEndWrong : ChangeSpec := { name := "keysEnd", fn := fun _ => fun
  | [d1, d2, d3] => { results := [.lit (.bool false)], args := [d1, d2, d3] }
  | _ => none }
def KeysEndWrongFalsely : Prop := keysEndRow.holds Tryd.pinned (OpenSpec.ofChange keysEndWrong)

/-- 'sheavelaw15.KeysPlays': WHATEVER THE INPUT: true; the input reads as it did. -/
def keysPlaysSpec : ChangeSpec := { name := "keysPlays", fn := fun _ => fun
  | [d1, d2] => { results := [.lit (.bool true)], args := [d1, d2] }
  | _ => none }
def keysPlaysRow : OpenClaim := { program := "ytkoomaoelekpaaadoor", sum := "5430fb3cc04a5ffb9b6e22adbaa4f117718a0857cca14fb9a74a8d74c208d353", func := "sheave/sheavelaw15.KeysPlays", spec := "keysPlays", named := ["sheave/blake.start", "sheave/blake.rows", "sheave/blake.places"], apart := false, laid := [("sheave/blake.start", laid_sheave_blake_start), ("sheave/blake.rows", laid_sheave_blake_rows), ("sheave/blake.places", laid_sheave_blake_places)] }
def KeysPlaysSaid : Prop := keysPlaysRow.holds Tryd.pinned (OpenSpec.ofChange keysPlaysSpec)

/-- ITS FALSE NEIGHBOUR: 'it returns false'. Refute it at one input. -/
def keysPlaysWrong : ChangeSpec := { name := "keysPlays", fn := fun _ => fun
  | [d1, d2] => { results := [.lit (.bool false)], args := [d1, d2] }
  | _ => none }
def KeysPlaysWrongFalsely : Prop := keysPlaysRow.holds Tryd.pinned (OpenSpec.ofChange keysPlaysWrong)

/- THE SECOND FORM. 'bulk': how many values and letters a reading holds, each counted each time it is reached (what is shared counts as often as it is met; a slice's spare places count too). A statement '..UptoSaid' is the law's where the arguments, and the package variables that the reading takes, are together of bulk at most 1048576: NARROWER than '..Said'. Prove '..Said' where nothing that the law and all that it calls make is longer than what came in: it says more and counts as full. Else prove '..UptoSaid'. A law counts once. -/
mutual
def uptoBulk {H : Type} : DataW H → Nat
  | .lit (.string bytes) => bytes.length + 1
  | .lit _ => 1
  | .nil => 1
  | .ptr d => uptoBulk d + 1
  | .slice elems spare => uptoBulkAll elems + uptoBulkAll spare + 1
  | .agg parts => uptoBulkAll parts + 1
  | .iface _ d => uptoBulk d + 1
  | .map entries => uptoBulkEntries entries + 1
  | .held _ => 1
def uptoBulkAll {H : Type} : List (DataW H) → Nat
  | [] => 0
  | d :: r => uptoBulk d + uptoBulkAll r
def uptoBulkEntries {H : Type} : List (Lit × DataW H) → Nat
  | [] => 0
  | x :: r => uptoBulkEntry x + uptoBulkEntries r
def uptoBulkEntry {H : Type} : Lit × DataW H → Nat
  | (.string bytes, d) => bytes.length + uptoBulk d + 1
  | (_, d) => uptoBulk d + 1
 end
def uptoSmall : (H : Type) → List (DataW H) → Bool := fun _ ds => decide (uptoBulkAll ds ≤ 1048576)
def OpenSpec.upto (s : _root_.Go.ChangeSpec) : _root_.Go.OpenSpec := { _root_.Go.OpenSpec.ofChange s with cond := some uptoSmall }

/-- 'sheavelaw06.BlakeSums', WHERE WHAT IT READS IS OF BULK AT MOST 1048576: true; the input reads as it did. -/
def blakeSumsUptoRow : OpenClaim := { program := "ytkoomaoelekpaaadoor", sum := "5430fb3cc04a5ffb9b6e22adbaa4f117718a0857cca14fb9a74a8d74c208d353", func := "sheave/sheavelaw06.BlakeSums", spec := "blakeSums", named := ["sheave/blake.start", "sheave/blake.rows", "sheave/blake.places"], apart := false, laid := [("sheave/blake.start", laid_sheave_blake_start), ("sheave/blake.rows", laid_sheave_blake_rows), ("sheave/blake.places", laid_sheave_blake_places)], narrowed := true }
def BlakeSumsUptoSaid : Prop := blakeSumsUptoRow.holds Tryd.pinned (OpenSpec.upto blakeSumsSpec)

/-- 'sheavelaw06.BlakeHashes', WHERE WHAT IT READS IS OF BULK AT MOST 1048576: true; the input reads as it did. -/
def blakeHashesUptoRow : OpenClaim := { program := "ytkoomaoelekpaaadoor", sum := "5430fb3cc04a5ffb9b6e22adbaa4f117718a0857cca14fb9a74a8d74c208d353", func := "sheave/sheavelaw06.BlakeHashes", spec := "blakeHashes", named := ["sheave/blake.start", "sheave/blake.rows", "sheave/blake.places"], apart := false, laid := [("sheave/blake.start", laid_sheave_blake_start), ("sheave/blake.rows", laid_sheave_blake_rows), ("sheave/blake.places", laid_sheave_blake_places)], narrowed := true }
def BlakeHashesUptoSaid : Prop := blakeHashesUptoRow.holds Tryd.pinned (OpenSpec.upto blakeHashesSpec)

/-- 'sheavelaw06.BlakeParts', WHERE WHAT IT READS IS OF BULK AT MOST 1048576: true; the input reads as it did. -/
def blakePartsUptoRow : OpenClaim := { program := "ytkoomaoelekpaaadoor", sum := "5430fb3cc04a5ffb9b6e22adbaa4f117718a0857cca14fb9a74a8d74c208d353", func := "sheave/sheavelaw06.BlakeParts", spec := "blakeParts", named := ["sheave/blake.start", "sheave/blake.rows", "sheave/blake.places"], apart := false, laid := [("sheave/blake.start", laid_sheave_blake_start), ("sheave/blake.rows", laid_sheave_blake_rows), ("sheave/blake.places", laid_sheave_blake_places)], narrowed := true }
def BlakePartsUptoSaid : Prop := blakePartsUptoRow.holds Tryd.pinned (OpenSpec.upto blakePartsSpec)

/-- 'sheavelaw06.BlakeMacs', WHERE WHAT IT READS IS OF BULK AT MOST 1048576: true; the input reads as it did. -/
def blakeMacsUptoRow : OpenClaim := { program := "ytkoomaoelekpaaadoor", sum := "5430fb3cc04a5ffb9b6e22adbaa4f117718a0857cca14fb9a74a8d74c208d353", func := "sheave/sheavelaw06.BlakeMacs", spec := "blakeMacs", named := ["sheave/blake.start", "sheave/blake.rows", "sheave/blake.places"], apart := false, laid := [("sheave/blake.start", laid_sheave_blake_start), ("sheave/blake.rows", laid_sheave_blake_rows), ("sheave/blake.places", laid_sheave_blake_places)], narrowed := true }
def BlakeMacsUptoSaid : Prop := blakeMacsUptoRow.holds Tryd.pinned (OpenSpec.upto blakeMacsSpec)

/-- 'sheavelaw06.BlakeNoughts', WHERE WHAT IT READS IS OF BULK AT MOST 1048576: true; the input reads as it did. -/
def blakeNoughtsUptoRow : OpenClaim := { program := "ytkoomaoelekpaaadoor", sum := "5430fb3cc04a5ffb9b6e22adbaa4f117718a0857cca14fb9a74a8d74c208d353", func := "sheave/sheavelaw06.BlakeNoughts", spec := "blakeNoughts", named := ["sheave/blake.start", "sheave/blake.rows", "sheave/blake.places"], apart := false, laid := [("sheave/blake.start", laid_sheave_blake_start), ("sheave/blake.rows", laid_sheave_blake_rows), ("sheave/blake.places", laid_sheave_blake_places)], narrowed := true }
def BlakeNoughtsUptoSaid : Prop := blakeNoughtsUptoRow.holds Tryd.pinned (OpenSpec.upto blakeNoughtsSpec)

/-- 'sheavelaw06.BlakeMade', WHERE WHAT IT READS IS OF BULK AT MOST 1048576: true; the input reads as it did. -/
def blakeMadeUptoRow : OpenClaim := { program := "ytkoomaoelekpaaadoor", sum := "5430fb3cc04a5ffb9b6e22adbaa4f117718a0857cca14fb9a74a8d74c208d353", func := "sheave/sheavelaw06.BlakeMade", spec := "blakeMade", named := ["sheave/blake.start", "sheave/blake.rows", "sheave/blake.places"], apart := false, laid := [("sheave/blake.start", laid_sheave_blake_start), ("sheave/blake.rows", laid_sheave_blake_rows), ("sheave/blake.places", laid_sheave_blake_places)], narrowed := true }
def BlakeMadeUptoSaid : Prop := blakeMadeUptoRow.holds Tryd.pinned (OpenSpec.upto blakeMadeSpec)

/-- 'sheavelaw08.KdfExpands', WHERE WHAT IT READS IS OF BULK AT MOST 1048576: true; the input reads as it did. -/
def kdfExpandsUptoRow : OpenClaim := { program := "ytkoomaoelekpaaadoor", sum := "5430fb3cc04a5ffb9b6e22adbaa4f117718a0857cca14fb9a74a8d74c208d353", func := "sheave/sheavelaw08.KdfExpands", spec := "kdfExpands", named := ["sheave/blake.start", "sheave/blake.rows", "sheave/blake.places"], apart := false, laid := [("sheave/blake.start", laid_sheave_blake_start), ("sheave/blake.rows", laid_sheave_blake_rows), ("sheave/blake.places", laid_sheave_blake_places)], narrowed := true }
def KdfExpandsUptoSaid : Prop := kdfExpandsUptoRow.holds Tryd.pinned (OpenSpec.upto kdfExpandsSpec)

/-- 'sheavelaw08.KdfPrefixes', WHERE WHAT IT READS IS OF BULK AT MOST 1048576: true; the input reads as it did. -/
def kdfPrefixesUptoRow : OpenClaim := { program := "ytkoomaoelekpaaadoor", sum := "5430fb3cc04a5ffb9b6e22adbaa4f117718a0857cca14fb9a74a8d74c208d353", func := "sheave/sheavelaw08.KdfPrefixes", spec := "kdfPrefixes", named := ["sheave/blake.start", "sheave/blake.rows", "sheave/blake.places"], apart := false, laid := [("sheave/blake.start", laid_sheave_blake_start), ("sheave/blake.rows", laid_sheave_blake_rows), ("sheave/blake.places", laid_sheave_blake_places)], narrowed := true }
def KdfPrefixesUptoSaid : Prop := kdfPrefixesUptoRow.holds Tryd.pinned (OpenSpec.upto kdfPrefixesSpec)

/-- 'sheavelaw08.KdfEpochs', WHERE WHAT IT READS IS OF BULK AT MOST 1048576: true; the input reads as it did. -/
def kdfEpochsUptoRow : OpenClaim := { program := "ytkoomaoelekpaaadoor", sum := "5430fb3cc04a5ffb9b6e22adbaa4f117718a0857cca14fb9a74a8d74c208d353", func := "sheave/sheavelaw08.KdfEpochs", spec := "kdfEpochs", named := ["sheave/blake.start", "sheave/blake.rows", "sheave/blake.places"], apart := false, laid := [("sheave/blake.start", laid_sheave_blake_start), ("sheave/blake.rows", laid_sheave_blake_rows), ("sheave/blake.places", laid_sheave_blake_places)], narrowed := true }
def KdfEpochsUptoSaid : Prop := kdfEpochsUptoRow.holds Tryd.pinned (OpenSpec.upto kdfEpochsSpec)

/-- 'sheavelaw08.KdfExtracts', WHERE WHAT IT READS IS OF BULK AT MOST 1048576: true; the input reads as it did. -/
def kdfExtractsUptoRow : OpenClaim := { program := "ytkoomaoelekpaaadoor", sum := "5430fb3cc04a5ffb9b6e22adbaa4f117718a0857cca14fb9a74a8d74c208d353", func := "sheave/sheavelaw08.KdfExtracts", spec := "kdfExtracts", named := ["sheave/blake.start", "sheave/blake.rows", "sheave/blake.places"], apart := false, laid := [("sheave/blake.start", laid_sheave_blake_start), ("sheave/blake.rows", laid_sheave_blake_rows), ("sheave/blake.places", laid_sheave_blake_places)], narrowed := true }
def KdfExtractsUptoSaid : Prop := kdfExtractsUptoRow.holds Tryd.pinned (OpenSpec.upto kdfExtractsSpec)

/-- 'sheavelaw08.KdfChains', WHERE WHAT IT READS IS OF BULK AT MOST 1048576: true; the input reads as it did. -/
def kdfChainsUptoRow : OpenClaim := { program := "ytkoomaoelekpaaadoor", sum := "5430fb3cc04a5ffb9b6e22adbaa4f117718a0857cca14fb9a74a8d74c208d353", func := "sheave/sheavelaw08.KdfChains", spec := "kdfChains", named := ["sheave/blake.start", "sheave/blake.rows", "sheave/blake.places"], apart := false, laid := [("sheave/blake.start", laid_sheave_blake_start), ("sheave/blake.rows", laid_sheave_blake_rows), ("sheave/blake.places", laid_sheave_blake_places)], narrowed := true }
def KdfChainsUptoSaid : Prop := kdfChainsUptoRow.holds Tryd.pinned (OpenSpec.upto kdfChainsSpec)

/-- 'sheavelaw08.KdfSalts', WHERE WHAT IT READS IS OF BULK AT MOST 1048576: true; the input reads as it did. -/
def kdfSaltsUptoRow : OpenClaim := { program := "ytkoomaoelekpaaadoor", sum := "5430fb3cc04a5ffb9b6e22adbaa4f117718a0857cca14fb9a74a8d74c208d353", func := "sheave/sheavelaw08.KdfSalts", spec := "kdfSalts", named := ["sheave/blake.start", "sheave/blake.rows", "sheave/blake.places"], apart := false, laid := [("sheave/blake.start", laid_sheave_blake_start), ("sheave/blake.rows", laid_sheave_blake_rows), ("sheave/blake.places", laid_sheave_blake_places)], narrowed := true }
def KdfSaltsUptoSaid : Prop := kdfSaltsUptoRow.holds Tryd.pinned (OpenSpec.upto kdfSaltsSpec)

/-- 'sheavelaw15.KeysStay', WHERE WHAT IT READS IS OF BULK AT MOST 1048576: true; the input reads as it did. -/
def keysStayUptoRow : OpenClaim := { program := "ytkoomaoelekpaaadoor", sum := "5430fb3cc04a5ffb9b6e22adbaa4f117718a0857cca14fb9a74a8d74c208d353", func := "sheave/sheavelaw15.KeysStay", spec := "keysStay", named := ["sheave/blake.start", "sheave/blake.rows", "sheave/blake.places"], apart := false, laid := [("sheave/blake.start", laid_sheave_blake_start), ("sheave/blake.rows", laid_sheave_blake_rows), ("sheave/blake.places", laid_sheave_blake_places)], narrowed := true }
def KeysStayUptoSaid : Prop := keysStayUptoRow.holds Tryd.pinned (OpenSpec.upto keysStaySpec)

/-- 'sheavelaw15.KeysEnd', WHERE WHAT IT READS IS OF BULK AT MOST 1048576: true; the input reads as it did. -/
def keysEndUptoRow : OpenClaim := { program := "ytkoomaoelekpaaadoor", sum := "5430fb3cc04a5ffb9b6e22adbaa4f117718a0857cca14fb9a74a8d74c208d353", func := "sheave/sheavelaw15.KeysEnd", spec := "keysEnd", named := ["sheave/blake.start", "sheave/blake.rows", "sheave/blake.places"], apart := false, laid := [("sheave/blake.start", laid_sheave_blake_start), ("sheave/blake.rows", laid_sheave_blake_rows), ("sheave/blake.places", laid_sheave_blake_places)], narrowed := true }
def KeysEndUptoSaid : Prop := keysEndUptoRow.holds Tryd.pinned (OpenSpec.upto keysEndSpec)

/-- 'sheavelaw15.KeysPlays', WHERE WHAT IT READS IS OF BULK AT MOST 1048576: true; the input reads as it did. -/
def keysPlaysUptoRow : OpenClaim := { program := "ytkoomaoelekpaaadoor", sum := "5430fb3cc04a5ffb9b6e22adbaa4f117718a0857cca14fb9a74a8d74c208d353", func := "sheave/sheavelaw15.KeysPlays", spec := "keysPlays", named := ["sheave/blake.start", "sheave/blake.rows", "sheave/blake.places"], apart := false, laid := [("sheave/blake.start", laid_sheave_blake_start), ("sheave/blake.rows", laid_sheave_blake_rows), ("sheave/blake.places", laid_sheave_blake_places)], narrowed := true }
def KeysPlaysUptoSaid : Prop := keysPlaysUptoRow.holds Tryd.pinned (OpenSpec.upto keysPlaysSpec)

end Rows
end Go.Proofs.YtkoomaoelekpaaaDoor
