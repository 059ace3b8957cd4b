/-
  DERIVED. GIVEN WITH THE SEED: THE CARDS: each row of YtkoomaoelekpaaaDoorRows.lean that lists a variable, with what it lists TIED to the program's text (the seventh form; the later family's looks); each row that meets fmt, with fmt's text TOLD by the authors' own Lean function (tested against real Go, not proved from fmt's source: count such statements apart). THE CARD IS WHAT COUNTS. Prove the row's statement (the work); the ties are given (YtkoomaoelekpaaaDoorTie.lean); close each card by the builder's one call (the guide's Derived/Test/ToyasCard.lean, 'card_holds'). Laid BY PROGRAM, IN A SANDBOX (cutbox-door.mjs). By AI agents, Wed Nov 11 2026. No macro, syntax, notation, axiom, sorry.
-/
import Derived.Test.YtkoomaoelekpaaaDoorRows
import GoSem.ClaimSeven
namespace Go.Proofs.YtkoomaoelekpaaaDoor
namespace Rows

/-- THE TIED CARD OF 'sheavelaw06.BlakeSums'. -/
def blakeSumsCard : Claim7 := { stood := { row := blakeSumsRow, standIns := [], harness := (true, "fec1548448b02ab444cffa97b094fd241b0574f73fb1168f90a7aba75bf40f57"), looks := false }, kinds := [], alts := [], laidByText := true, laidKinds := [.data, .data, .data], laidTests := true, laidLooks := .later }
def BlakeSumsCardSaid : Prop := Claim7.holds Tryd.pinned (.plain (OpenSpec.ofChange blakeSumsSpec)) blakeSumsCard

/-- THE TIED CARD OF 'sheavelaw06.BlakeHashes'. -/
def blakeHashesCard : Claim7 := { stood := { row := blakeHashesRow, standIns := [], harness := (true, "fec1548448b02ab444cffa97b094fd241b0574f73fb1168f90a7aba75bf40f57"), looks := false }, kinds := [], alts := [], laidByText := true, laidKinds := [.data, .data, .data], laidTests := true, laidLooks := .later }
def BlakeHashesCardSaid : Prop := Claim7.holds Tryd.pinned (.plain (OpenSpec.ofChange blakeHashesSpec)) blakeHashesCard

/-- THE TIED CARD OF 'sheavelaw06.BlakeParts'. -/
def blakePartsCard : Claim7 := { stood := { row := blakePartsRow, standIns := [], harness := (true, "fec1548448b02ab444cffa97b094fd241b0574f73fb1168f90a7aba75bf40f57"), looks := false }, kinds := [], alts := [], laidByText := true, laidKinds := [.data, .data, .data], laidTests := true, laidLooks := .later }
def BlakePartsCardSaid : Prop := Claim7.holds Tryd.pinned (.plain (OpenSpec.ofChange blakePartsSpec)) blakePartsCard

/-- THE TIED CARD OF 'sheavelaw06.BlakeMacs'. -/
def blakeMacsCard : Claim7 := { stood := { row := blakeMacsRow, standIns := [], harness := (true, "fec1548448b02ab444cffa97b094fd241b0574f73fb1168f90a7aba75bf40f57"), looks := false }, kinds := [], alts := [], laidByText := true, laidKinds := [.data, .data, .data], laidTests := true, laidLooks := .later }
def BlakeMacsCardSaid : Prop := Claim7.holds Tryd.pinned (.plain (OpenSpec.ofChange blakeMacsSpec)) blakeMacsCard

/-- THE TIED CARD OF 'sheavelaw06.BlakeNoughts'. -/
def blakeNoughtsCard : Claim7 := { stood := { row := blakeNoughtsRow, standIns := [], harness := (true, "fec1548448b02ab444cffa97b094fd241b0574f73fb1168f90a7aba75bf40f57"), looks := false }, kinds := [], alts := [], laidByText := true, laidKinds := [.data, .data, .data], laidTests := true, laidLooks := .later }
def BlakeNoughtsCardSaid : Prop := Claim7.holds Tryd.pinned (.plain (OpenSpec.ofChange blakeNoughtsSpec)) blakeNoughtsCard

/-- THE TIED CARD OF 'sheavelaw06.BlakeMade'. -/
def blakeMadeCard : Claim7 := { stood := { row := blakeMadeRow, standIns := [], harness := (true, "fec1548448b02ab444cffa97b094fd241b0574f73fb1168f90a7aba75bf40f57"), looks := false }, kinds := [], alts := [], laidByText := true, laidKinds := [.data, .data, .data], laidTests := true, laidLooks := .later }
def BlakeMadeCardSaid : Prop := Claim7.holds Tryd.pinned (.plain (OpenSpec.ofChange blakeMadeSpec)) blakeMadeCard

/-- THE TIED CARD OF 'sheavelaw08.KdfExpands'. -/
def kdfExpandsCard : Claim7 := { stood := { row := kdfExpandsRow, standIns := [], harness := (true, "fec1548448b02ab444cffa97b094fd241b0574f73fb1168f90a7aba75bf40f57"), looks := false }, kinds := [], alts := [], laidByText := true, laidKinds := [.data, .data, .data], laidTests := true, laidLooks := .later }
def KdfExpandsCardSaid : Prop := Claim7.holds Tryd.pinned (.plain (OpenSpec.ofChange kdfExpandsSpec)) kdfExpandsCard

/-- THE TIED CARD OF 'sheavelaw08.KdfPrefixes'. -/
def kdfPrefixesCard : Claim7 := { stood := { row := kdfPrefixesRow, standIns := [], harness := (true, "fec1548448b02ab444cffa97b094fd241b0574f73fb1168f90a7aba75bf40f57"), looks := false }, kinds := [], alts := [], laidByText := true, laidKinds := [.data, .data, .data], laidTests := true, laidLooks := .later }
def KdfPrefixesCardSaid : Prop := Claim7.holds Tryd.pinned (.plain (OpenSpec.ofChange kdfPrefixesSpec)) kdfPrefixesCard

/-- THE TIED CARD OF 'sheavelaw08.KdfEpochs'. -/
def kdfEpochsCard : Claim7 := { stood := { row := kdfEpochsRow, standIns := [], harness := (true, "fec1548448b02ab444cffa97b094fd241b0574f73fb1168f90a7aba75bf40f57"), looks := false }, kinds := [], alts := [], laidByText := true, laidKinds := [.data, .data, .data], laidTests := true, laidLooks := .later }
def KdfEpochsCardSaid : Prop := Claim7.holds Tryd.pinned (.plain (OpenSpec.ofChange kdfEpochsSpec)) kdfEpochsCard

/-- THE TIED CARD OF 'sheavelaw08.KdfExtracts'. -/
def kdfExtractsCard : Claim7 := { stood := { row := kdfExtractsRow, standIns := [], harness := (true, "fec1548448b02ab444cffa97b094fd241b0574f73fb1168f90a7aba75bf40f57"), looks := false }, kinds := [], alts := [], laidByText := true, laidKinds := [.data, .data, .data], laidTests := true, laidLooks := .later }
def KdfExtractsCardSaid : Prop := Claim7.holds Tryd.pinned (.plain (OpenSpec.ofChange kdfExtractsSpec)) kdfExtractsCard

/-- THE TIED CARD OF 'sheavelaw08.KdfChains'. -/
def kdfChainsCard : Claim7 := { stood := { row := kdfChainsRow, standIns := [], harness := (true, "fec1548448b02ab444cffa97b094fd241b0574f73fb1168f90a7aba75bf40f57"), looks := false }, kinds := [], alts := [], laidByText := true, laidKinds := [.data, .data, .data], laidTests := true, laidLooks := .later }
def KdfChainsCardSaid : Prop := Claim7.holds Tryd.pinned (.plain (OpenSpec.ofChange kdfChainsSpec)) kdfChainsCard

/-- THE TIED CARD OF 'sheavelaw08.KdfSalts'. -/
def kdfSaltsCard : Claim7 := { stood := { row := kdfSaltsRow, standIns := [], harness := (true, "fec1548448b02ab444cffa97b094fd241b0574f73fb1168f90a7aba75bf40f57"), looks := false }, kinds := [], alts := [], laidByText := true, laidKinds := [.data, .data, .data], laidTests := true, laidLooks := .later }
def KdfSaltsCardSaid : Prop := Claim7.holds Tryd.pinned (.plain (OpenSpec.ofChange kdfSaltsSpec)) kdfSaltsCard

/-- THE TIED CARD OF 'sheavelaw15.KeysStay'. -/
def keysStayCard : Claim7 := { stood := { row := keysStayRow, standIns := [], harness := (true, "fec1548448b02ab444cffa97b094fd241b0574f73fb1168f90a7aba75bf40f57"), looks := false }, kinds := [], alts := [], laidByText := true, laidKinds := [.data, .data, .data], laidTests := true, laidLooks := .later }
def KeysStayCardSaid : Prop := Claim7.holds Tryd.pinned (.plain (OpenSpec.ofChange keysStaySpec)) keysStayCard

/-- THE TIED CARD OF 'sheavelaw15.KeysEnd'. -/
def keysEndCard : Claim7 := { stood := { row := keysEndRow, standIns := [], harness := (true, "fec1548448b02ab444cffa97b094fd241b0574f73fb1168f90a7aba75bf40f57"), looks := false }, kinds := [], alts := [], laidByText := true, laidKinds := [.data, .data, .data], laidTests := true, laidLooks := .later }
def KeysEndCardSaid : Prop := Claim7.holds Tryd.pinned (.plain (OpenSpec.ofChange keysEndSpec)) keysEndCard

/-- THE TIED CARD OF 'sheavelaw15.KeysPlays'. -/
def keysPlaysCard : Claim7 := { stood := { row := keysPlaysRow, standIns := [], harness := (true, "fec1548448b02ab444cffa97b094fd241b0574f73fb1168f90a7aba75bf40f57"), looks := false }, kinds := [], alts := [], laidByText := true, laidKinds := [.data, .data, .data], laidTests := true, laidLooks := .later }
def KeysPlaysCardSaid : Prop := Claim7.holds Tryd.pinned (.plain (OpenSpec.ofChange keysPlaysSpec)) keysPlaysCard

/-- THE SECOND FORM's CARD OF 'sheavelaw06.BlakeSums'. -/
def blakeSumsUptoCard : Claim7 := { stood := { row := blakeSumsUptoRow, standIns := [], harness := (true, "fec1548448b02ab444cffa97b094fd241b0574f73fb1168f90a7aba75bf40f57"), looks := false }, kinds := [], alts := [], laidByText := true, laidKinds := [.data, .data, .data], laidTests := true, laidLooks := .later }
def BlakeSumsUptoCardSaid : Prop := Claim7.holds Tryd.pinned (.plain (OpenSpec.upto blakeSumsSpec)) blakeSumsUptoCard

/-- THE SECOND FORM's CARD OF 'sheavelaw06.BlakeHashes'. -/
def blakeHashesUptoCard : Claim7 := { stood := { row := blakeHashesUptoRow, standIns := [], harness := (true, "fec1548448b02ab444cffa97b094fd241b0574f73fb1168f90a7aba75bf40f57"), looks := false }, kinds := [], alts := [], laidByText := true, laidKinds := [.data, .data, .data], laidTests := true, laidLooks := .later }
def BlakeHashesUptoCardSaid : Prop := Claim7.holds Tryd.pinned (.plain (OpenSpec.upto blakeHashesSpec)) blakeHashesUptoCard

/-- THE SECOND FORM's CARD OF 'sheavelaw06.BlakeParts'. -/
def blakePartsUptoCard : Claim7 := { stood := { row := blakePartsUptoRow, standIns := [], harness := (true, "fec1548448b02ab444cffa97b094fd241b0574f73fb1168f90a7aba75bf40f57"), looks := false }, kinds := [], alts := [], laidByText := true, laidKinds := [.data, .data, .data], laidTests := true, laidLooks := .later }
def BlakePartsUptoCardSaid : Prop := Claim7.holds Tryd.pinned (.plain (OpenSpec.upto blakePartsSpec)) blakePartsUptoCard

/-- THE SECOND FORM's CARD OF 'sheavelaw06.BlakeMacs'. -/
def blakeMacsUptoCard : Claim7 := { stood := { row := blakeMacsUptoRow, standIns := [], harness := (true, "fec1548448b02ab444cffa97b094fd241b0574f73fb1168f90a7aba75bf40f57"), looks := false }, kinds := [], alts := [], laidByText := true, laidKinds := [.data, .data, .data], laidTests := true, laidLooks := .later }
def BlakeMacsUptoCardSaid : Prop := Claim7.holds Tryd.pinned (.plain (OpenSpec.upto blakeMacsSpec)) blakeMacsUptoCard

/-- THE SECOND FORM's CARD OF 'sheavelaw06.BlakeNoughts'. -/
def blakeNoughtsUptoCard : Claim7 := { stood := { row := blakeNoughtsUptoRow, standIns := [], harness := (true, "fec1548448b02ab444cffa97b094fd241b0574f73fb1168f90a7aba75bf40f57"), looks := false }, kinds := [], alts := [], laidByText := true, laidKinds := [.data, .data, .data], laidTests := true, laidLooks := .later }
def BlakeNoughtsUptoCardSaid : Prop := Claim7.holds Tryd.pinned (.plain (OpenSpec.upto blakeNoughtsSpec)) blakeNoughtsUptoCard

/-- THE SECOND FORM's CARD OF 'sheavelaw06.BlakeMade'. -/
def blakeMadeUptoCard : Claim7 := { stood := { row := blakeMadeUptoRow, standIns := [], harness := (true, "fec1548448b02ab444cffa97b094fd241b0574f73fb1168f90a7aba75bf40f57"), looks := false }, kinds := [], alts := [], laidByText := true, laidKinds := [.data, .data, .data], laidTests := true, laidLooks := .later }
def BlakeMadeUptoCardSaid : Prop := Claim7.holds Tryd.pinned (.plain (OpenSpec.upto blakeMadeSpec)) blakeMadeUptoCard

/-- THE SECOND FORM's CARD OF 'sheavelaw08.KdfExpands'. -/
def kdfExpandsUptoCard : Claim7 := { stood := { row := kdfExpandsUptoRow, standIns := [], harness := (true, "fec1548448b02ab444cffa97b094fd241b0574f73fb1168f90a7aba75bf40f57"), looks := false }, kinds := [], alts := [], laidByText := true, laidKinds := [.data, .data, .data], laidTests := true, laidLooks := .later }
def KdfExpandsUptoCardSaid : Prop := Claim7.holds Tryd.pinned (.plain (OpenSpec.upto kdfExpandsSpec)) kdfExpandsUptoCard

/-- THE SECOND FORM's CARD OF 'sheavelaw08.KdfPrefixes'. -/
def kdfPrefixesUptoCard : Claim7 := { stood := { row := kdfPrefixesUptoRow, standIns := [], harness := (true, "fec1548448b02ab444cffa97b094fd241b0574f73fb1168f90a7aba75bf40f57"), looks := false }, kinds := [], alts := [], laidByText := true, laidKinds := [.data, .data, .data], laidTests := true, laidLooks := .later }
def KdfPrefixesUptoCardSaid : Prop := Claim7.holds Tryd.pinned (.plain (OpenSpec.upto kdfPrefixesSpec)) kdfPrefixesUptoCard

/-- THE SECOND FORM's CARD OF 'sheavelaw08.KdfEpochs'. -/
def kdfEpochsUptoCard : Claim7 := { stood := { row := kdfEpochsUptoRow, standIns := [], harness := (true, "fec1548448b02ab444cffa97b094fd241b0574f73fb1168f90a7aba75bf40f57"), looks := false }, kinds := [], alts := [], laidByText := true, laidKinds := [.data, .data, .data], laidTests := true, laidLooks := .later }
def KdfEpochsUptoCardSaid : Prop := Claim7.holds Tryd.pinned (.plain (OpenSpec.upto kdfEpochsSpec)) kdfEpochsUptoCard

/-- THE SECOND FORM's CARD OF 'sheavelaw08.KdfExtracts'. -/
def kdfExtractsUptoCard : Claim7 := { stood := { row := kdfExtractsUptoRow, standIns := [], harness := (true, "fec1548448b02ab444cffa97b094fd241b0574f73fb1168f90a7aba75bf40f57"), looks := false }, kinds := [], alts := [], laidByText := true, laidKinds := [.data, .data, .data], laidTests := true, laidLooks := .later }
def KdfExtractsUptoCardSaid : Prop := Claim7.holds Tryd.pinned (.plain (OpenSpec.upto kdfExtractsSpec)) kdfExtractsUptoCard

/-- THE SECOND FORM's CARD OF 'sheavelaw08.KdfChains'. -/
def kdfChainsUptoCard : Claim7 := { stood := { row := kdfChainsUptoRow, standIns := [], harness := (true, "fec1548448b02ab444cffa97b094fd241b0574f73fb1168f90a7aba75bf40f57"), looks := false }, kinds := [], alts := [], laidByText := true, laidKinds := [.data, .data, .data], laidTests := true, laidLooks := .later }
def KdfChainsUptoCardSaid : Prop := Claim7.holds Tryd.pinned (.plain (OpenSpec.upto kdfChainsSpec)) kdfChainsUptoCard

/-- THE SECOND FORM's CARD OF 'sheavelaw08.KdfSalts'. -/
def kdfSaltsUptoCard : Claim7 := { stood := { row := kdfSaltsUptoRow, standIns := [], harness := (true, "fec1548448b02ab444cffa97b094fd241b0574f73fb1168f90a7aba75bf40f57"), looks := false }, kinds := [], alts := [], laidByText := true, laidKinds := [.data, .data, .data], laidTests := true, laidLooks := .later }
def KdfSaltsUptoCardSaid : Prop := Claim7.holds Tryd.pinned (.plain (OpenSpec.upto kdfSaltsSpec)) kdfSaltsUptoCard

/-- THE SECOND FORM's CARD OF 'sheavelaw15.KeysStay'. -/
def keysStayUptoCard : Claim7 := { stood := { row := keysStayUptoRow, standIns := [], harness := (true, "fec1548448b02ab444cffa97b094fd241b0574f73fb1168f90a7aba75bf40f57"), looks := false }, kinds := [], alts := [], laidByText := true, laidKinds := [.data, .data, .data], laidTests := true, laidLooks := .later }
def KeysStayUptoCardSaid : Prop := Claim7.holds Tryd.pinned (.plain (OpenSpec.upto keysStaySpec)) keysStayUptoCard

/-- THE SECOND FORM's CARD OF 'sheavelaw15.KeysEnd'. -/
def keysEndUptoCard : Claim7 := { stood := { row := keysEndUptoRow, standIns := [], harness := (true, "fec1548448b02ab444cffa97b094fd241b0574f73fb1168f90a7aba75bf40f57"), looks := false }, kinds := [], alts := [], laidByText := true, laidKinds := [.data, .data, .data], laidTests := true, laidLooks := .later }
def KeysEndUptoCardSaid : Prop := Claim7.holds Tryd.pinned (.plain (OpenSpec.upto keysEndSpec)) keysEndUptoCard

/-- THE SECOND FORM's CARD OF 'sheavelaw15.KeysPlays'. -/
def keysPlaysUptoCard : Claim7 := { stood := { row := keysPlaysUptoRow, standIns := [], harness := (true, "fec1548448b02ab444cffa97b094fd241b0574f73fb1168f90a7aba75bf40f57"), looks := false }, kinds := [], alts := [], laidByText := true, laidKinds := [.data, .data, .data], laidTests := true, laidLooks := .later }
def KeysPlaysUptoCardSaid : Prop := Claim7.holds Tryd.pinned (.plain (OpenSpec.upto keysPlaysSpec)) keysPlaysUptoCard
end Rows
end Go.Proofs.YtkoomaoelekpaaaDoor
