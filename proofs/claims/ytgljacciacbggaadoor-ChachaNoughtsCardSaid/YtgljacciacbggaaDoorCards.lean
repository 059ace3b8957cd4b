/-
  DERIVED. GIVEN WITH THE SEED: THE CARDS: each row of YtgljacciacbggaaDoorRows.lean that lists a variable, with what it lists TIED to the program's text (the seventh form; the later family's looks); each row that meets fmt, with fmt's text TOLD by the authors' own Lean function (tested against real Go, not proved from fmt's source: count such statements apart). THE CARD IS WHAT COUNTS. Prove the row's statement (the work); the ties are given (YtgljacciacbggaaDoorTie.lean); close each card by the builder's one call (the guide's Derived/Test/ToyasCard.lean, 'card_holds'). Laid BY PROGRAM, IN A SANDBOX (cutbox-door.mjs). By AI agents, Wed Nov 11 2026. No macro, syntax, notation, axiom, sorry.
-/
import Derived.Test.YtgljacciacbggaaDoorRows
import GoSem.ClaimSeven
namespace Go.Proofs.YtgljacciacbggaaDoor
namespace Rows

/-- THE TIED CARD OF 'sheavelaw04.ChachaQuarters'. -/
def chachaQuartersCard : Claim7 := { stood := { row := chachaQuartersRow, standIns := [], harness := (true, "6ab1959a9a91923aef0d62e404d3e094ee5ef0b2b70c1bf74655bcfc0995d8a4"), looks := false }, kinds := [], alts := [], laidByText := true, laidKinds := [.data, .data], laidTests := true, laidLooks := .later }
def ChachaQuartersCardSaid : Prop := Claim7.holds Tryd.pinned (.plain (OpenSpec.ofChange chachaQuartersSpec)) chachaQuartersCard

/-- THE TIED CARD OF 'sheavelaw04.ChachaBlocks'. -/
def chachaBlocksCard : Claim7 := { stood := { row := chachaBlocksRow, standIns := [], harness := (true, "6ab1959a9a91923aef0d62e404d3e094ee5ef0b2b70c1bf74655bcfc0995d8a4"), looks := false }, kinds := [], alts := [], laidByText := true, laidKinds := [.data, .data], laidTests := true, laidLooks := .later }
def ChachaBlocksCardSaid : Prop := Claim7.holds Tryd.pinned (.plain (OpenSpec.ofChange chachaBlocksSpec)) chachaBlocksCard

/-- THE TIED CARD OF 'sheavelaw04.ChachaXors'. -/
def chachaXorsCard : Claim7 := { stood := { row := chachaXorsRow, standIns := [], harness := (true, "6ab1959a9a91923aef0d62e404d3e094ee5ef0b2b70c1bf74655bcfc0995d8a4"), looks := false }, kinds := [], alts := [], laidByText := true, laidKinds := [.data, .data], laidTests := true, laidLooks := .later }
def ChachaXorsCardSaid : Prop := Claim7.holds Tryd.pinned (.plain (OpenSpec.ofChange chachaXorsSpec)) chachaXorsCard

/-- THE TIED CARD OF 'sheavelaw04.ChachaTwice'. -/
def chachaTwiceCard : Claim7 := { stood := { row := chachaTwiceRow, standIns := [], harness := (true, "6ab1959a9a91923aef0d62e404d3e094ee5ef0b2b70c1bf74655bcfc0995d8a4"), looks := false }, kinds := [], alts := [], laidByText := true, laidKinds := [.data, .data], laidTests := true, laidLooks := .later }
def ChachaTwiceCardSaid : Prop := Claim7.holds Tryd.pinned (.plain (OpenSpec.ofChange chachaTwiceSpec)) chachaTwiceCard

/-- THE TIED CARD OF 'sheavelaw04.ChachaNext'. -/
def chachaNextCard : Claim7 := { stood := { row := chachaNextRow, standIns := [], harness := (true, "6ab1959a9a91923aef0d62e404d3e094ee5ef0b2b70c1bf74655bcfc0995d8a4"), looks := false }, kinds := [], alts := [], laidByText := true, laidKinds := [.data, .data], laidTests := true, laidLooks := .later }
def ChachaNextCardSaid : Prop := Claim7.holds Tryd.pinned (.plain (OpenSpec.ofChange chachaNextSpec)) chachaNextCard

/-- THE TIED CARD OF 'sheavelaw04.ChachaNoughts'. -/
def chachaNoughtsCard : Claim7 := { stood := { row := chachaNoughtsRow, standIns := [], harness := (true, "6ab1959a9a91923aef0d62e404d3e094ee5ef0b2b70c1bf74655bcfc0995d8a4"), looks := false }, kinds := [], alts := [], laidByText := true, laidKinds := [.data, .data], laidTests := true, laidLooks := .later }
def ChachaNoughtsCardSaid : Prop := Claim7.holds Tryd.pinned (.plain (OpenSpec.ofChange chachaNoughtsSpec)) chachaNoughtsCard

/-- THE SECOND FORM's CARD OF 'sheavelaw04.ChachaQuarters'. -/
def chachaQuartersUptoCard : Claim7 := { stood := { row := chachaQuartersUptoRow, standIns := [], harness := (true, "6ab1959a9a91923aef0d62e404d3e094ee5ef0b2b70c1bf74655bcfc0995d8a4"), looks := false }, kinds := [], alts := [], laidByText := true, laidKinds := [.data, .data], laidTests := true, laidLooks := .later }
def ChachaQuartersUptoCardSaid : Prop := Claim7.holds Tryd.pinned (.plain (OpenSpec.upto chachaQuartersSpec)) chachaQuartersUptoCard

/-- THE SECOND FORM's CARD OF 'sheavelaw04.ChachaBlocks'. -/
def chachaBlocksUptoCard : Claim7 := { stood := { row := chachaBlocksUptoRow, standIns := [], harness := (true, "6ab1959a9a91923aef0d62e404d3e094ee5ef0b2b70c1bf74655bcfc0995d8a4"), looks := false }, kinds := [], alts := [], laidByText := true, laidKinds := [.data, .data], laidTests := true, laidLooks := .later }
def ChachaBlocksUptoCardSaid : Prop := Claim7.holds Tryd.pinned (.plain (OpenSpec.upto chachaBlocksSpec)) chachaBlocksUptoCard

/-- THE SECOND FORM's CARD OF 'sheavelaw04.ChachaXors'. -/
def chachaXorsUptoCard : Claim7 := { stood := { row := chachaXorsUptoRow, standIns := [], harness := (true, "6ab1959a9a91923aef0d62e404d3e094ee5ef0b2b70c1bf74655bcfc0995d8a4"), looks := false }, kinds := [], alts := [], laidByText := true, laidKinds := [.data, .data], laidTests := true, laidLooks := .later }
def ChachaXorsUptoCardSaid : Prop := Claim7.holds Tryd.pinned (.plain (OpenSpec.upto chachaXorsSpec)) chachaXorsUptoCard

/-- THE SECOND FORM's CARD OF 'sheavelaw04.ChachaTwice'. -/
def chachaTwiceUptoCard : Claim7 := { stood := { row := chachaTwiceUptoRow, standIns := [], harness := (true, "6ab1959a9a91923aef0d62e404d3e094ee5ef0b2b70c1bf74655bcfc0995d8a4"), looks := false }, kinds := [], alts := [], laidByText := true, laidKinds := [.data, .data], laidTests := true, laidLooks := .later }
def ChachaTwiceUptoCardSaid : Prop := Claim7.holds Tryd.pinned (.plain (OpenSpec.upto chachaTwiceSpec)) chachaTwiceUptoCard

/-- THE SECOND FORM's CARD OF 'sheavelaw04.ChachaNext'. -/
def chachaNextUptoCard : Claim7 := { stood := { row := chachaNextUptoRow, standIns := [], harness := (true, "6ab1959a9a91923aef0d62e404d3e094ee5ef0b2b70c1bf74655bcfc0995d8a4"), looks := false }, kinds := [], alts := [], laidByText := true, laidKinds := [.data, .data], laidTests := true, laidLooks := .later }
def ChachaNextUptoCardSaid : Prop := Claim7.holds Tryd.pinned (.plain (OpenSpec.upto chachaNextSpec)) chachaNextUptoCard

/-- THE SECOND FORM's CARD OF 'sheavelaw04.ChachaNoughts'. -/
def chachaNoughtsUptoCard : Claim7 := { stood := { row := chachaNoughtsUptoRow, standIns := [], harness := (true, "6ab1959a9a91923aef0d62e404d3e094ee5ef0b2b70c1bf74655bcfc0995d8a4"), looks := false }, kinds := [], alts := [], laidByText := true, laidKinds := [.data, .data], laidTests := true, laidLooks := .later }
def ChachaNoughtsUptoCardSaid : Prop := Claim7.holds Tryd.pinned (.plain (OpenSpec.upto chachaNoughtsSpec)) chachaNoughtsUptoCard
end Rows
end Go.Proofs.YtgljacciacbggaaDoor
