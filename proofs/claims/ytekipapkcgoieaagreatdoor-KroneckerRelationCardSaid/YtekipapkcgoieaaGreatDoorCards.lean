/-
  DERIVED. GIVEN WITH THE SEED: THE CARDS: each row of YtekipapkcgoieaaGreatDoorRows.lean that lists a variable, with what it lists TIED to the program's text (the seventh form; the later family's looks); each row that meets fmt, with fmt's text TOLD by the authors' own Lean function (tested against real Go, not proved from fmt's source: count such statements apart). THE CARD IS WHAT COUNTS. Prove the row's statement (the work); the ties are given (YtekipapkcgoieaaGreatDoorTie.lean); close each card by the builder's one call (the guide's Derived/Test/ToyasCard.lean, 'card_holds'). Laid BY PROGRAM, IN A SANDBOX (cutbox-door.mjs). By AI agents, Wed Nov 11 2026. No macro, syntax, notation, axiom, sorry.
-/
import Derived.Test.YtekipapkcgoieaaGreatDoorRows
import GoSem.ClaimSeven
namespace Go.Proofs.YtekipapkcgoieaaGreatDoor
namespace Rows

/-- THE TIED CARD OF 'algoristlaw38.KroneckerSums'. -/
def kroneckerSumsCard : Claim7 := { stood := { row := kroneckerSumsRow, standIns := [], harness := (true, "8e8d4c5824bf869d6663e4cc1e0903ea65f5ddc81a6e51707f2e79b38cc17343"), looks := true }, kinds := [], alts := [], goes := true, laidByText := true, laidKinds := [.data, .data, .data], laidTests := true, laidLooks := .later }
def KroneckerSumsCardSaid : Prop := Claim7.holds Tryz.pinned (.plain (OpenSpec.ofChange kroneckerSumsSpec)) kroneckerSumsCard

/-- THE TIED CARD OF 'algoristlaw38.KroneckerLies'. -/
def kroneckerLiesCard : Claim7 := { stood := { row := kroneckerLiesRow, standIns := [], harness := (true, "8e8d4c5824bf869d6663e4cc1e0903ea65f5ddc81a6e51707f2e79b38cc17343"), looks := true }, kinds := [], alts := [], goes := true, laidByText := true, laidKinds := [.data, .data, .data], laidTests := true, laidLooks := .later }
def KroneckerLiesCardSaid : Prop := Claim7.holds Tryz.pinned (.plain (OpenSpec.ofChange kroneckerLiesSpec)) kroneckerLiesCard

/-- THE TIED CARD OF 'algoristlaw38.KroneckerRelation'. -/
def kroneckerRelationCard : Claim7 := { stood := { row := kroneckerRelationRow, standIns := [], harness := (true, "8e8d4c5824bf869d6663e4cc1e0903ea65f5ddc81a6e51707f2e79b38cc17343"), looks := true }, kinds := [], alts := [], goes := true, laidByText := true, laidKinds := [.data, .data, .data], laidTests := true, laidLooks := .later }
def KroneckerRelationCardSaid : Prop := Claim7.holds Tryz.pinned (.plain (OpenSpec.ofChange kroneckerRelationSpec)) kroneckerRelationCard

/-- THE SECOND FORM's CARD OF 'algoristlaw38.KroneckerLies'. -/
def kroneckerLiesUptoCard : Claim7 := { stood := { row := kroneckerLiesUptoRow, standIns := [], harness := (true, "8e8d4c5824bf869d6663e4cc1e0903ea65f5ddc81a6e51707f2e79b38cc17343"), looks := true }, kinds := [], alts := [], goes := true, laidByText := true, laidKinds := [.data, .data, .data], laidTests := true, laidLooks := .later }
def KroneckerLiesUptoCardSaid : Prop := Claim7.holds Tryz.pinned (.plain (OpenSpec.upto kroneckerLiesSpec)) kroneckerLiesUptoCard
end Rows
end Go.Proofs.YtekipapkcgoieaaGreatDoor
