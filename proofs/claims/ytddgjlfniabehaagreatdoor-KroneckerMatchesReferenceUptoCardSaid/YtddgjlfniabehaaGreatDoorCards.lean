/-
  DERIVED. GIVEN WITH THE SEED: THE CARDS: each row of YtddgjlfniabehaaGreatDoorRows.lean that lists a variable, with what it lists TIED to the program's text (the seventh form; the later family's looks); each row that meets fmt, with fmt's text TOLD by the authors' own Lean function (tested against real Go, not proved from fmt's source: count such statements apart). THE CARD IS WHAT COUNTS. Prove the row's statement (the work); the ties are given (YtddgjlfniabehaaGreatDoorTie.lean); close each card by the builder's one call (the guide's Derived/Test/ToyasCard.lean, 'card_holds'). Laid BY PROGRAM, IN A SANDBOX (cutbox-door.mjs). By AI agents, Wed Nov 11 2026. No macro, syntax, notation, axiom, sorry.
-/
import Derived.Test.YtddgjlfniabehaaGreatDoorRows
import GoSem.ClaimSeven
namespace Go.Proofs.YtddgjlfniabehaaGreatDoor
namespace Rows

/-- THE TIED CARD OF 'algoristlaw38.KroneckerMatchesReference'. -/
def kroneckerMatchesReferenceCard : Claim7 := { stood := { row := kroneckerMatchesReferenceRow, standIns := [], harness := (true, "383e97874b59ff3c164e2a1f9403639877b24dcf083af3c8cd0a21c3109beb3b"), looks := false }, kinds := [], alts := [], laidByText := true, laidKinds := [.data, .data, .data], laidTests := true, laidLooks := .later }
def KroneckerMatchesReferenceCardSaid : Prop := Claim7.holds Tryz.pinned (.plain (OpenSpec.ofChange kroneckerMatchesReferenceSpec)) kroneckerMatchesReferenceCard

/-- THE TIED CARD OF 'algoristlaw38.KroneckerParts'. -/
def kroneckerPartsCard : Claim7 := { stood := { row := kroneckerPartsRow, standIns := [], harness := (true, "383e97874b59ff3c164e2a1f9403639877b24dcf083af3c8cd0a21c3109beb3b"), looks := false }, kinds := [], alts := [], laidByText := true, laidKinds := [.data, .data, .data], laidTests := true, laidLooks := .later }
def KroneckerPartsCardSaid : Prop := Claim7.holds Tryz.pinned (.plain (OpenSpec.ofChange kroneckerPartsSpec)) kroneckerPartsCard

/-- THE TIED CARD OF 'algoristlaw38.KroneckerGrants'. -/
def kroneckerGrantsCard : Claim7 := { stood := { row := kroneckerGrantsRow, standIns := [], harness := (true, "383e97874b59ff3c164e2a1f9403639877b24dcf083af3c8cd0a21c3109beb3b"), looks := false }, kinds := [], alts := [], laidByText := true, laidKinds := [.data, .data, .data], laidTests := true, laidLooks := .later }
def KroneckerGrantsCardSaid : Prop := Claim7.holds Tryz.pinned (.plain (OpenSpec.ofChange kroneckerGrantsSpec)) kroneckerGrantsCard

/-- THE TIED CARD OF 'algoristlaw38.KroneckerRefuses'. -/
def kroneckerRefusesCard : Claim7 := { stood := { row := kroneckerRefusesRow, standIns := [], harness := (true, "383e97874b59ff3c164e2a1f9403639877b24dcf083af3c8cd0a21c3109beb3b"), looks := false }, kinds := [], alts := [], laidByText := true, laidKinds := [.data, .data, .data], laidTests := true, laidLooks := .later }
def KroneckerRefusesCardSaid : Prop := Claim7.holds Tryz.pinned (.plain (OpenSpec.ofChange kroneckerRefusesSpec)) kroneckerRefusesCard

/-- THE TIED CARD OF 'algoristlaw38.KroneckerMisses'. -/
def kroneckerMissesCard : Claim7 := { stood := { row := kroneckerMissesRow, standIns := [], harness := (true, "383e97874b59ff3c164e2a1f9403639877b24dcf083af3c8cd0a21c3109beb3b"), looks := false }, kinds := [], alts := [], laidByText := true, laidKinds := [.data, .data, .data], laidTests := true, laidLooks := .later }
def KroneckerMissesCardSaid : Prop := Claim7.holds Tryz.pinned (.plain (OpenSpec.ofChange kroneckerMissesSpec)) kroneckerMissesCard

/-- THE SECOND FORM's CARD OF 'algoristlaw38.KroneckerMatchesReference'. -/
def kroneckerMatchesReferenceUptoCard : Claim7 := { stood := { row := kroneckerMatchesReferenceUptoRow, standIns := [], harness := (true, "383e97874b59ff3c164e2a1f9403639877b24dcf083af3c8cd0a21c3109beb3b"), looks := false }, kinds := [], alts := [], laidByText := true, laidKinds := [.data, .data, .data], laidTests := true, laidLooks := .later }
def KroneckerMatchesReferenceUptoCardSaid : Prop := Claim7.holds Tryz.pinned (.plain (OpenSpec.upto kroneckerMatchesReferenceSpec)) kroneckerMatchesReferenceUptoCard

/-- THE SECOND FORM's CARD OF 'algoristlaw38.KroneckerParts'. -/
def kroneckerPartsUptoCard : Claim7 := { stood := { row := kroneckerPartsUptoRow, standIns := [], harness := (true, "383e97874b59ff3c164e2a1f9403639877b24dcf083af3c8cd0a21c3109beb3b"), looks := false }, kinds := [], alts := [], laidByText := true, laidKinds := [.data, .data, .data], laidTests := true, laidLooks := .later }
def KroneckerPartsUptoCardSaid : Prop := Claim7.holds Tryz.pinned (.plain (OpenSpec.upto kroneckerPartsSpec)) kroneckerPartsUptoCard

/-- THE SECOND FORM's CARD OF 'algoristlaw38.KroneckerGrants'. -/
def kroneckerGrantsUptoCard : Claim7 := { stood := { row := kroneckerGrantsUptoRow, standIns := [], harness := (true, "383e97874b59ff3c164e2a1f9403639877b24dcf083af3c8cd0a21c3109beb3b"), looks := false }, kinds := [], alts := [], laidByText := true, laidKinds := [.data, .data, .data], laidTests := true, laidLooks := .later }
def KroneckerGrantsUptoCardSaid : Prop := Claim7.holds Tryz.pinned (.plain (OpenSpec.upto kroneckerGrantsSpec)) kroneckerGrantsUptoCard

/-- THE SECOND FORM's CARD OF 'algoristlaw38.KroneckerRefuses'. -/
def kroneckerRefusesUptoCard : Claim7 := { stood := { row := kroneckerRefusesUptoRow, standIns := [], harness := (true, "383e97874b59ff3c164e2a1f9403639877b24dcf083af3c8cd0a21c3109beb3b"), looks := false }, kinds := [], alts := [], laidByText := true, laidKinds := [.data, .data, .data], laidTests := true, laidLooks := .later }
def KroneckerRefusesUptoCardSaid : Prop := Claim7.holds Tryz.pinned (.plain (OpenSpec.upto kroneckerRefusesSpec)) kroneckerRefusesUptoCard

/-- THE SECOND FORM's CARD OF 'algoristlaw38.KroneckerMisses'. -/
def kroneckerMissesUptoCard : Claim7 := { stood := { row := kroneckerMissesUptoRow, standIns := [], harness := (true, "383e97874b59ff3c164e2a1f9403639877b24dcf083af3c8cd0a21c3109beb3b"), looks := false }, kinds := [], alts := [], laidByText := true, laidKinds := [.data, .data, .data], laidTests := true, laidLooks := .later }
def KroneckerMissesUptoCardSaid : Prop := Claim7.holds Tryz.pinned (.plain (OpenSpec.upto kroneckerMissesSpec)) kroneckerMissesUptoCard
end Rows
end Go.Proofs.YtddgjlfniabehaaGreatDoor
