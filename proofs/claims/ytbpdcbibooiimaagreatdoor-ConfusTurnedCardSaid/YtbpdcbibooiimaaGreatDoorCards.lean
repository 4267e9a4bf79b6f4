/-
  DERIVED. GIVEN WITH THE SEED: THE CARDS: each row of YtbpdcbibooiimaaGreatDoorRows.lean that lists a variable, with what it lists TIED to the program's text (the seventh form; the later family's looks); each row that meets fmt, with fmt's text TOLD by the authors' own Lean function (tested against real Go, not proved from fmt's source: count such statements apart). THE CARD IS WHAT COUNTS. Prove the row's statement (the work); the ties are given (YtbpdcbibooiimaaGreatDoorTie.lean); close each card by the builder's one call (the guide's Derived/Test/ToyasCard.lean, 'card_holds'). Laid BY PROGRAM, IN A SANDBOX (cutbox-door.mjs). By AI agents, Wed Nov 11 2026. No macro, syntax, notation, axiom, sorry.
-/
import Derived.Test.YtbpdcbibooiimaaGreatDoorRows
import GoSem.ClaimSeven
namespace Go.Proofs.YtbpdcbibooiimaaGreatDoor
namespace Rows

/-- THE TIED CARD OF 'paronymlaw05.PropParses'. -/
def propParsesCard : Claim7 := { stood := { row := propParsesRow, standIns := [], harness := (true, "ea15d2eb81024d9e71850c30cd30141e77aebce7e40ec8c40f847e40fd417039"), looks := true }, kinds := [], alts := [], laidByText := true, laidKinds := [.data, .data, .data, .data, .pinned, .pinned], laidTests := true, laidLooks := .later }
def PropParsesCardSaid : Prop := Claim7.holds Tryz.pinned (.plain (OpenSpec.ofChange propParsesSpec)) propParsesCard

/-- THE TIED CARD OF 'paronymlaw05.PropTurned'. -/
def propTurnedCard : Claim7 := { stood := { row := propTurnedRow, standIns := [], harness := (true, "ea15d2eb81024d9e71850c30cd30141e77aebce7e40ec8c40f847e40fd417039"), looks := true }, kinds := [], alts := [], laidByText := true, laidKinds := [.data, .data, .data, .data, .pinned, .pinned], laidTests := true, laidLooks := .later }
def PropTurnedCardSaid : Prop := Claim7.holds Tryz.pinned (.plain (OpenSpec.ofChange propTurnedSpec)) propTurnedCard

/-- THE TIED CARD OF 'paronymlaw05.PropPoints'. -/
def propPointsCard : Claim7 := { stood := { row := propPointsRow, standIns := [], harness := (true, "ea15d2eb81024d9e71850c30cd30141e77aebce7e40ec8c40f847e40fd417039"), looks := true }, kinds := [], alts := [], laidByText := true, laidKinds := [.data, .data, .data, .data, .pinned, .pinned], laidTests := true, laidLooks := .later }
def PropPointsCardSaid : Prop := Claim7.holds Tryz.pinned (.plain (OpenSpec.ofChange propPointsSpec)) propPointsCard

/-- THE TIED CARD OF 'paronymlaw05.PropOthers'. -/
def propOthersCard : Claim7 := { stood := { row := propOthersRow, standIns := [], harness := (true, "ea15d2eb81024d9e71850c30cd30141e77aebce7e40ec8c40f847e40fd417039"), looks := true }, kinds := [], alts := [], laidByText := true, laidKinds := [.data, .data, .data, .data, .pinned, .pinned], laidTests := true, laidLooks := .later }
def PropOthersCardSaid : Prop := Claim7.holds Tryz.pinned (.plain (OpenSpec.ofChange propOthersSpec)) propOthersCard

/-- THE TIED CARD OF 'paronymlaw06.ConfusParses'. -/
def confusParsesCard : Claim7 := { stood := { row := confusParsesRow, standIns := [], harness := (true, "ea15d2eb81024d9e71850c30cd30141e77aebce7e40ec8c40f847e40fd417039"), looks := true }, kinds := [], alts := [], laidByText := true, laidKinds := [.data, .data, .data, .data, .pinned, .pinned], laidTests := true, laidLooks := .later }
def ConfusParsesCardSaid : Prop := Claim7.holds Tryz.pinned (.plain (OpenSpec.ofChange confusParsesSpec)) confusParsesCard

/-- THE TIED CARD OF 'paronymlaw06.ConfusTells'. -/
def confusTellsCard : Claim7 := { stood := { row := confusTellsRow, standIns := [], harness := (true, "ea15d2eb81024d9e71850c30cd30141e77aebce7e40ec8c40f847e40fd417039"), looks := true }, kinds := [], alts := [], laidByText := true, laidKinds := [.data, .data, .data, .data, .pinned, .pinned], laidTests := true, laidLooks := .later }
def ConfusTellsCardSaid : Prop := Claim7.holds Tryz.pinned (.plain (OpenSpec.ofChange confusTellsSpec)) confusTellsCard

/-- THE TIED CARD OF 'paronymlaw06.ConfusTurned'. -/
def confusTurnedCard : Claim7 := { stood := { row := confusTurnedRow, standIns := [], harness := (true, "ea15d2eb81024d9e71850c30cd30141e77aebce7e40ec8c40f847e40fd417039"), looks := true }, kinds := [], alts := [], laidByText := true, laidKinds := [.data, .data, .data, .data, .pinned, .pinned], laidTests := true, laidLooks := .later }
def ConfusTurnedCardSaid : Prop := Claim7.holds Tryz.pinned (.plain (OpenSpec.ofChange confusTurnedSpec)) confusTurnedCard

/-- THE TIED CARD OF 'paronymlaw04.UnicodeTells'. -/
def unicodeTellsCard : Claim7 := { stood := { row := unicodeTellsRow, standIns := [], harness := (true, "ea15d2eb81024d9e71850c30cd30141e77aebce7e40ec8c40f847e40fd417039"), looks := true }, kinds := [], alts := [], laidByText := true, laidKinds := [.data, .data, .data, .data, .sentinel, .sentinel, .pinned, .pinned], laidTests := true, laidLooks := .later }
def UnicodeTellsCardSaid : Prop := Claim7.holds Tryz.pinned (.plain (OpenSpec.ofChange unicodeTellsSpec)) unicodeTellsCard

/-- THE TIED CARD OF 'paronymlaw04.UnicodeRemarks'. -/
def unicodeRemarksCard : Claim7 := { stood := { row := unicodeRemarksRow, standIns := [], harness := (true, "ea15d2eb81024d9e71850c30cd30141e77aebce7e40ec8c40f847e40fd417039"), looks := true }, kinds := [], alts := [], laidByText := true, laidKinds := [.data, .data, .data, .data, .sentinel, .sentinel, .pinned, .pinned], laidTests := true, laidLooks := .later }
def UnicodeRemarksCardSaid : Prop := Claim7.holds Tryz.pinned (.plain (OpenSpec.ofChange unicodeRemarksSpec)) unicodeRemarksCard

/-- THE TIED CARD OF 'paronymlaw04.UnicodeRises'. -/
def unicodeRisesCard : Claim7 := { stood := { row := unicodeRisesRow, standIns := [], harness := (true, "ea15d2eb81024d9e71850c30cd30141e77aebce7e40ec8c40f847e40fd417039"), looks := true }, kinds := [], alts := [], laidByText := true, laidKinds := [.data, .data, .data, .data, .sentinel, .sentinel, .pinned, .pinned], laidTests := true, laidLooks := .later }
def UnicodeRisesCardSaid : Prop := Claim7.holds Tryz.pinned (.plain (OpenSpec.ofChange unicodeRisesSpec)) unicodeRisesCard

/-- THE SECOND FORM's CARD OF 'paronymlaw05.PropParses'. -/
def propParsesUptoCard : Claim7 := { stood := { row := propParsesUptoRow, standIns := [], harness := (true, "ea15d2eb81024d9e71850c30cd30141e77aebce7e40ec8c40f847e40fd417039"), looks := true }, kinds := [], alts := [], laidByText := true, laidKinds := [.data, .data, .data, .data, .pinned, .pinned], laidTests := true, laidLooks := .later }
def PropParsesUptoCardSaid : Prop := Claim7.holds Tryz.pinned (.plain (OpenSpec.upto propParsesSpec)) propParsesUptoCard

/-- THE SECOND FORM's CARD OF 'paronymlaw05.PropTurned'. -/
def propTurnedUptoCard : Claim7 := { stood := { row := propTurnedUptoRow, standIns := [], harness := (true, "ea15d2eb81024d9e71850c30cd30141e77aebce7e40ec8c40f847e40fd417039"), looks := true }, kinds := [], alts := [], laidByText := true, laidKinds := [.data, .data, .data, .data, .pinned, .pinned], laidTests := true, laidLooks := .later }
def PropTurnedUptoCardSaid : Prop := Claim7.holds Tryz.pinned (.plain (OpenSpec.upto propTurnedSpec)) propTurnedUptoCard

/-- THE SECOND FORM's CARD OF 'paronymlaw05.PropPoints'. -/
def propPointsUptoCard : Claim7 := { stood := { row := propPointsUptoRow, standIns := [], harness := (true, "ea15d2eb81024d9e71850c30cd30141e77aebce7e40ec8c40f847e40fd417039"), looks := true }, kinds := [], alts := [], laidByText := true, laidKinds := [.data, .data, .data, .data, .pinned, .pinned], laidTests := true, laidLooks := .later }
def PropPointsUptoCardSaid : Prop := Claim7.holds Tryz.pinned (.plain (OpenSpec.upto propPointsSpec)) propPointsUptoCard

/-- THE SECOND FORM's CARD OF 'paronymlaw05.PropOthers'. -/
def propOthersUptoCard : Claim7 := { stood := { row := propOthersUptoRow, standIns := [], harness := (true, "ea15d2eb81024d9e71850c30cd30141e77aebce7e40ec8c40f847e40fd417039"), looks := true }, kinds := [], alts := [], laidByText := true, laidKinds := [.data, .data, .data, .data, .pinned, .pinned], laidTests := true, laidLooks := .later }
def PropOthersUptoCardSaid : Prop := Claim7.holds Tryz.pinned (.plain (OpenSpec.upto propOthersSpec)) propOthersUptoCard

/-- THE SECOND FORM's CARD OF 'paronymlaw06.ConfusParses'. -/
def confusParsesUptoCard : Claim7 := { stood := { row := confusParsesUptoRow, standIns := [], harness := (true, "ea15d2eb81024d9e71850c30cd30141e77aebce7e40ec8c40f847e40fd417039"), looks := true }, kinds := [], alts := [], laidByText := true, laidKinds := [.data, .data, .data, .data, .pinned, .pinned], laidTests := true, laidLooks := .later }
def ConfusParsesUptoCardSaid : Prop := Claim7.holds Tryz.pinned (.plain (OpenSpec.upto confusParsesSpec)) confusParsesUptoCard

/-- THE SECOND FORM's CARD OF 'paronymlaw06.ConfusTells'. -/
def confusTellsUptoCard : Claim7 := { stood := { row := confusTellsUptoRow, standIns := [], harness := (true, "ea15d2eb81024d9e71850c30cd30141e77aebce7e40ec8c40f847e40fd417039"), looks := true }, kinds := [], alts := [], laidByText := true, laidKinds := [.data, .data, .data, .data, .pinned, .pinned], laidTests := true, laidLooks := .later }
def ConfusTellsUptoCardSaid : Prop := Claim7.holds Tryz.pinned (.plain (OpenSpec.upto confusTellsSpec)) confusTellsUptoCard

/-- THE SECOND FORM's CARD OF 'paronymlaw06.ConfusTurned'. -/
def confusTurnedUptoCard : Claim7 := { stood := { row := confusTurnedUptoRow, standIns := [], harness := (true, "ea15d2eb81024d9e71850c30cd30141e77aebce7e40ec8c40f847e40fd417039"), looks := true }, kinds := [], alts := [], laidByText := true, laidKinds := [.data, .data, .data, .data, .pinned, .pinned], laidTests := true, laidLooks := .later }
def ConfusTurnedUptoCardSaid : Prop := Claim7.holds Tryz.pinned (.plain (OpenSpec.upto confusTurnedSpec)) confusTurnedUptoCard

/-- THE SECOND FORM's CARD OF 'paronymlaw04.UnicodeTells'. -/
def unicodeTellsUptoCard : Claim7 := { stood := { row := unicodeTellsUptoRow, standIns := [], harness := (true, "ea15d2eb81024d9e71850c30cd30141e77aebce7e40ec8c40f847e40fd417039"), looks := true }, kinds := [], alts := [], laidByText := true, laidKinds := [.data, .data, .data, .data, .sentinel, .sentinel, .pinned, .pinned], laidTests := true, laidLooks := .later }
def UnicodeTellsUptoCardSaid : Prop := Claim7.holds Tryz.pinned (.plain (OpenSpec.upto unicodeTellsSpec)) unicodeTellsUptoCard

/-- THE SECOND FORM's CARD OF 'paronymlaw04.UnicodeRemarks'. -/
def unicodeRemarksUptoCard : Claim7 := { stood := { row := unicodeRemarksUptoRow, standIns := [], harness := (true, "ea15d2eb81024d9e71850c30cd30141e77aebce7e40ec8c40f847e40fd417039"), looks := true }, kinds := [], alts := [], laidByText := true, laidKinds := [.data, .data, .data, .data, .sentinel, .sentinel, .pinned, .pinned], laidTests := true, laidLooks := .later }
def UnicodeRemarksUptoCardSaid : Prop := Claim7.holds Tryz.pinned (.plain (OpenSpec.upto unicodeRemarksSpec)) unicodeRemarksUptoCard

/-- THE SECOND FORM's CARD OF 'paronymlaw04.UnicodeRises'. -/
def unicodeRisesUptoCard : Claim7 := { stood := { row := unicodeRisesUptoRow, standIns := [], harness := (true, "ea15d2eb81024d9e71850c30cd30141e77aebce7e40ec8c40f847e40fd417039"), looks := true }, kinds := [], alts := [], laidByText := true, laidKinds := [.data, .data, .data, .data, .sentinel, .sentinel, .pinned, .pinned], laidTests := true, laidLooks := .later }
def UnicodeRisesUptoCardSaid : Prop := Claim7.holds Tryz.pinned (.plain (OpenSpec.upto unicodeRisesSpec)) unicodeRisesUptoCard
end Rows
end Go.Proofs.YtbpdcbibooiimaaGreatDoor
