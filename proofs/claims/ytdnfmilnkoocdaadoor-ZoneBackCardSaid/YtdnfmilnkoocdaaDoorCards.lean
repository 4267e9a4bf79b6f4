/-
  DERIVED. GIVEN WITH THE SEED: THE CARDS: each row of YtdnfmilnkoocdaaDoorRows.lean that lists a variable, with what it lists TIED to the program's text (the seventh form; the later family's looks); each row that meets fmt, with fmt's text TOLD by the authors' own Lean function (tested against real Go, not proved from fmt's source: count such statements apart). THE CARD IS WHAT COUNTS. Prove the row's statement (the work); the ties are given (YtdnfmilnkoocdaaDoorTie.lean); close each card by the builder's one call (the guide's Derived/Test/ToyasCard.lean, 'card_holds'). Laid BY PROGRAM, IN A SANDBOX (cutbox-door.mjs). By AI agents, Wed Nov 11 2026. No macro, syntax, notation, axiom, sorry.
-/
import Derived.Test.YtdnfmilnkoocdaaDoorRows
import GoSem.ClaimSeven
namespace Go.Proofs.YtdnfmilnkoocdaaDoor
namespace Rows

/-- THE TIED CARD OF 'paronymlaw25.TokenJoins'. -/
def tokenJoinsCard : Claim7 := { stood := { row := tokenJoinsRow, standIns := [], harness := (true, "c8db116255ca7d8a9a063ea87309dbd31f94f59187fe20dbf876020a6bd752c6"), looks := false }, kinds := [], alts := [], laidByText := true, laidKinds := [.data, .pinned], laidTests := true, laidLooks := .later }
def TokenJoinsCardSaid : Prop := Claim7.holds Tryd.pinned (.plain (OpenSpec.ofChange tokenJoinsSpec)) tokenJoinsCard

/-- THE TIED CARD OF 'paronymlaw25.TokenBack'. -/
def tokenBackCard : Claim7 := { stood := { row := tokenBackRow, standIns := [], harness := (true, "c8db116255ca7d8a9a063ea87309dbd31f94f59187fe20dbf876020a6bd752c6"), looks := false }, kinds := [], alts := [], laidByText := true, laidKinds := [.data, .pinned], laidTests := true, laidLooks := .later }
def TokenBackCardSaid : Prop := Claim7.holds Tryd.pinned (.plain (OpenSpec.ofChange tokenBackSpec)) tokenBackCard

/-- THE TIED CARD OF 'paronymlaw26.OwnerBack'. -/
def ownerBackCard : Claim7 := { stood := { row := ownerBackRow, standIns := [], harness := (true, "c8db116255ca7d8a9a063ea87309dbd31f94f59187fe20dbf876020a6bd752c6"), looks := false }, kinds := [], alts := [], laidByText := true, laidKinds := [.data, .pinned], laidTests := true, laidLooks := .later }
def OwnerBackCardSaid : Prop := Claim7.holds Tryd.pinned (.plain (OpenSpec.ofChange ownerBackSpec)) ownerBackCard

/-- THE TIED CARD OF 'paronymlaw27.ZoneRises'. -/
def zoneRisesCard : Claim7 := { stood := { row := zoneRisesRow, standIns := [], harness := (true, "c8db116255ca7d8a9a063ea87309dbd31f94f59187fe20dbf876020a6bd752c6"), looks := false }, kinds := [], alts := [], laidByText := true, laidKinds := [.data, .pinned], laidTests := true, laidLooks := .later }
def ZoneRisesCardSaid : Prop := Claim7.holds Tryd.pinned (.plain (OpenSpec.ofChange zoneRisesSpec)) zoneRisesCard

/-- THE TIED CARD OF 'paronymlaw27.ZoneRemarks'. -/
def zoneRemarksCard : Claim7 := { stood := { row := zoneRemarksRow, standIns := [], harness := (true, "c8db116255ca7d8a9a063ea87309dbd31f94f59187fe20dbf876020a6bd752c6"), looks := false }, kinds := [], alts := [], laidByText := true, laidKinds := [.data, .pinned], laidTests := true, laidLooks := .later }
def ZoneRemarksCardSaid : Prop := Claim7.holds Tryd.pinned (.plain (OpenSpec.ofChange zoneRemarksSpec)) zoneRemarksCard

/-- THE TIED CARD OF 'paronymlaw27.ZoneBack'. -/
def zoneBackCard : Claim7 := { stood := { row := zoneBackRow, standIns := [], harness := (true, "c8db116255ca7d8a9a063ea87309dbd31f94f59187fe20dbf876020a6bd752c6"), looks := false }, kinds := [], alts := [], laidByText := true, laidKinds := [.data, .pinned], laidTests := true, laidLooks := .later }
def ZoneBackCardSaid : Prop := Claim7.holds Tryd.pinned (.plain (OpenSpec.ofChange zoneBackSpec)) zoneBackCard

/-- THE TIED CARD OF 'paronymlaw02.FieldLines'. -/
def fieldLinesCard : Claim7 := { stood := { row := fieldLinesRow, standIns := [], harness := (true, "c8db116255ca7d8a9a063ea87309dbd31f94f59187fe20dbf876020a6bd752c6"), looks := false }, kinds := [], alts := [], laidByText := true, laidKinds := [.data, .data, .data, .data, .pinned, .pinned], laidTests := true, laidLooks := .later }
def FieldLinesCardSaid : Prop := Claim7.holds Tryd.pinned (.plain (OpenSpec.ofChange fieldLinesSpec)) fieldLinesCard

/-- THE TIED CARD OF 'paronymlaw02.FieldRemarks'. -/
def fieldRemarksCard : Claim7 := { stood := { row := fieldRemarksRow, standIns := [], harness := (true, "c8db116255ca7d8a9a063ea87309dbd31f94f59187fe20dbf876020a6bd752c6"), looks := false }, kinds := [], alts := [], laidByText := true, laidKinds := [.data, .data, .data, .data, .pinned, .pinned], laidTests := true, laidLooks := .later }
def FieldRemarksCardSaid : Prop := Claim7.holds Tryd.pinned (.plain (OpenSpec.ofChange fieldRemarksSpec)) fieldRemarksCard

/-- THE TIED CARD OF 'paronymlaw02.FieldPoints'. -/
def fieldPointsCard : Claim7 := { stood := { row := fieldPointsRow, standIns := [], harness := (true, "c8db116255ca7d8a9a063ea87309dbd31f94f59187fe20dbf876020a6bd752c6"), looks := false }, kinds := [], alts := [], laidByText := true, laidKinds := [.data, .data, .data, .data, .pinned, .pinned], laidTests := true, laidLooks := .later }
def FieldPointsCardSaid : Prop := Claim7.holds Tryd.pinned (.plain (OpenSpec.ofChange fieldPointsSpec)) fieldPointsCard

/-- THE TIED CARD OF 'paronymlaw02.FieldBack'. -/
def fieldBackCard : Claim7 := { stood := { row := fieldBackRow, standIns := [], harness := (true, "c8db116255ca7d8a9a063ea87309dbd31f94f59187fe20dbf876020a6bd752c6"), looks := false }, kinds := [], alts := [], laidByText := true, laidKinds := [.data, .data, .data, .data, .pinned, .pinned], laidTests := true, laidLooks := .later }
def FieldBackCardSaid : Prop := Claim7.holds Tryd.pinned (.plain (OpenSpec.ofChange fieldBackSpec)) fieldBackCard

/-- THE SECOND FORM's CARD OF 'paronymlaw25.TokenJoins'. -/
def tokenJoinsUptoCard : Claim7 := { stood := { row := tokenJoinsUptoRow, standIns := [], harness := (true, "c8db116255ca7d8a9a063ea87309dbd31f94f59187fe20dbf876020a6bd752c6"), looks := false }, kinds := [], alts := [], laidByText := true, laidKinds := [.data, .pinned], laidTests := true, laidLooks := .later }
def TokenJoinsUptoCardSaid : Prop := Claim7.holds Tryd.pinned (.plain (OpenSpec.upto tokenJoinsSpec)) tokenJoinsUptoCard

/-- THE SECOND FORM's CARD OF 'paronymlaw25.TokenBack'. -/
def tokenBackUptoCard : Claim7 := { stood := { row := tokenBackUptoRow, standIns := [], harness := (true, "c8db116255ca7d8a9a063ea87309dbd31f94f59187fe20dbf876020a6bd752c6"), looks := false }, kinds := [], alts := [], laidByText := true, laidKinds := [.data, .pinned], laidTests := true, laidLooks := .later }
def TokenBackUptoCardSaid : Prop := Claim7.holds Tryd.pinned (.plain (OpenSpec.upto tokenBackSpec)) tokenBackUptoCard

/-- THE SECOND FORM's CARD OF 'paronymlaw26.OwnerBack'. -/
def ownerBackUptoCard : Claim7 := { stood := { row := ownerBackUptoRow, standIns := [], harness := (true, "c8db116255ca7d8a9a063ea87309dbd31f94f59187fe20dbf876020a6bd752c6"), looks := false }, kinds := [], alts := [], laidByText := true, laidKinds := [.data, .pinned], laidTests := true, laidLooks := .later }
def OwnerBackUptoCardSaid : Prop := Claim7.holds Tryd.pinned (.plain (OpenSpec.upto ownerBackSpec)) ownerBackUptoCard

/-- THE SECOND FORM's CARD OF 'paronymlaw27.ZoneRises'. -/
def zoneRisesUptoCard : Claim7 := { stood := { row := zoneRisesUptoRow, standIns := [], harness := (true, "c8db116255ca7d8a9a063ea87309dbd31f94f59187fe20dbf876020a6bd752c6"), looks := false }, kinds := [], alts := [], laidByText := true, laidKinds := [.data, .pinned], laidTests := true, laidLooks := .later }
def ZoneRisesUptoCardSaid : Prop := Claim7.holds Tryd.pinned (.plain (OpenSpec.upto zoneRisesSpec)) zoneRisesUptoCard

/-- THE SECOND FORM's CARD OF 'paronymlaw27.ZoneRemarks'. -/
def zoneRemarksUptoCard : Claim7 := { stood := { row := zoneRemarksUptoRow, standIns := [], harness := (true, "c8db116255ca7d8a9a063ea87309dbd31f94f59187fe20dbf876020a6bd752c6"), looks := false }, kinds := [], alts := [], laidByText := true, laidKinds := [.data, .pinned], laidTests := true, laidLooks := .later }
def ZoneRemarksUptoCardSaid : Prop := Claim7.holds Tryd.pinned (.plain (OpenSpec.upto zoneRemarksSpec)) zoneRemarksUptoCard

/-- THE SECOND FORM's CARD OF 'paronymlaw27.ZoneBack'. -/
def zoneBackUptoCard : Claim7 := { stood := { row := zoneBackUptoRow, standIns := [], harness := (true, "c8db116255ca7d8a9a063ea87309dbd31f94f59187fe20dbf876020a6bd752c6"), looks := false }, kinds := [], alts := [], laidByText := true, laidKinds := [.data, .pinned], laidTests := true, laidLooks := .later }
def ZoneBackUptoCardSaid : Prop := Claim7.holds Tryd.pinned (.plain (OpenSpec.upto zoneBackSpec)) zoneBackUptoCard

/-- THE SECOND FORM's CARD OF 'paronymlaw02.FieldLines'. -/
def fieldLinesUptoCard : Claim7 := { stood := { row := fieldLinesUptoRow, standIns := [], harness := (true, "c8db116255ca7d8a9a063ea87309dbd31f94f59187fe20dbf876020a6bd752c6"), looks := false }, kinds := [], alts := [], laidByText := true, laidKinds := [.data, .data, .data, .data, .pinned, .pinned], laidTests := true, laidLooks := .later }
def FieldLinesUptoCardSaid : Prop := Claim7.holds Tryd.pinned (.plain (OpenSpec.upto fieldLinesSpec)) fieldLinesUptoCard

/-- THE SECOND FORM's CARD OF 'paronymlaw02.FieldRemarks'. -/
def fieldRemarksUptoCard : Claim7 := { stood := { row := fieldRemarksUptoRow, standIns := [], harness := (true, "c8db116255ca7d8a9a063ea87309dbd31f94f59187fe20dbf876020a6bd752c6"), looks := false }, kinds := [], alts := [], laidByText := true, laidKinds := [.data, .data, .data, .data, .pinned, .pinned], laidTests := true, laidLooks := .later }
def FieldRemarksUptoCardSaid : Prop := Claim7.holds Tryd.pinned (.plain (OpenSpec.upto fieldRemarksSpec)) fieldRemarksUptoCard

/-- THE SECOND FORM's CARD OF 'paronymlaw02.FieldPoints'. -/
def fieldPointsUptoCard : Claim7 := { stood := { row := fieldPointsUptoRow, standIns := [], harness := (true, "c8db116255ca7d8a9a063ea87309dbd31f94f59187fe20dbf876020a6bd752c6"), looks := false }, kinds := [], alts := [], laidByText := true, laidKinds := [.data, .data, .data, .data, .pinned, .pinned], laidTests := true, laidLooks := .later }
def FieldPointsUptoCardSaid : Prop := Claim7.holds Tryd.pinned (.plain (OpenSpec.upto fieldPointsSpec)) fieldPointsUptoCard

/-- THE SECOND FORM's CARD OF 'paronymlaw02.FieldBack'. -/
def fieldBackUptoCard : Claim7 := { stood := { row := fieldBackUptoRow, standIns := [], harness := (true, "c8db116255ca7d8a9a063ea87309dbd31f94f59187fe20dbf876020a6bd752c6"), looks := false }, kinds := [], alts := [], laidByText := true, laidKinds := [.data, .data, .data, .data, .pinned, .pinned], laidTests := true, laidLooks := .later }
def FieldBackUptoCardSaid : Prop := Claim7.holds Tryd.pinned (.plain (OpenSpec.upto fieldBackSpec)) fieldBackUptoCard
end Rows
end Go.Proofs.YtdnfmilnkoocdaaDoor
