/-
  DERIVED. GIVEN WITH THE SEED: THE CARDS: each row of YtlhnaplmphdhlaaDoorRows.lean that lists a variable, with what it lists TIED to the program's text (the seventh form; the later family's looks); each row that meets fmt, with fmt's text TOLD by the authors' own Lean function (tested against real Go, not proved from fmt's source: count such statements apart). THE CARD IS WHAT COUNTS. Prove the row's statement (the work); the ties are given (YtlhnaplmphdhlaaDoorTie.lean); close each card by the builder's one call (the guide's Derived/Test/ToyasCard.lean, 'card_holds'). Laid BY PROGRAM, IN A SANDBOX (cutbox-door.mjs). By AI agents, Wed Nov 11 2026. No macro, syntax, notation, axiom, sorry.
-/
import Derived.Test.YtlhnaplmphdhlaaDoorRows
import GoSem.ClaimSeven
namespace Go.Proofs.YtlhnaplmphdhlaaDoor
namespace Rows

/-- THE TIED CARD OF 'tinderlaw05.PropNames'. -/
def propNamesCard : Claim7 := { stood := { row := propNamesRow, standIns := [], harness := (true, "5e92ce486aa052508fe4368971e3805b600269a6fd4d00a5f3fbc8457e6da657"), looks := false }, kinds := [], alts := [], laidByText := true, laidKinds := [.data, .pinned], laidTests := true, laidLooks := .later }
def PropNamesCardSaid : Prop := Claim7.holds Tryd.pinned (.plain (OpenSpec.ofChange propNamesSpec)) propNamesCard

/-- THE TIED CARD OF 'tinderlaw05.PropEncodes'. -/
def propEncodesCard : Claim7 := { stood := { row := propEncodesRow, standIns := [], harness := (true, "5e92ce486aa052508fe4368971e3805b600269a6fd4d00a5f3fbc8457e6da657"), looks := false }, kinds := [], alts := [], laidByText := true, laidKinds := [.data, .pinned], laidTests := true, laidLooks := .later }
def PropEncodesCardSaid : Prop := Claim7.holds Tryd.pinned (.plain (OpenSpec.ofChange propEncodesSpec)) propEncodesCard

/-- THE TIED CARD OF 'tinderlaw05.PropJoins'. -/
def propJoinsCard : Claim7 := { stood := { row := propJoinsRow, standIns := [], harness := (true, "5e92ce486aa052508fe4368971e3805b600269a6fd4d00a5f3fbc8457e6da657"), looks := false }, kinds := [], alts := [], laidByText := true, laidKinds := [.data, .pinned], laidTests := true, laidLooks := .later }
def PropJoinsCardSaid : Prop := Claim7.holds Tryd.pinned (.plain (OpenSpec.ofChange propJoinsSpec)) propJoinsCard

/-- THE TIED CARD OF 'tinderlaw05.PropRows'. -/
def propRowsCard : Claim7 := { stood := { row := propRowsRow, standIns := [], harness := (true, "5e92ce486aa052508fe4368971e3805b600269a6fd4d00a5f3fbc8457e6da657"), looks := false }, kinds := [], alts := [], laidByText := true, laidKinds := [.data, .pinned], laidTests := true, laidLooks := .later }
def PropRowsCardSaid : Prop := Claim7.holds Tryd.pinned (.plain (OpenSpec.ofChange propRowsSpec)) propRowsCard

/-- THE TIED CARD OF 'tinderlaw05.PropDecodes'. -/
def propDecodesCard : Claim7 := { stood := { row := propDecodesRow, standIns := [], harness := (true, "5e92ce486aa052508fe4368971e3805b600269a6fd4d00a5f3fbc8457e6da657"), looks := false }, kinds := [], alts := [], laidByText := true, laidKinds := [.data, .pinned], laidTests := true, laidLooks := .later }
def PropDecodesCardSaid : Prop := Claim7.holds Tryd.pinned (.plain (OpenSpec.ofChange propDecodesSpec)) propDecodesCard

/-- THE TIED CARD OF 'tinderlaw05.PropUnits'. -/
def propUnitsCard : Claim7 := { stood := { row := propUnitsRow, standIns := [], harness := (true, "5e92ce486aa052508fe4368971e3805b600269a6fd4d00a5f3fbc8457e6da657"), looks := false }, kinds := [], alts := [], laidByText := true, laidKinds := [.data, .data, .data, .data, .pinned], laidTests := true, laidLooks := .later }
def PropUnitsCardSaid : Prop := Claim7.holds Tryd.pinned (.plain (OpenSpec.ofChange propUnitsSpec)) propUnitsCard

/-- THE TIED CARD OF 'tinderlaw05.PropBack'. -/
def propBackCard : Claim7 := { stood := { row := propBackRow, standIns := [], harness := (true, "5e92ce486aa052508fe4368971e3805b600269a6fd4d00a5f3fbc8457e6da657"), looks := false }, kinds := [], alts := [], laidByText := true, laidKinds := [.data, .data, .data, .data, .pinned], laidTests := true, laidLooks := .later }
def PropBackCardSaid : Prop := Claim7.holds Tryd.pinned (.plain (OpenSpec.ofChange propBackSpec)) propBackCard

/-- THE TIED CARD OF 'tinderlaw07.PathParses'. -/
def pathParsesCard : Claim7 := { stood := { row := pathParsesRow, standIns := [], harness := (true, "5e92ce486aa052508fe4368971e3805b600269a6fd4d00a5f3fbc8457e6da657"), looks := false }, kinds := [], alts := [], laidByText := true, laidKinds := [.data, .pinned], laidTests := true, laidLooks := .later }
def PathParsesCardSaid : Prop := Claim7.holds Tryd.pinned (.plain (OpenSpec.ofChange pathParsesSpec)) pathParsesCard

/-- THE TIED CARD OF 'tinderlaw07.PathShows'. -/
def pathShowsCard : Claim7 := { stood := { row := pathShowsRow, standIns := [], harness := (true, "5e92ce486aa052508fe4368971e3805b600269a6fd4d00a5f3fbc8457e6da657"), looks := false }, kinds := [], alts := [], laidByText := true, laidKinds := [.data, .data, .data, .data, .pinned], laidTests := true, laidLooks := .later }
def PathShowsCardSaid : Prop := Claim7.holds Tryd.pinned (.plain (OpenSpec.ofChange pathShowsSpec)) pathShowsCard

/-- THE TIED CARD OF 'tinderlaw07.PathBack'. -/
def pathBackCard : Claim7 := { stood := { row := pathBackRow, standIns := [], harness := (true, "5e92ce486aa052508fe4368971e3805b600269a6fd4d00a5f3fbc8457e6da657"), looks := false }, kinds := [], alts := [], laidByText := true, laidKinds := [.data, .data, .data, .data, .pinned], laidTests := true, laidLooks := .later }
def PathBackCardSaid : Prop := Claim7.holds Tryd.pinned (.plain (OpenSpec.ofChange pathBackSpec)) pathBackCard

/-- THE TIED CARD OF 'tinderlaw07.PathAgain'. -/
def pathAgainCard : Claim7 := { stood := { row := pathAgainRow, standIns := [], harness := (true, "5e92ce486aa052508fe4368971e3805b600269a6fd4d00a5f3fbc8457e6da657"), looks := false }, kinds := [], alts := [], laidByText := true, laidKinds := [.data, .data, .data, .data, .pinned], laidTests := true, laidLooks := .later }
def PathAgainCardSaid : Prop := Claim7.holds Tryd.pinned (.plain (OpenSpec.ofChange pathAgainSpec)) pathAgainCard

/-- THE SECOND FORM's CARD OF 'tinderlaw05.PropNames'. -/
def propNamesUptoCard : Claim7 := { stood := { row := propNamesUptoRow, standIns := [], harness := (true, "5e92ce486aa052508fe4368971e3805b600269a6fd4d00a5f3fbc8457e6da657"), looks := false }, kinds := [], alts := [], laidByText := true, laidKinds := [.data, .pinned], laidTests := true, laidLooks := .later }
def PropNamesUptoCardSaid : Prop := Claim7.holds Tryd.pinned (.plain (OpenSpec.upto propNamesSpec)) propNamesUptoCard

/-- THE SECOND FORM's CARD OF 'tinderlaw05.PropEncodes'. -/
def propEncodesUptoCard : Claim7 := { stood := { row := propEncodesUptoRow, standIns := [], harness := (true, "5e92ce486aa052508fe4368971e3805b600269a6fd4d00a5f3fbc8457e6da657"), looks := false }, kinds := [], alts := [], laidByText := true, laidKinds := [.data, .pinned], laidTests := true, laidLooks := .later }
def PropEncodesUptoCardSaid : Prop := Claim7.holds Tryd.pinned (.plain (OpenSpec.upto propEncodesSpec)) propEncodesUptoCard

/-- THE SECOND FORM's CARD OF 'tinderlaw05.PropJoins'. -/
def propJoinsUptoCard : Claim7 := { stood := { row := propJoinsUptoRow, standIns := [], harness := (true, "5e92ce486aa052508fe4368971e3805b600269a6fd4d00a5f3fbc8457e6da657"), looks := false }, kinds := [], alts := [], laidByText := true, laidKinds := [.data, .pinned], laidTests := true, laidLooks := .later }
def PropJoinsUptoCardSaid : Prop := Claim7.holds Tryd.pinned (.plain (OpenSpec.upto propJoinsSpec)) propJoinsUptoCard

/-- THE SECOND FORM's CARD OF 'tinderlaw05.PropRows'. -/
def propRowsUptoCard : Claim7 := { stood := { row := propRowsUptoRow, standIns := [], harness := (true, "5e92ce486aa052508fe4368971e3805b600269a6fd4d00a5f3fbc8457e6da657"), looks := false }, kinds := [], alts := [], laidByText := true, laidKinds := [.data, .pinned], laidTests := true, laidLooks := .later }
def PropRowsUptoCardSaid : Prop := Claim7.holds Tryd.pinned (.plain (OpenSpec.upto propRowsSpec)) propRowsUptoCard

/-- THE SECOND FORM's CARD OF 'tinderlaw05.PropDecodes'. -/
def propDecodesUptoCard : Claim7 := { stood := { row := propDecodesUptoRow, standIns := [], harness := (true, "5e92ce486aa052508fe4368971e3805b600269a6fd4d00a5f3fbc8457e6da657"), looks := false }, kinds := [], alts := [], laidByText := true, laidKinds := [.data, .pinned], laidTests := true, laidLooks := .later }
def PropDecodesUptoCardSaid : Prop := Claim7.holds Tryd.pinned (.plain (OpenSpec.upto propDecodesSpec)) propDecodesUptoCard

/-- THE SECOND FORM's CARD OF 'tinderlaw05.PropUnits'. -/
def propUnitsUptoCard : Claim7 := { stood := { row := propUnitsUptoRow, standIns := [], harness := (true, "5e92ce486aa052508fe4368971e3805b600269a6fd4d00a5f3fbc8457e6da657"), looks := false }, kinds := [], alts := [], laidByText := true, laidKinds := [.data, .data, .data, .data, .pinned], laidTests := true, laidLooks := .later }
def PropUnitsUptoCardSaid : Prop := Claim7.holds Tryd.pinned (.plain (OpenSpec.upto propUnitsSpec)) propUnitsUptoCard

/-- THE SECOND FORM's CARD OF 'tinderlaw05.PropBack'. -/
def propBackUptoCard : Claim7 := { stood := { row := propBackUptoRow, standIns := [], harness := (true, "5e92ce486aa052508fe4368971e3805b600269a6fd4d00a5f3fbc8457e6da657"), looks := false }, kinds := [], alts := [], laidByText := true, laidKinds := [.data, .data, .data, .data, .pinned], laidTests := true, laidLooks := .later }
def PropBackUptoCardSaid : Prop := Claim7.holds Tryd.pinned (.plain (OpenSpec.upto propBackSpec)) propBackUptoCard

/-- THE SECOND FORM's CARD OF 'tinderlaw07.PathParses'. -/
def pathParsesUptoCard : Claim7 := { stood := { row := pathParsesUptoRow, standIns := [], harness := (true, "5e92ce486aa052508fe4368971e3805b600269a6fd4d00a5f3fbc8457e6da657"), looks := false }, kinds := [], alts := [], laidByText := true, laidKinds := [.data, .pinned], laidTests := true, laidLooks := .later }
def PathParsesUptoCardSaid : Prop := Claim7.holds Tryd.pinned (.plain (OpenSpec.upto pathParsesSpec)) pathParsesUptoCard

/-- THE SECOND FORM's CARD OF 'tinderlaw07.PathShows'. -/
def pathShowsUptoCard : Claim7 := { stood := { row := pathShowsUptoRow, standIns := [], harness := (true, "5e92ce486aa052508fe4368971e3805b600269a6fd4d00a5f3fbc8457e6da657"), looks := false }, kinds := [], alts := [], laidByText := true, laidKinds := [.data, .data, .data, .data, .pinned], laidTests := true, laidLooks := .later }
def PathShowsUptoCardSaid : Prop := Claim7.holds Tryd.pinned (.plain (OpenSpec.upto pathShowsSpec)) pathShowsUptoCard

/-- THE SECOND FORM's CARD OF 'tinderlaw07.PathBack'. -/
def pathBackUptoCard : Claim7 := { stood := { row := pathBackUptoRow, standIns := [], harness := (true, "5e92ce486aa052508fe4368971e3805b600269a6fd4d00a5f3fbc8457e6da657"), looks := false }, kinds := [], alts := [], laidByText := true, laidKinds := [.data, .data, .data, .data, .pinned], laidTests := true, laidLooks := .later }
def PathBackUptoCardSaid : Prop := Claim7.holds Tryd.pinned (.plain (OpenSpec.upto pathBackSpec)) pathBackUptoCard

/-- THE SECOND FORM's CARD OF 'tinderlaw07.PathAgain'. -/
def pathAgainUptoCard : Claim7 := { stood := { row := pathAgainUptoRow, standIns := [], harness := (true, "5e92ce486aa052508fe4368971e3805b600269a6fd4d00a5f3fbc8457e6da657"), looks := false }, kinds := [], alts := [], laidByText := true, laidKinds := [.data, .data, .data, .data, .pinned], laidTests := true, laidLooks := .later }
def PathAgainUptoCardSaid : Prop := Claim7.holds Tryd.pinned (.plain (OpenSpec.upto pathAgainSpec)) pathAgainUptoCard
end Rows
end Go.Proofs.YtlhnaplmphdhlaaDoor
