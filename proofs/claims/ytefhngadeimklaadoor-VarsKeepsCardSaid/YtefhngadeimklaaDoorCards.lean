/-
  DERIVED. GIVEN WITH THE SEED: THE CARDS: each row of YtefhngadeimklaaDoorRows.lean that lists a variable, with what it lists TIED to the program's text (the seventh form; the later family's looks); each row that meets fmt, with fmt's text TOLD by the authors' own Lean function (tested against real Go, not proved from fmt's source: count such statements apart). THE CARD IS WHAT COUNTS. Prove the row's statement (the work); the ties are given (YtefhngadeimklaaDoorTie.lean); close each card by the builder's one call (the guide's Derived/Test/ToyasCard.lean, 'card_holds'). Laid BY PROGRAM, IN A SANDBOX (cutbox-door.mjs). By AI agents, Wed Nov 11 2026. No macro, syntax, notation, axiom, sorry.
-/
import Derived.Test.YtefhngadeimklaaDoorRows
import GoSem.ClaimSeven
namespace Go.Proofs.YtefhngadeimklaaDoor
namespace Rows

/-- THE TIED CARD OF 'tinderlaw19.VarsSets'. -/
def varsSetsCard : Claim7 := { stood := { row := varsSetsRow, standIns := [], harness := (true, "52f5587dcb6429c6c852b5511f9402b38c63ecd9e885056e285e809b82c5360b"), looks := false }, kinds := [], alts := [], laidByText := true, laidKinds := [.data, .data, .data], laidTests := true, laidLooks := .later }
def VarsSetsCardSaid : Prop := Claim7.holds Tryd.pinned (.plain (OpenSpec.ofChange varsSetsSpec)) varsSetsCard

/-- THE TIED CARD OF 'tinderlaw19.VarsForms'. -/
def varsFormsCard : Claim7 := { stood := { row := varsFormsRow, standIns := [], harness := (true, "52f5587dcb6429c6c852b5511f9402b38c63ecd9e885056e285e809b82c5360b"), looks := false }, kinds := [], alts := [], laidByText := true, laidKinds := [.data, .data, .data], laidTests := true, laidLooks := .later }
def VarsFormsCardSaid : Prop := Claim7.holds Tryd.pinned (.plain (OpenSpec.ofChange varsFormsSpec)) varsFormsCard

/-- THE TIED CARD OF 'tinderlaw19.VarsGets'. -/
def varsGetsCard : Claim7 := { stood := { row := varsGetsRow, standIns := [], harness := (true, "52f5587dcb6429c6c852b5511f9402b38c63ecd9e885056e285e809b82c5360b"), looks := false }, kinds := [], alts := [], laidByText := true, laidKinds := [.data, .data, .data], laidTests := true, laidLooks := .later }
def VarsGetsCardSaid : Prop := Claim7.holds Tryd.pinned (.plain (OpenSpec.ofChange varsGetsSpec)) varsGetsCard

/-- THE TIED CARD OF 'tinderlaw19.VarsKeeps'. -/
def varsKeepsCard : Claim7 := { stood := { row := varsKeepsRow, standIns := [], harness := (true, "52f5587dcb6429c6c852b5511f9402b38c63ecd9e885056e285e809b82c5360b"), looks := false }, kinds := [], alts := [], laidByText := true, laidKinds := [.data, .data, .data], laidTests := true, laidLooks := .later }
def VarsKeepsCardSaid : Prop := Claim7.holds Tryd.pinned (.plain (OpenSpec.ofChange varsKeepsSpec)) varsKeepsCard

/-- THE TIED CARD OF 'tinderlaw19.VarsBytes'. -/
def varsBytesCard : Claim7 := { stood := { row := varsBytesRow, standIns := [], harness := (true, "52f5587dcb6429c6c852b5511f9402b38c63ecd9e885056e285e809b82c5360b"), looks := false }, kinds := [], alts := [], laidByText := true, laidKinds := [.data, .data, .data], laidTests := true, laidLooks := .later }
def VarsBytesCardSaid : Prop := Claim7.holds Tryd.pinned (.plain (OpenSpec.ofChange varsBytesSpec)) varsBytesCard

/-- THE TIED CARD OF 'tinderlaw19.VarsBack'. -/
def varsBackCard : Claim7 := { stood := { row := varsBackRow, standIns := [], harness := (true, "52f5587dcb6429c6c852b5511f9402b38c63ecd9e885056e285e809b82c5360b"), looks := false }, kinds := [], alts := [], laidByText := true, laidKinds := [.data, .data, .data], laidTests := true, laidLooks := .later }
def VarsBackCardSaid : Prop := Claim7.holds Tryd.pinned (.plain (OpenSpec.ofChange varsBackSpec)) varsBackCard

/-- THE TIED CARD OF 'tinderlaw19.VarsLoads'. -/
def varsLoadsCard : Claim7 := { stood := { row := varsLoadsRow, standIns := [], harness := (true, "52f5587dcb6429c6c852b5511f9402b38c63ecd9e885056e285e809b82c5360b"), looks := false }, kinds := [], alts := [], laidByText := true, laidKinds := [.data, .data, .data], laidTests := true, laidLooks := .later }
def VarsLoadsCardSaid : Prop := Claim7.holds Tryd.pinned (.plain (OpenSpec.ofChange varsLoadsSpec)) varsLoadsCard

/-- THE TIED CARD OF 'tinderlaw19.VarsCut'. -/
def varsCutCard : Claim7 := { stood := { row := varsCutRow, standIns := [], harness := (true, "52f5587dcb6429c6c852b5511f9402b38c63ecd9e885056e285e809b82c5360b"), looks := false }, kinds := [], alts := [], laidByText := true, laidKinds := [.data, .data, .data], laidTests := true, laidLooks := .later }
def VarsCutCardSaid : Prop := Claim7.holds Tryd.pinned (.plain (OpenSpec.ofChange varsCutSpec)) varsCutCard

/-- THE SECOND FORM's CARD OF 'tinderlaw19.VarsSets'. -/
def varsSetsUptoCard : Claim7 := { stood := { row := varsSetsUptoRow, standIns := [], harness := (true, "52f5587dcb6429c6c852b5511f9402b38c63ecd9e885056e285e809b82c5360b"), looks := false }, kinds := [], alts := [], laidByText := true, laidKinds := [.data, .data, .data], laidTests := true, laidLooks := .later }
def VarsSetsUptoCardSaid : Prop := Claim7.holds Tryd.pinned (.plain (OpenSpec.upto varsSetsSpec)) varsSetsUptoCard

/-- THE SECOND FORM's CARD OF 'tinderlaw19.VarsForms'. -/
def varsFormsUptoCard : Claim7 := { stood := { row := varsFormsUptoRow, standIns := [], harness := (true, "52f5587dcb6429c6c852b5511f9402b38c63ecd9e885056e285e809b82c5360b"), looks := false }, kinds := [], alts := [], laidByText := true, laidKinds := [.data, .data, .data], laidTests := true, laidLooks := .later }
def VarsFormsUptoCardSaid : Prop := Claim7.holds Tryd.pinned (.plain (OpenSpec.upto varsFormsSpec)) varsFormsUptoCard

/-- THE SECOND FORM's CARD OF 'tinderlaw19.VarsGets'. -/
def varsGetsUptoCard : Claim7 := { stood := { row := varsGetsUptoRow, standIns := [], harness := (true, "52f5587dcb6429c6c852b5511f9402b38c63ecd9e885056e285e809b82c5360b"), looks := false }, kinds := [], alts := [], laidByText := true, laidKinds := [.data, .data, .data], laidTests := true, laidLooks := .later }
def VarsGetsUptoCardSaid : Prop := Claim7.holds Tryd.pinned (.plain (OpenSpec.upto varsGetsSpec)) varsGetsUptoCard

/-- THE SECOND FORM's CARD OF 'tinderlaw19.VarsKeeps'. -/
def varsKeepsUptoCard : Claim7 := { stood := { row := varsKeepsUptoRow, standIns := [], harness := (true, "52f5587dcb6429c6c852b5511f9402b38c63ecd9e885056e285e809b82c5360b"), looks := false }, kinds := [], alts := [], laidByText := true, laidKinds := [.data, .data, .data], laidTests := true, laidLooks := .later }
def VarsKeepsUptoCardSaid : Prop := Claim7.holds Tryd.pinned (.plain (OpenSpec.upto varsKeepsSpec)) varsKeepsUptoCard

/-- THE SECOND FORM's CARD OF 'tinderlaw19.VarsBytes'. -/
def varsBytesUptoCard : Claim7 := { stood := { row := varsBytesUptoRow, standIns := [], harness := (true, "52f5587dcb6429c6c852b5511f9402b38c63ecd9e885056e285e809b82c5360b"), looks := false }, kinds := [], alts := [], laidByText := true, laidKinds := [.data, .data, .data], laidTests := true, laidLooks := .later }
def VarsBytesUptoCardSaid : Prop := Claim7.holds Tryd.pinned (.plain (OpenSpec.upto varsBytesSpec)) varsBytesUptoCard

/-- THE SECOND FORM's CARD OF 'tinderlaw19.VarsBack'. -/
def varsBackUptoCard : Claim7 := { stood := { row := varsBackUptoRow, standIns := [], harness := (true, "52f5587dcb6429c6c852b5511f9402b38c63ecd9e885056e285e809b82c5360b"), looks := false }, kinds := [], alts := [], laidByText := true, laidKinds := [.data, .data, .data], laidTests := true, laidLooks := .later }
def VarsBackUptoCardSaid : Prop := Claim7.holds Tryd.pinned (.plain (OpenSpec.upto varsBackSpec)) varsBackUptoCard

/-- THE SECOND FORM's CARD OF 'tinderlaw19.VarsLoads'. -/
def varsLoadsUptoCard : Claim7 := { stood := { row := varsLoadsUptoRow, standIns := [], harness := (true, "52f5587dcb6429c6c852b5511f9402b38c63ecd9e885056e285e809b82c5360b"), looks := false }, kinds := [], alts := [], laidByText := true, laidKinds := [.data, .data, .data], laidTests := true, laidLooks := .later }
def VarsLoadsUptoCardSaid : Prop := Claim7.holds Tryd.pinned (.plain (OpenSpec.upto varsLoadsSpec)) varsLoadsUptoCard

/-- THE SECOND FORM's CARD OF 'tinderlaw19.VarsCut'. -/
def varsCutUptoCard : Claim7 := { stood := { row := varsCutUptoRow, standIns := [], harness := (true, "52f5587dcb6429c6c852b5511f9402b38c63ecd9e885056e285e809b82c5360b"), looks := false }, kinds := [], alts := [], laidByText := true, laidKinds := [.data, .data, .data], laidTests := true, laidLooks := .later }
def VarsCutUptoCardSaid : Prop := Claim7.holds Tryd.pinned (.plain (OpenSpec.upto varsCutSpec)) varsCutUptoCard
end Rows
end Go.Proofs.YtefhngadeimklaaDoor
