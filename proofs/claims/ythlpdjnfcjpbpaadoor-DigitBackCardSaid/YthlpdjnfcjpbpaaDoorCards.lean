/-
  DERIVED. GIVEN WITH THE SEED: THE CARDS: each row of YthlpdjnfcjpbpaaDoorRows.lean that lists a variable, with what it lists TIED to the program's text (the seventh form; the later family's looks); each row that meets fmt, with fmt's text TOLD by the authors' own Lean function (tested against real Go, not proved from fmt's source: count such statements apart). THE CARD IS WHAT COUNTS. Prove the row's statement (the work); the ties are given (YthlpdjnfcjpbpaaDoorTie.lean); close each card by the builder's one call (the guide's Derived/Test/ToyasCard.lean, 'card_holds'). Laid BY PROGRAM, IN A SANDBOX (cutbox-door.mjs). By AI agents, Wed Nov 11 2026. No macro, syntax, notation, axiom, sorry.
-/
import Derived.Test.YthlpdjnfcjpbpaaDoorRows
import GoSem.ClaimSeven
namespace Go.Proofs.YthlpdjnfcjpbpaaDoor
namespace Rows

/-- THE TIED CARD OF 'tinderlaw02.DigitValues'. -/
def digitValuesCard : Claim7 := { stood := { row := digitValuesRow, standIns := [], harness := (true, "6c518a50fd1fc8d27ff847700686a443716f584aa3d7a6216790fc055a5226ac"), looks := false }, kinds := [], alts := [], laidByText := true, laidKinds := [.data, .data, .data], laidTests := true, laidLooks := .later }
def DigitValuesCardSaid : Prop := Claim7.holds Tryd.pinned (.plain (OpenSpec.ofChange digitValuesSpec)) digitValuesCard

/-- THE TIED CARD OF 'tinderlaw02.DigitParses'. -/
def digitParsesCard : Claim7 := { stood := { row := digitParsesRow, standIns := [], harness := (true, "6c518a50fd1fc8d27ff847700686a443716f584aa3d7a6216790fc055a5226ac"), looks := false }, kinds := [], alts := [], laidByText := true, laidKinds := [.data, .data, .data], laidTests := true, laidLooks := .later }
def DigitParsesCardSaid : Prop := Claim7.holds Tryd.pinned (.plain (OpenSpec.ofChange digitParsesSpec)) digitParsesCard

/-- THE TIED CARD OF 'tinderlaw02.DigitShows'. -/
def digitShowsCard : Claim7 := { stood := { row := digitShowsRow, standIns := [], harness := (true, "6c518a50fd1fc8d27ff847700686a443716f584aa3d7a6216790fc055a5226ac"), looks := false }, kinds := [], alts := [], laidByText := true, laidKinds := [.data, .data, .data], laidTests := true, laidLooks := .later }
def DigitShowsCardSaid : Prop := Claim7.holds Tryd.pinned (.plain (OpenSpec.ofChange digitShowsSpec)) digitShowsCard

/-- THE TIED CARD OF 'tinderlaw02.DigitBack'. -/
def digitBackCard : Claim7 := { stood := { row := digitBackRow, standIns := [], harness := (true, "6c518a50fd1fc8d27ff847700686a443716f584aa3d7a6216790fc055a5226ac"), looks := false }, kinds := [], alts := [], laidByText := true, laidKinds := [.data, .data, .data], laidTests := true, laidLooks := .later }
def DigitBackCardSaid : Prop := Claim7.holds Tryd.pinned (.plain (OpenSpec.ofChange digitBackSpec)) digitBackCard

/-- THE TIED CARD OF 'tinderlaw02.DigitLiterals'. -/
def digitLiteralsCard : Claim7 := { stood := { row := digitLiteralsRow, standIns := [], harness := (true, "6c518a50fd1fc8d27ff847700686a443716f584aa3d7a6216790fc055a5226ac"), looks := false }, kinds := [], alts := [], laidByText := true, laidKinds := [.data, .data, .data], laidTests := true, laidLooks := .later }
def DigitLiteralsCardSaid : Prop := Claim7.holds Tryd.pinned (.plain (OpenSpec.ofChange digitLiteralsSpec)) digitLiteralsCard

/-- THE TIED CARD OF 'tinderlaw02.DigitRights'. -/
def digitRightsCard : Claim7 := { stood := { row := digitRightsRow, standIns := [], harness := (true, "6c518a50fd1fc8d27ff847700686a443716f584aa3d7a6216790fc055a5226ac"), looks := false }, kinds := [], alts := [], laidByText := true, laidKinds := [.data, .data, .data], laidTests := true, laidLooks := .later }
def DigitRightsCardSaid : Prop := Claim7.holds Tryd.pinned (.plain (OpenSpec.ofChange digitRightsSpec)) digitRightsCard

/-- THE SECOND FORM's CARD OF 'tinderlaw02.DigitValues'. -/
def digitValuesUptoCard : Claim7 := { stood := { row := digitValuesUptoRow, standIns := [], harness := (true, "6c518a50fd1fc8d27ff847700686a443716f584aa3d7a6216790fc055a5226ac"), looks := false }, kinds := [], alts := [], laidByText := true, laidKinds := [.data, .data, .data], laidTests := true, laidLooks := .later }
def DigitValuesUptoCardSaid : Prop := Claim7.holds Tryd.pinned (.plain (OpenSpec.upto digitValuesSpec)) digitValuesUptoCard

/-- THE SECOND FORM's CARD OF 'tinderlaw02.DigitParses'. -/
def digitParsesUptoCard : Claim7 := { stood := { row := digitParsesUptoRow, standIns := [], harness := (true, "6c518a50fd1fc8d27ff847700686a443716f584aa3d7a6216790fc055a5226ac"), looks := false }, kinds := [], alts := [], laidByText := true, laidKinds := [.data, .data, .data], laidTests := true, laidLooks := .later }
def DigitParsesUptoCardSaid : Prop := Claim7.holds Tryd.pinned (.plain (OpenSpec.upto digitParsesSpec)) digitParsesUptoCard

/-- THE SECOND FORM's CARD OF 'tinderlaw02.DigitShows'. -/
def digitShowsUptoCard : Claim7 := { stood := { row := digitShowsUptoRow, standIns := [], harness := (true, "6c518a50fd1fc8d27ff847700686a443716f584aa3d7a6216790fc055a5226ac"), looks := false }, kinds := [], alts := [], laidByText := true, laidKinds := [.data, .data, .data], laidTests := true, laidLooks := .later }
def DigitShowsUptoCardSaid : Prop := Claim7.holds Tryd.pinned (.plain (OpenSpec.upto digitShowsSpec)) digitShowsUptoCard

/-- THE SECOND FORM's CARD OF 'tinderlaw02.DigitBack'. -/
def digitBackUptoCard : Claim7 := { stood := { row := digitBackUptoRow, standIns := [], harness := (true, "6c518a50fd1fc8d27ff847700686a443716f584aa3d7a6216790fc055a5226ac"), looks := false }, kinds := [], alts := [], laidByText := true, laidKinds := [.data, .data, .data], laidTests := true, laidLooks := .later }
def DigitBackUptoCardSaid : Prop := Claim7.holds Tryd.pinned (.plain (OpenSpec.upto digitBackSpec)) digitBackUptoCard

/-- THE SECOND FORM's CARD OF 'tinderlaw02.DigitLiterals'. -/
def digitLiteralsUptoCard : Claim7 := { stood := { row := digitLiteralsUptoRow, standIns := [], harness := (true, "6c518a50fd1fc8d27ff847700686a443716f584aa3d7a6216790fc055a5226ac"), looks := false }, kinds := [], alts := [], laidByText := true, laidKinds := [.data, .data, .data], laidTests := true, laidLooks := .later }
def DigitLiteralsUptoCardSaid : Prop := Claim7.holds Tryd.pinned (.plain (OpenSpec.upto digitLiteralsSpec)) digitLiteralsUptoCard

/-- THE SECOND FORM's CARD OF 'tinderlaw02.DigitRights'. -/
def digitRightsUptoCard : Claim7 := { stood := { row := digitRightsUptoRow, standIns := [], harness := (true, "6c518a50fd1fc8d27ff847700686a443716f584aa3d7a6216790fc055a5226ac"), looks := false }, kinds := [], alts := [], laidByText := true, laidKinds := [.data, .data, .data], laidTests := true, laidLooks := .later }
def DigitRightsUptoCardSaid : Prop := Claim7.holds Tryd.pinned (.plain (OpenSpec.upto digitRightsSpec)) digitRightsUptoCard
end Rows
end Go.Proofs.YthlpdjnfcjpbpaaDoor
