/-
  DERIVED. GIVEN WITH THE SEED: THE CARDS: each row of YtnalcjgefbelnaaDoorRows.lean that lists a variable, with what it lists TIED to the program's text (the seventh form; the later family's looks); each row that meets fmt, with fmt's text TOLD by the authors' own Lean function (tested against real Go, not proved from fmt's source: count such statements apart). THE CARD IS WHAT COUNTS. Prove the row's statement (the work); the ties are given (YtnalcjgefbelnaaDoorTie.lean); close each card by the builder's one call (the guide's Derived/Test/ToyasCard.lean, 'card_holds'). Laid BY PROGRAM, IN A SANDBOX (cutbox-door.mjs). By AI agents, Wed Nov 11 2026. No macro, syntax, notation, axiom, sorry.
-/
import Derived.Test.YtnalcjgefbelnaaDoorRows
import GoSem.ClaimSeven
namespace Go.Proofs.YtnalcjgefbelnaaDoor
namespace Rows

/-- THE TIED CARD OF 'tinderlaw08.TreeForms'. -/
def treeFormsCard : Claim7 := { stood := { row := treeFormsRow, standIns := [], harness := (true, "985b0ff7bb021169cba39113db63cc890ddc967a55f41fc18c9a34a5296cc34a"), looks := false }, kinds := [], alts := [], laidByText := true, laidKinds := [.data, .data, .data], laidTests := true, laidLooks := .later }
def TreeFormsCardSaid : Prop := Claim7.holds Tryd.pinned (.plain (OpenSpec.ofChange treeFormsSpec)) treeFormsCard

/-- THE TIED CARD OF 'tinderlaw08.TreeAdds'. -/
def treeAddsCard : Claim7 := { stood := { row := treeAddsRow, standIns := [], harness := (true, "985b0ff7bb021169cba39113db63cc890ddc967a55f41fc18c9a34a5296cc34a"), looks := false }, kinds := [], alts := [], laidByText := true, laidKinds := [.data, .data, .data], laidTests := true, laidLooks := .later }
def TreeAddsCardSaid : Prop := Claim7.holds Tryd.pinned (.plain (OpenSpec.ofChange treeAddsSpec)) treeAddsCard

/-- THE TIED CARD OF 'tinderlaw08.TreeFinds'. -/
def treeFindsCard : Claim7 := { stood := { row := treeFindsRow, standIns := [], harness := (true, "985b0ff7bb021169cba39113db63cc890ddc967a55f41fc18c9a34a5296cc34a"), looks := false }, kinds := [], alts := [], laidByText := true, laidKinds := [.data, .data, .data], laidTests := true, laidLooks := .later }
def TreeFindsCardSaid : Prop := Claim7.holds Tryd.pinned (.plain (OpenSpec.ofChange treeFindsSpec)) treeFindsCard

/-- THE TIED CARD OF 'tinderlaw08.TreeBack'. -/
def treeBackCard : Claim7 := { stood := { row := treeBackRow, standIns := [], harness := (true, "985b0ff7bb021169cba39113db63cc890ddc967a55f41fc18c9a34a5296cc34a"), looks := false }, kinds := [], alts := [], laidByText := true, laidKinds := [.data, .data, .data], laidTests := true, laidLooks := .later }
def TreeBackCardSaid : Prop := Claim7.holds Tryd.pinned (.plain (OpenSpec.ofChange treeBackSpec)) treeBackCard

/-- THE TIED CARD OF 'tinderlaw08.TreeGoes'. -/
def treeGoesCard : Claim7 := { stood := { row := treeGoesRow, standIns := [], harness := (true, "985b0ff7bb021169cba39113db63cc890ddc967a55f41fc18c9a34a5296cc34a"), looks := false }, kinds := [], alts := [], laidByText := true, laidKinds := [.data, .data, .data], laidTests := true, laidLooks := .later }
def TreeGoesCardSaid : Prop := Claim7.holds Tryd.pinned (.plain (OpenSpec.ofChange treeGoesSpec)) treeGoesCard

/-- THE TIED CARD OF 'tinderlaw08.TreeGets'. -/
def treeGetsCard : Claim7 := { stood := { row := treeGetsRow, standIns := [], harness := (true, "985b0ff7bb021169cba39113db63cc890ddc967a55f41fc18c9a34a5296cc34a"), looks := false }, kinds := [], alts := [], laidByText := true, laidKinds := [.data, .data, .data], laidTests := true, laidLooks := .later }
def TreeGetsCardSaid : Prop := Claim7.holds Tryd.pinned (.plain (OpenSpec.ofChange treeGetsSpec)) treeGetsCard

/-- THE TIED CARD OF 'tinderlaw08.TreeSets'. -/
def treeSetsCard : Claim7 := { stood := { row := treeSetsRow, standIns := [], harness := (true, "985b0ff7bb021169cba39113db63cc890ddc967a55f41fc18c9a34a5296cc34a"), looks := false }, kinds := [], alts := [], laidByText := true, laidKinds := [.data, .data, .data], laidTests := true, laidLooks := .later }
def TreeSetsCardSaid : Prop := Claim7.holds Tryd.pinned (.plain (OpenSpec.ofChange treeSetsSpec)) treeSetsCard

/-- THE TIED CARD OF 'tinderlaw08.TreeKeeps'. -/
def treeKeepsCard : Claim7 := { stood := { row := treeKeepsRow, standIns := [], harness := (true, "985b0ff7bb021169cba39113db63cc890ddc967a55f41fc18c9a34a5296cc34a"), looks := false }, kinds := [], alts := [], laidByText := true, laidKinds := [.data, .data, .data], laidTests := true, laidLooks := .later }
def TreeKeepsCardSaid : Prop := Claim7.holds Tryd.pinned (.plain (OpenSpec.ofChange treeKeepsSpec)) treeKeepsCard

/-- THE SECOND FORM's CARD OF 'tinderlaw08.TreeForms'. -/
def treeFormsUptoCard : Claim7 := { stood := { row := treeFormsUptoRow, standIns := [], harness := (true, "985b0ff7bb021169cba39113db63cc890ddc967a55f41fc18c9a34a5296cc34a"), looks := false }, kinds := [], alts := [], laidByText := true, laidKinds := [.data, .data, .data], laidTests := true, laidLooks := .later }
def TreeFormsUptoCardSaid : Prop := Claim7.holds Tryd.pinned (.plain (OpenSpec.upto treeFormsSpec)) treeFormsUptoCard

/-- THE SECOND FORM's CARD OF 'tinderlaw08.TreeAdds'. -/
def treeAddsUptoCard : Claim7 := { stood := { row := treeAddsUptoRow, standIns := [], harness := (true, "985b0ff7bb021169cba39113db63cc890ddc967a55f41fc18c9a34a5296cc34a"), looks := false }, kinds := [], alts := [], laidByText := true, laidKinds := [.data, .data, .data], laidTests := true, laidLooks := .later }
def TreeAddsUptoCardSaid : Prop := Claim7.holds Tryd.pinned (.plain (OpenSpec.upto treeAddsSpec)) treeAddsUptoCard

/-- THE SECOND FORM's CARD OF 'tinderlaw08.TreeFinds'. -/
def treeFindsUptoCard : Claim7 := { stood := { row := treeFindsUptoRow, standIns := [], harness := (true, "985b0ff7bb021169cba39113db63cc890ddc967a55f41fc18c9a34a5296cc34a"), looks := false }, kinds := [], alts := [], laidByText := true, laidKinds := [.data, .data, .data], laidTests := true, laidLooks := .later }
def TreeFindsUptoCardSaid : Prop := Claim7.holds Tryd.pinned (.plain (OpenSpec.upto treeFindsSpec)) treeFindsUptoCard

/-- THE SECOND FORM's CARD OF 'tinderlaw08.TreeBack'. -/
def treeBackUptoCard : Claim7 := { stood := { row := treeBackUptoRow, standIns := [], harness := (true, "985b0ff7bb021169cba39113db63cc890ddc967a55f41fc18c9a34a5296cc34a"), looks := false }, kinds := [], alts := [], laidByText := true, laidKinds := [.data, .data, .data], laidTests := true, laidLooks := .later }
def TreeBackUptoCardSaid : Prop := Claim7.holds Tryd.pinned (.plain (OpenSpec.upto treeBackSpec)) treeBackUptoCard

/-- THE SECOND FORM's CARD OF 'tinderlaw08.TreeGoes'. -/
def treeGoesUptoCard : Claim7 := { stood := { row := treeGoesUptoRow, standIns := [], harness := (true, "985b0ff7bb021169cba39113db63cc890ddc967a55f41fc18c9a34a5296cc34a"), looks := false }, kinds := [], alts := [], laidByText := true, laidKinds := [.data, .data, .data], laidTests := true, laidLooks := .later }
def TreeGoesUptoCardSaid : Prop := Claim7.holds Tryd.pinned (.plain (OpenSpec.upto treeGoesSpec)) treeGoesUptoCard

/-- THE SECOND FORM's CARD OF 'tinderlaw08.TreeGets'. -/
def treeGetsUptoCard : Claim7 := { stood := { row := treeGetsUptoRow, standIns := [], harness := (true, "985b0ff7bb021169cba39113db63cc890ddc967a55f41fc18c9a34a5296cc34a"), looks := false }, kinds := [], alts := [], laidByText := true, laidKinds := [.data, .data, .data], laidTests := true, laidLooks := .later }
def TreeGetsUptoCardSaid : Prop := Claim7.holds Tryd.pinned (.plain (OpenSpec.upto treeGetsSpec)) treeGetsUptoCard

/-- THE SECOND FORM's CARD OF 'tinderlaw08.TreeSets'. -/
def treeSetsUptoCard : Claim7 := { stood := { row := treeSetsUptoRow, standIns := [], harness := (true, "985b0ff7bb021169cba39113db63cc890ddc967a55f41fc18c9a34a5296cc34a"), looks := false }, kinds := [], alts := [], laidByText := true, laidKinds := [.data, .data, .data], laidTests := true, laidLooks := .later }
def TreeSetsUptoCardSaid : Prop := Claim7.holds Tryd.pinned (.plain (OpenSpec.upto treeSetsSpec)) treeSetsUptoCard

/-- THE SECOND FORM's CARD OF 'tinderlaw08.TreeKeeps'. -/
def treeKeepsUptoCard : Claim7 := { stood := { row := treeKeepsUptoRow, standIns := [], harness := (true, "985b0ff7bb021169cba39113db63cc890ddc967a55f41fc18c9a34a5296cc34a"), looks := false }, kinds := [], alts := [], laidByText := true, laidKinds := [.data, .data, .data], laidTests := true, laidLooks := .later }
def TreeKeepsUptoCardSaid : Prop := Claim7.holds Tryd.pinned (.plain (OpenSpec.upto treeKeepsSpec)) treeKeepsUptoCard
end Rows
end Go.Proofs.YtnalcjgefbelnaaDoor
