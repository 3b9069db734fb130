/-
  DERIVED. GIVEN WITH THE SEED: THE CARDS: each row of YtgcpfelccfnnbaaDoorRows.lean that lists a variable, with what it lists TIED to the program's text (the seventh form; the later family's looks); each row that meets fmt, with fmt's text TOLD by the authors' own Lean function (tested against real Go, not proved from fmt's source: count such statements apart). THE CARD IS WHAT COUNTS. Prove the row's statement (the work); the ties are given (YtgcpfelccfnnbaaDoorTie.lean); close each card by the builder's one call (the guide's Derived/Test/ToyasCard.lean, 'card_holds'). Laid BY PROGRAM, IN A SANDBOX (cutbox-door.mjs). By AI agents, Wed Nov 11 2026. No macro, syntax, notation, axiom, sorry.
-/
import Derived.Test.YtgcpfelccfnnbaaDoorRows
import GoSem.ClaimSeven
namespace Go.Proofs.YtgcpfelccfnnbaaDoor
namespace Rows

/-- THE TIED CARD OF 'vinculumlaw12.EditCounts'. -/
def editCountsCard : Claim7 := { stood := { row := editCountsRow, standIns := [], harness := (true, "0ae34c3fefcdf26d6d1102cd902ac9537eccb9a6a5e49a24574dc39263dabe95"), looks := false }, kinds := [], alts := [], laidByText := true, laidKinds := [.data, .pinned], laidTests := true, laidLooks := .later }
def EditCountsCardSaid : Prop := Claim7.holds Tryd.pinned (.plain (OpenSpec.ofChange editCountsSpec)) editCountsCard

/-- THE TIED CARD OF 'vinculumlaw12.EditElsewhere'. -/
def editElsewhereCard : Claim7 := { stood := { row := editElsewhereRow, standIns := [], harness := (true, "0ae34c3fefcdf26d6d1102cd902ac9537eccb9a6a5e49a24574dc39263dabe95"), looks := false }, kinds := [], alts := [], laidByText := true, laidKinds := [.data, .pinned], laidTests := true, laidLooks := .later }
def EditElsewhereCardSaid : Prop := Claim7.holds Tryd.pinned (.plain (OpenSpec.ofChange editElsewhereSpec)) editElsewhereCard

/-- THE TIED CARD OF 'vinculumlaw12.EditCommutes'. -/
def editCommutesCard : Claim7 := { stood := { row := editCommutesRow, standIns := [], harness := (true, "0ae34c3fefcdf26d6d1102cd902ac9537eccb9a6a5e49a24574dc39263dabe95"), looks := false }, kinds := [], alts := [], laidByText := true, laidKinds := [.data, .pinned], laidTests := true, laidLooks := .later }
def EditCommutesCardSaid : Prop := Claim7.holds Tryd.pinned (.plain (OpenSpec.ofChange editCommutesSpec)) editCommutesCard

/-- THE TIED CARD OF 'vinculumlaw12.EditUndo'. -/
def editUndoCard : Claim7 := { stood := { row := editUndoRow, standIns := [], harness := (true, "0ae34c3fefcdf26d6d1102cd902ac9537eccb9a6a5e49a24574dc39263dabe95"), looks := false }, kinds := [], alts := [], laidByText := true, laidKinds := [.data, .pinned], laidTests := true, laidLooks := .later }
def EditUndoCardSaid : Prop := Claim7.holds Tryd.pinned (.plain (OpenSpec.ofChange editUndoSpec)) editUndoCard

/-- THE TIED CARD OF 'vinculumlaw12.EditInvert'. -/
def editInvertCard : Claim7 := { stood := { row := editInvertRow, standIns := [], harness := (true, "0ae34c3fefcdf26d6d1102cd902ac9537eccb9a6a5e49a24574dc39263dabe95"), looks := false }, kinds := [], alts := [], laidByText := true, laidKinds := [.data, .pinned], laidTests := true, laidLooks := .later }
def EditInvertCardSaid : Prop := Claim7.holds Tryd.pinned (.plain (OpenSpec.ofChange editInvertSpec)) editInvertCard

/-- THE TIED CARD OF 'vinculumlaw12.EditUndoAll'. -/
def editUndoAllCard : Claim7 := { stood := { row := editUndoAllRow, standIns := [], harness := (true, "0ae34c3fefcdf26d6d1102cd902ac9537eccb9a6a5e49a24574dc39263dabe95"), looks := false }, kinds := [], alts := [], laidByText := true, laidKinds := [.data, .pinned], laidTests := true, laidLooks := .later }
def EditUndoAllCardSaid : Prop := Claim7.holds Tryd.pinned (.plain (OpenSpec.ofChange editUndoAllSpec)) editUndoAllCard

/-- THE SECOND FORM's CARD OF 'vinculumlaw12.EditCounts'. -/
def editCountsUptoCard : Claim7 := { stood := { row := editCountsUptoRow, standIns := [], harness := (true, "0ae34c3fefcdf26d6d1102cd902ac9537eccb9a6a5e49a24574dc39263dabe95"), looks := false }, kinds := [], alts := [], laidByText := true, laidKinds := [.data, .pinned], laidTests := true, laidLooks := .later }
def EditCountsUptoCardSaid : Prop := Claim7.holds Tryd.pinned (.plain (OpenSpec.upto editCountsSpec)) editCountsUptoCard

/-- THE SECOND FORM's CARD OF 'vinculumlaw12.EditElsewhere'. -/
def editElsewhereUptoCard : Claim7 := { stood := { row := editElsewhereUptoRow, standIns := [], harness := (true, "0ae34c3fefcdf26d6d1102cd902ac9537eccb9a6a5e49a24574dc39263dabe95"), looks := false }, kinds := [], alts := [], laidByText := true, laidKinds := [.data, .pinned], laidTests := true, laidLooks := .later }
def EditElsewhereUptoCardSaid : Prop := Claim7.holds Tryd.pinned (.plain (OpenSpec.upto editElsewhereSpec)) editElsewhereUptoCard

/-- THE SECOND FORM's CARD OF 'vinculumlaw12.EditCommutes'. -/
def editCommutesUptoCard : Claim7 := { stood := { row := editCommutesUptoRow, standIns := [], harness := (true, "0ae34c3fefcdf26d6d1102cd902ac9537eccb9a6a5e49a24574dc39263dabe95"), looks := false }, kinds := [], alts := [], laidByText := true, laidKinds := [.data, .pinned], laidTests := true, laidLooks := .later }
def EditCommutesUptoCardSaid : Prop := Claim7.holds Tryd.pinned (.plain (OpenSpec.upto editCommutesSpec)) editCommutesUptoCard

/-- THE SECOND FORM's CARD OF 'vinculumlaw12.EditUndo'. -/
def editUndoUptoCard : Claim7 := { stood := { row := editUndoUptoRow, standIns := [], harness := (true, "0ae34c3fefcdf26d6d1102cd902ac9537eccb9a6a5e49a24574dc39263dabe95"), looks := false }, kinds := [], alts := [], laidByText := true, laidKinds := [.data, .pinned], laidTests := true, laidLooks := .later }
def EditUndoUptoCardSaid : Prop := Claim7.holds Tryd.pinned (.plain (OpenSpec.upto editUndoSpec)) editUndoUptoCard

/-- THE SECOND FORM's CARD OF 'vinculumlaw12.EditInvert'. -/
def editInvertUptoCard : Claim7 := { stood := { row := editInvertUptoRow, standIns := [], harness := (true, "0ae34c3fefcdf26d6d1102cd902ac9537eccb9a6a5e49a24574dc39263dabe95"), looks := false }, kinds := [], alts := [], laidByText := true, laidKinds := [.data, .pinned], laidTests := true, laidLooks := .later }
def EditInvertUptoCardSaid : Prop := Claim7.holds Tryd.pinned (.plain (OpenSpec.upto editInvertSpec)) editInvertUptoCard

/-- THE SECOND FORM's CARD OF 'vinculumlaw12.EditUndoAll'. -/
def editUndoAllUptoCard : Claim7 := { stood := { row := editUndoAllUptoRow, standIns := [], harness := (true, "0ae34c3fefcdf26d6d1102cd902ac9537eccb9a6a5e49a24574dc39263dabe95"), looks := false }, kinds := [], alts := [], laidByText := true, laidKinds := [.data, .pinned], laidTests := true, laidLooks := .later }
def EditUndoAllUptoCardSaid : Prop := Claim7.holds Tryd.pinned (.plain (OpenSpec.upto editUndoAllSpec)) editUndoAllUptoCard
end Rows
end Go.Proofs.YtgcpfelccfnnbaaDoor
