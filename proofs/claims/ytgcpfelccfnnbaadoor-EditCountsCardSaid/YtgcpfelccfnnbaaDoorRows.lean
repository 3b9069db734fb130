/-
  NARROWER THAN 'FOR EVERY INPUT', by the rows' own cells (each row's printed sentence says how): EditCounts: loops, laid · EditElsewhere: loops, laid · EditCommutes: loops, laid · EditUndo: loops, laid · EditInvert: loops, laid · EditUndoAll: loops, laid.
  DERIVED. THE GIVEN ROWS OF THIS SEAT. 6 by the template 'for every input the law returns true; each argument reads behind the call as it read before'; 0 by the template 'total and deterministic' (their statements: YtgcpfelccfnnbaaDoorTotals.lean).
  GIVEN WITH THE SEED: the statements are not yours to turn. If you find one false, say at which input.
  Laid BY PROGRAM, IN A SANDBOX (cutbox-rows.mjs): the forced cells as the released guide's own fill.sh prints them over the translation 8bfa4513d0831c9e… (all of the seat's roots in one cut). By AI agents, Wed Nov 11 2026. No macro, syntax, notation, axiom, sorry.
-/
import Derived.Test.YtgcpfelccfnnbaaDoorChecked
import GoSem.PinnedTables
import GoSem.Claim
import GoSem.ClaimJoined
import GoSem.ClaimMapViews
import Derived.JoinedTies
import Derived.KernelRfl
namespace Go.Proofs.YtgcpfelccfnnbaaDoor
/- THE CELL 'sum', in the pinned program and in every row, IS THE sha256 OF THE DUMP (.gsa) THAT YtgcpfelccfnnbaaDoorProg.lean LOADS. Nothing in Lean hashes anything: it is a label: what it is worth is what the hold of that sum in a sandbox is worth. -/
noncomputable def Tryd.pinned : Pinned := { name := "ytgcpfelccfnnbaadoor", sum := "8bfa4513d0831c9e2b57ca50f652cda041370c2c8fd752b9756918ba8247543c", checked := Tryd.checked }
namespace Rows
def none {H : Type} : Left H := { results := [], args := [] }

/- WHAT THE LISTED PACKAGE-LEVEL VARIABLES READ AS WHEN THE CALL BEGINS. Each datum BY PROGRAM (the guide's laid-datum.mjs) off the statement by which the dump's own 'gosem.cut.vars' lays the variable. In a bare row this is a premise. The card (YtgcpfelccfnnbaaDoorCards.lean) ties it to the program's text. -/
def laid_unicode_utf8_acceptRanges {H : Type} : DataW H := .agg [.agg [.lit (.int .u8 128), .lit (.int .u8 191)], .agg [.lit (.int .u8 160), .lit (.int .u8 191)], .agg [.lit (.int .u8 128), .lit (.int .u8 159)], .agg [.lit (.int .u8 144), .lit (.int .u8 191)], .agg [.lit (.int .u8 128), .lit (.int .u8 143)], .agg [.lit (.int .u8 0), .lit (.int .u8 0)], .agg [.lit (.int .u8 0), .lit (.int .u8 0)], .agg [.lit (.int .u8 0), .lit (.int .u8 0)], .agg [.lit (.int .u8 0), .lit (.int .u8 0)], .agg [.lit (.int .u8 0), .lit (.int .u8 0)], .agg [.lit (.int .u8 0), .lit (.int .u8 0)], .agg [.lit (.int .u8 0), .lit (.int .u8 0)], .agg [.lit (.int .u8 0), .lit (.int .u8 0)], .agg [.lit (.int .u8 0), .lit (.int .u8 0)], .agg [.lit (.int .u8 0), .lit (.int .u8 0)], .agg [.lit (.int .u8 0), .lit (.int .u8 0)]]
/-- One of Go's own tables, pinned by name: the form's constant. -/
def laid_unicode_utf8_first : DataW Unit := Go.Pinned.utf8First

/-- 'vinculumlaw12.EditCounts': WHATEVER THE INPUT: true; the input reads as it did. -/
def editCountsSpec : ChangeSpec := { name := "editCounts", fn := fun _ => fun
  | [d1, d2] => { results := [.lit (.bool true)], args := [d1, d2] }
  | _ => none }
def editCountsRow : OpenClaim := { program := "ytgcpfelccfnnbaadoor", sum := "8bfa4513d0831c9e2b57ca50f652cda041370c2c8fd752b9756918ba8247543c", func := "vinculum/vinculumlaw12.EditCounts", spec := "editCounts", inPlace := ["internal/bytealg.IndexByteString", "internal/bytealg.IndexString"], unfollowed := true, recurses := true, named := ["internal/bytealg.MaxLen", "unicode/utf8.first", "unicode/utf8.acceptRanges"], loops := true, apart := false, laid := [("unicode/utf8.acceptRanges", laid_unicode_utf8_acceptRanges), ("unicode/utf8.first", laid_unicode_utf8_first)] }
def EditCountsSaid : Prop := editCountsRow.holds Tryd.pinned (OpenSpec.ofChange editCountsSpec)

/-- ITS FALSE NEIGHBOUR: 'it returns false'. Refute it at one input. -/
def editCountsWrong : ChangeSpec := { name := "editCounts", fn := fun _ => fun
  | [d1, d2] => { results := [.lit (.bool false)], args := [d1, d2] }
  | _ => none }
def EditCountsWrongFalsely : Prop := editCountsRow.holds Tryd.pinned (OpenSpec.ofChange editCountsWrong)

/-- 'vinculumlaw12.EditElsewhere': WHATEVER THE INPUT: true; the input reads as it did. -/
def editElsewhereSpec : ChangeSpec := { name := "editElsewhere", fn := fun _ => fun
  | [d1, d2, d3] => { results := [.lit (.bool true)], args := [d1, d2, d3] }
  | _ => none }
def editElsewhereRow : OpenClaim := { program := "ytgcpfelccfnnbaadoor", sum := "8bfa4513d0831c9e2b57ca50f652cda041370c2c8fd752b9756918ba8247543c", func := "vinculum/vinculumlaw12.EditElsewhere", spec := "editElsewhere", inPlace := ["internal/bytealg.IndexByteString", "internal/bytealg.IndexString"], unfollowed := true, recurses := true, named := ["internal/bytealg.MaxLen", "unicode/utf8.first", "unicode/utf8.acceptRanges"], loops := true, apart := false, laid := [("unicode/utf8.acceptRanges", laid_unicode_utf8_acceptRanges), ("unicode/utf8.first", laid_unicode_utf8_first)] }
def EditElsewhereSaid : Prop := editElsewhereRow.holds Tryd.pinned (OpenSpec.ofChange editElsewhereSpec)

/-- ITS FALSE NEIGHBOUR: 'it returns false'. Refute it at one input. -/
def editElsewhereWrong : ChangeSpec := { name := "editElsewhere", fn := fun _ => fun
  | [d1, d2, d3] => { results := [.lit (.bool false)], args := [d1, d2, d3] }
  | _ => none }
def EditElsewhereWrongFalsely : Prop := editElsewhereRow.holds Tryd.pinned (OpenSpec.ofChange editElsewhereWrong)

/-- 'vinculumlaw12.EditCommutes': WHATEVER THE INPUT: true; the input reads as it did. -/
def editCommutesSpec : ChangeSpec := { name := "editCommutes", fn := fun _ => fun
  | [d1, d2, d3] => { results := [.lit (.bool true)], args := [d1, d2, d3] }
  | _ => none }
def editCommutesRow : OpenClaim := { program := "ytgcpfelccfnnbaadoor", sum := "8bfa4513d0831c9e2b57ca50f652cda041370c2c8fd752b9756918ba8247543c", func := "vinculum/vinculumlaw12.EditCommutes", spec := "editCommutes", inPlace := ["internal/bytealg.IndexByteString", "internal/bytealg.IndexString"], unfollowed := true, recurses := true, named := ["internal/bytealg.MaxLen", "unicode/utf8.first", "unicode/utf8.acceptRanges"], loops := true, apart := false, laid := [("unicode/utf8.acceptRanges", laid_unicode_utf8_acceptRanges), ("unicode/utf8.first", laid_unicode_utf8_first)] }
def EditCommutesSaid : Prop := editCommutesRow.holds Tryd.pinned (OpenSpec.ofChange editCommutesSpec)

/-- ITS FALSE NEIGHBOUR: 'it returns false'. Refute it at one input. -/
def editCommutesWrong : ChangeSpec := { name := "editCommutes", fn := fun _ => fun
  | [d1, d2, d3] => { results := [.lit (.bool false)], args := [d1, d2, d3] }
  | _ => none }
def EditCommutesWrongFalsely : Prop := editCommutesRow.holds Tryd.pinned (OpenSpec.ofChange editCommutesWrong)

/-- 'vinculumlaw12.EditUndo': WHATEVER THE INPUT: true; the input reads as it did. -/
def editUndoSpec : ChangeSpec := { name := "editUndo", fn := fun _ => fun
  | [d1, d2] => { results := [.lit (.bool true)], args := [d1, d2] }
  | _ => none }
def editUndoRow : OpenClaim := { program := "ytgcpfelccfnnbaadoor", sum := "8bfa4513d0831c9e2b57ca50f652cda041370c2c8fd752b9756918ba8247543c", func := "vinculum/vinculumlaw12.EditUndo", spec := "editUndo", inPlace := ["internal/bytealg.IndexByteString", "internal/bytealg.IndexString"], unfollowed := true, recurses := true, named := ["internal/bytealg.MaxLen", "unicode/utf8.first", "unicode/utf8.acceptRanges"], loops := true, apart := false, laid := [("unicode/utf8.acceptRanges", laid_unicode_utf8_acceptRanges), ("unicode/utf8.first", laid_unicode_utf8_first)] }
def EditUndoSaid : Prop := editUndoRow.holds Tryd.pinned (OpenSpec.ofChange editUndoSpec)

/-- ITS FALSE NEIGHBOUR: 'it returns false'. Refute it at one input. -/
def editUndoWrong : ChangeSpec := { name := "editUndo", fn := fun _ => fun
  | [d1, d2] => { results := [.lit (.bool false)], args := [d1, d2] }
  | _ => none }
def EditUndoWrongFalsely : Prop := editUndoRow.holds Tryd.pinned (OpenSpec.ofChange editUndoWrong)

/-- 'vinculumlaw12.EditInvert': WHATEVER THE INPUT: true; the input reads as it did. -/
def editInvertSpec : ChangeSpec := { name := "editInvert", fn := fun _ => fun
  | [d] => { results := [.lit (.bool true)], args := [d] }
  | _ => none }
def editInvertRow : OpenClaim := { program := "ytgcpfelccfnnbaadoor", sum := "8bfa4513d0831c9e2b57ca50f652cda041370c2c8fd752b9756918ba8247543c", func := "vinculum/vinculumlaw12.EditInvert", spec := "editInvert", inPlace := ["internal/bytealg.IndexByteString", "internal/bytealg.IndexString"], unfollowed := true, recurses := true, named := ["internal/bytealg.MaxLen", "unicode/utf8.first", "unicode/utf8.acceptRanges"], loops := true, apart := false, laid := [("unicode/utf8.acceptRanges", laid_unicode_utf8_acceptRanges), ("unicode/utf8.first", laid_unicode_utf8_first)] }
def EditInvertSaid : Prop := editInvertRow.holds Tryd.pinned (OpenSpec.ofChange editInvertSpec)

/-- ITS FALSE NEIGHBOUR: 'it returns false'. Refute it at one input. -/
def editInvertWrong : ChangeSpec := { name := "editInvert", fn := fun _ => fun
  | [d] => { results := [.lit (.bool false)], args := [d] }
  | _ => none }
def EditInvertWrongFalsely : Prop := editInvertRow.holds Tryd.pinned (OpenSpec.ofChange editInvertWrong)

/-- 'vinculumlaw12.EditUndoAll': WHATEVER THE INPUT: true; the input reads as it did. -/
def editUndoAllSpec : ChangeSpec := { name := "editUndoAll", fn := fun _ => fun
  | [d1, d2] => { results := [.lit (.bool true)], args := [d1, d2] }
  | _ => none }
def editUndoAllRow : OpenClaim := { program := "ytgcpfelccfnnbaadoor", sum := "8bfa4513d0831c9e2b57ca50f652cda041370c2c8fd752b9756918ba8247543c", func := "vinculum/vinculumlaw12.EditUndoAll", spec := "editUndoAll", inPlace := ["internal/bytealg.IndexByteString", "internal/bytealg.IndexString"], unfollowed := true, recurses := true, named := ["internal/bytealg.MaxLen", "unicode/utf8.first", "unicode/utf8.acceptRanges"], loops := true, apart := false, laid := [("unicode/utf8.acceptRanges", laid_unicode_utf8_acceptRanges), ("unicode/utf8.first", laid_unicode_utf8_first)] }
def EditUndoAllSaid : Prop := editUndoAllRow.holds Tryd.pinned (OpenSpec.ofChange editUndoAllSpec)

/-- ITS FALSE NEIGHBOUR: 'it returns false'. Refute it at one input. -/
def editUndoAllWrong : ChangeSpec := { name := "editUndoAll", fn := fun _ => fun
  | [d1, d2] => { results := [.lit (.bool false)], args := [d1, d2] }
  | _ => none }
def EditUndoAllWrongFalsely : Prop := editUndoAllRow.holds Tryd.pinned (OpenSpec.ofChange editUndoAllWrong)

/- THE SECOND FORM. 'bulk': how many values and letters a reading holds, each counted each time it is reached (what is shared counts as often as it is met; a slice's spare places count too). A statement '..UptoSaid' is the law's where the arguments, and the package variables that the reading takes, are together of bulk at most 1048576: NARROWER than '..Said'. Prove '..Said' where nothing that the law and all that it calls make is longer than what came in: it says more and counts as full. Else prove '..UptoSaid'. A law counts once. -/
mutual
def uptoBulk {H : Type} : DataW H → Nat
  | .lit (.string bytes) => bytes.length + 1
  | .lit _ => 1
  | .nil => 1
  | .ptr d => uptoBulk d + 1
  | .slice elems spare => uptoBulkAll elems + uptoBulkAll spare + 1
  | .agg parts => uptoBulkAll parts + 1
  | .iface _ d => uptoBulk d + 1
  | .map entries => uptoBulkEntries entries + 1
  | .held _ => 1
def uptoBulkAll {H : Type} : List (DataW H) → Nat
  | [] => 0
  | d :: r => uptoBulk d + uptoBulkAll r
def uptoBulkEntries {H : Type} : List (Lit × DataW H) → Nat
  | [] => 0
  | x :: r => uptoBulkEntry x + uptoBulkEntries r
def uptoBulkEntry {H : Type} : Lit × DataW H → Nat
  | (.string bytes, d) => bytes.length + uptoBulk d + 1
  | (_, d) => uptoBulk d + 1
 end
def uptoSmall : (H : Type) → List (DataW H) → Bool := fun _ ds => decide (uptoBulkAll ds ≤ 1048576)
def OpenSpec.upto (s : _root_.Go.ChangeSpec) : _root_.Go.OpenSpec := { _root_.Go.OpenSpec.ofChange s with cond := some uptoSmall }

/-- 'vinculumlaw12.EditCounts', WHERE WHAT IT READS IS OF BULK AT MOST 1048576: true; the input reads as it did. -/
def editCountsUptoRow : OpenClaim := { program := "ytgcpfelccfnnbaadoor", sum := "8bfa4513d0831c9e2b57ca50f652cda041370c2c8fd752b9756918ba8247543c", func := "vinculum/vinculumlaw12.EditCounts", spec := "editCounts", inPlace := ["internal/bytealg.IndexByteString", "internal/bytealg.IndexString"], unfollowed := true, recurses := true, named := ["internal/bytealg.MaxLen", "unicode/utf8.first", "unicode/utf8.acceptRanges"], loops := true, apart := false, laid := [("unicode/utf8.acceptRanges", laid_unicode_utf8_acceptRanges), ("unicode/utf8.first", laid_unicode_utf8_first)], narrowed := true }
def EditCountsUptoSaid : Prop := editCountsUptoRow.holds Tryd.pinned (OpenSpec.upto editCountsSpec)

/-- 'vinculumlaw12.EditElsewhere', WHERE WHAT IT READS IS OF BULK AT MOST 1048576: true; the input reads as it did. -/
def editElsewhereUptoRow : OpenClaim := { program := "ytgcpfelccfnnbaadoor", sum := "8bfa4513d0831c9e2b57ca50f652cda041370c2c8fd752b9756918ba8247543c", func := "vinculum/vinculumlaw12.EditElsewhere", spec := "editElsewhere", inPlace := ["internal/bytealg.IndexByteString", "internal/bytealg.IndexString"], unfollowed := true, recurses := true, named := ["internal/bytealg.MaxLen", "unicode/utf8.first", "unicode/utf8.acceptRanges"], loops := true, apart := false, laid := [("unicode/utf8.acceptRanges", laid_unicode_utf8_acceptRanges), ("unicode/utf8.first", laid_unicode_utf8_first)], narrowed := true }
def EditElsewhereUptoSaid : Prop := editElsewhereUptoRow.holds Tryd.pinned (OpenSpec.upto editElsewhereSpec)

/-- 'vinculumlaw12.EditCommutes', WHERE WHAT IT READS IS OF BULK AT MOST 1048576: true; the input reads as it did. -/
def editCommutesUptoRow : OpenClaim := { program := "ytgcpfelccfnnbaadoor", sum := "8bfa4513d0831c9e2b57ca50f652cda041370c2c8fd752b9756918ba8247543c", func := "vinculum/vinculumlaw12.EditCommutes", spec := "editCommutes", inPlace := ["internal/bytealg.IndexByteString", "internal/bytealg.IndexString"], unfollowed := true, recurses := true, named := ["internal/bytealg.MaxLen", "unicode/utf8.first", "unicode/utf8.acceptRanges"], loops := true, apart := false, laid := [("unicode/utf8.acceptRanges", laid_unicode_utf8_acceptRanges), ("unicode/utf8.first", laid_unicode_utf8_first)], narrowed := true }
def EditCommutesUptoSaid : Prop := editCommutesUptoRow.holds Tryd.pinned (OpenSpec.upto editCommutesSpec)

/-- 'vinculumlaw12.EditUndo', WHERE WHAT IT READS IS OF BULK AT MOST 1048576: true; the input reads as it did. -/
def editUndoUptoRow : OpenClaim := { program := "ytgcpfelccfnnbaadoor", sum := "8bfa4513d0831c9e2b57ca50f652cda041370c2c8fd752b9756918ba8247543c", func := "vinculum/vinculumlaw12.EditUndo", spec := "editUndo", inPlace := ["internal/bytealg.IndexByteString", "internal/bytealg.IndexString"], unfollowed := true, recurses := true, named := ["internal/bytealg.MaxLen", "unicode/utf8.first", "unicode/utf8.acceptRanges"], loops := true, apart := false, laid := [("unicode/utf8.acceptRanges", laid_unicode_utf8_acceptRanges), ("unicode/utf8.first", laid_unicode_utf8_first)], narrowed := true }
def EditUndoUptoSaid : Prop := editUndoUptoRow.holds Tryd.pinned (OpenSpec.upto editUndoSpec)

/-- 'vinculumlaw12.EditInvert', WHERE WHAT IT READS IS OF BULK AT MOST 1048576: true; the input reads as it did. -/
def editInvertUptoRow : OpenClaim := { program := "ytgcpfelccfnnbaadoor", sum := "8bfa4513d0831c9e2b57ca50f652cda041370c2c8fd752b9756918ba8247543c", func := "vinculum/vinculumlaw12.EditInvert", spec := "editInvert", inPlace := ["internal/bytealg.IndexByteString", "internal/bytealg.IndexString"], unfollowed := true, recurses := true, named := ["internal/bytealg.MaxLen", "unicode/utf8.first", "unicode/utf8.acceptRanges"], loops := true, apart := false, laid := [("unicode/utf8.acceptRanges", laid_unicode_utf8_acceptRanges), ("unicode/utf8.first", laid_unicode_utf8_first)], narrowed := true }
def EditInvertUptoSaid : Prop := editInvertUptoRow.holds Tryd.pinned (OpenSpec.upto editInvertSpec)

/-- 'vinculumlaw12.EditUndoAll', WHERE WHAT IT READS IS OF BULK AT MOST 1048576: true; the input reads as it did. -/
def editUndoAllUptoRow : OpenClaim := { program := "ytgcpfelccfnnbaadoor", sum := "8bfa4513d0831c9e2b57ca50f652cda041370c2c8fd752b9756918ba8247543c", func := "vinculum/vinculumlaw12.EditUndoAll", spec := "editUndoAll", inPlace := ["internal/bytealg.IndexByteString", "internal/bytealg.IndexString"], unfollowed := true, recurses := true, named := ["internal/bytealg.MaxLen", "unicode/utf8.first", "unicode/utf8.acceptRanges"], loops := true, apart := false, laid := [("unicode/utf8.acceptRanges", laid_unicode_utf8_acceptRanges), ("unicode/utf8.first", laid_unicode_utf8_first)], narrowed := true }
def EditUndoAllUptoSaid : Prop := editUndoAllUptoRow.holds Tryd.pinned (OpenSpec.upto editUndoAllSpec)

end Rows
end Go.Proofs.YtgcpfelccfnnbaaDoor
