/-
  NARROWER THAN 'FOR EVERY INPUT', by the rows' own cells (each row's printed sentence says how): TopTie: laid · TopLeast: laid · TopReplays: laid · TopTwo: laid · TopLogs: laid.
  DERIVED. THE GIVEN ROWS OF THIS SEAT. 5 by the template 'for every input the law returns true; each argument reads behind the call as it read before'; 0 by the template 'total and deterministic' (their statements: YtegjegihcebimaaDoorTotals.lean).
  GIVEN WITH THE SEED: the statements are not yours to turn. If you find one false, say at which input.
  Laid BY PROGRAM, IN A SANDBOX (cutbox-rows.mjs): the forced cells as the released guide's own fill.sh prints them over the translation b1973388a27e7eb2… (all of the seat's roots in one cut). By AI agents, Wed Nov 11 2026. No macro, syntax, notation, axiom, sorry.
-/
import Derived.Test.YtegjegihcebimaaDoorChecked
import GoSem.PinnedTables
import GoSem.Claim
import GoSem.ClaimJoined
import GoSem.ClaimMapViews
import Derived.JoinedTies
import Derived.KernelRfl
namespace Go.Proofs.YtegjegihcebimaaDoor
/- THE CELL 'sum', in the pinned program and in every row, IS THE sha256 OF THE DUMP (.gsa) THAT YtegjegihcebimaaDoorProg.lean LOADS. Nothing in Lean hashes anything: it is a label: what it is worth is what the hold of that sum in a sandbox is worth. -/
noncomputable def Tryd.pinned : Pinned := { name := "ytegjegihcebimaadoor", sum := "b1973388a27e7eb2c7c36ffccfb29fc427cff2784eefdeea8ad94f46b60b17ef", checked := Tryd.checked }
namespace Rows
def none {H : Type} : Left H := { results := [], args := [] }

/- WHAT THE LISTED PACKAGE-LEVEL VARIABLES READ AS WHEN THE CALL BEGINS. Each datum BY PROGRAM (the guide's laid-datum.mjs) off the statement by which the dump's own 'gosem.cut.vars' lays the variable. In a bare row this is a premise. The card (YtegjegihcebimaaDoorCards.lean) ties it to the program's text. -/
def laid_unicode_utf8_acceptRanges {H : Type} : DataW H := .agg [.agg [.lit (.int .u8 128), .lit (.int .u8 191)], .agg [.lit (.int .u8 160), .lit (.int .u8 191)], .agg [.lit (.int .u8 128), .lit (.int .u8 159)], .agg [.lit (.int .u8 144), .lit (.int .u8 191)], .agg [.lit (.int .u8 128), .lit (.int .u8 143)], .agg [.lit (.int .u8 0), .lit (.int .u8 0)], .agg [.lit (.int .u8 0), .lit (.int .u8 0)], .agg [.lit (.int .u8 0), .lit (.int .u8 0)], .agg [.lit (.int .u8 0), .lit (.int .u8 0)], .agg [.lit (.int .u8 0), .lit (.int .u8 0)], .agg [.lit (.int .u8 0), .lit (.int .u8 0)], .agg [.lit (.int .u8 0), .lit (.int .u8 0)], .agg [.lit (.int .u8 0), .lit (.int .u8 0)], .agg [.lit (.int .u8 0), .lit (.int .u8 0)], .agg [.lit (.int .u8 0), .lit (.int .u8 0)], .agg [.lit (.int .u8 0), .lit (.int .u8 0)]]
def laid_epitome_span_kinds {H : Type} : DataW H := .agg [.agg [.lit (.bool false), .lit (.bool false)], .agg [.lit (.bool true), .lit (.bool true)], .agg [.lit (.bool false), .lit (.bool false)], .agg [.lit (.bool true), .lit (.bool false)]]
/-- One of Go's own tables, pinned by name: the form's constant. -/
def laid_unicode_utf8_first : DataW Unit := Go.Pinned.utf8First

/-- 'epitometop.TopTie': WHATEVER THE INPUT: true; the input reads as it did. -/
def topTieSpec : ChangeSpec := { name := "topTie", fn := fun _ => fun
  | [d1, d2] => { results := [.lit (.bool true)], args := [d1, d2] }
  | _ => none }
def topTieRow : OpenClaim := { program := "ytegjegihcebimaadoor", sum := "b1973388a27e7eb2c7c36ffccfb29fc427cff2784eefdeea8ad94f46b60b17ef", func := "epitome/epitometop.TopTie", spec := "topTie", unfollowed := true, recurses := true, named := ["epitome/span.kinds", "unicode/utf8.first", "unicode/utf8.acceptRanges"], apart := false, laid := [("unicode/utf8.acceptRanges", laid_unicode_utf8_acceptRanges), ("epitome/span.kinds", laid_epitome_span_kinds), ("unicode/utf8.first", laid_unicode_utf8_first)] }
def TopTieSaid : Prop := topTieRow.holds Tryd.pinned (OpenSpec.ofChange topTieSpec)

/-- ITS FALSE NEIGHBOUR: 'it returns false'. Refute it at one input. -/
def topTieWrong : ChangeSpec := { name := "topTie", fn := fun _ => fun
  | [d1, d2] => { results := [.lit (.bool false)], args := [d1, d2] }
  | _ => none }
def TopTieWrongFalsely : Prop := topTieRow.holds Tryd.pinned (OpenSpec.ofChange topTieWrong)

/-- 'epitometop.TopLeast': WHATEVER THE INPUT: true; the input reads as it did. -/
def topLeastSpec : ChangeSpec := { name := "topLeast", fn := fun _ => fun
  | [d1, d2, d3] => { results := [.lit (.bool true)], args := [d1, d2, d3] }
  | _ => none }
def topLeastRow : OpenClaim := { program := "ytegjegihcebimaadoor", sum := "b1973388a27e7eb2c7c36ffccfb29fc427cff2784eefdeea8ad94f46b60b17ef", func := "epitome/epitometop.TopLeast", spec := "topLeast", unfollowed := true, recurses := true, named := ["epitome/span.kinds", "unicode/utf8.first", "unicode/utf8.acceptRanges"], apart := false, laid := [("unicode/utf8.acceptRanges", laid_unicode_utf8_acceptRanges), ("epitome/span.kinds", laid_epitome_span_kinds), ("unicode/utf8.first", laid_unicode_utf8_first)] }
def TopLeastSaid : Prop := topLeastRow.holds Tryd.pinned (OpenSpec.ofChange topLeastSpec)

/-- ITS FALSE NEIGHBOUR: 'it returns false'. Refute it at one input. -/
def topLeastWrong : ChangeSpec := { name := "topLeast", fn := fun _ => fun
  | [d1, d2, d3] => { results := [.lit (.bool false)], args := [d1, d2, d3] }
  | _ => none }
def TopLeastWrongFalsely : Prop := topLeastRow.holds Tryd.pinned (OpenSpec.ofChange topLeastWrong)

/-- 'epitometop.TopReplays': WHATEVER THE INPUT: true; the input reads as it did. -/
def topReplaysSpec : ChangeSpec := { name := "topReplays", fn := fun _ => fun
  | [d1, d2, d3] => { results := [.lit (.bool true)], args := [d1, d2, d3] }
  | _ => none }
def topReplaysRow : OpenClaim := { program := "ytegjegihcebimaadoor", sum := "b1973388a27e7eb2c7c36ffccfb29fc427cff2784eefdeea8ad94f46b60b17ef", func := "epitome/epitometop.TopReplays", spec := "topReplays", unfollowed := true, recurses := true, named := ["epitome/span.kinds", "unicode/utf8.first", "unicode/utf8.acceptRanges"], apart := false, laid := [("unicode/utf8.acceptRanges", laid_unicode_utf8_acceptRanges), ("epitome/span.kinds", laid_epitome_span_kinds), ("unicode/utf8.first", laid_unicode_utf8_first)] }
def TopReplaysSaid : Prop := topReplaysRow.holds Tryd.pinned (OpenSpec.ofChange topReplaysSpec)

/-- ITS FALSE NEIGHBOUR: 'it returns false'. Refute it at one input. -/
def topReplaysWrong : ChangeSpec := { name := "topReplays", fn := fun _ => fun
  | [d1, d2, d3] => { results := [.lit (.bool false)], args := [d1, d2, d3] }
  | _ => none }
def TopReplaysWrongFalsely : Prop := topReplaysRow.holds Tryd.pinned (OpenSpec.ofChange topReplaysWrong)

/-- 'epitometop.TopTwo': WHATEVER THE INPUT: true; the input reads as it did. -/
def topTwoSpec : ChangeSpec := { name := "topTwo", fn := fun _ => fun
  | [d1, d2] => { results := [.lit (.bool true)], args := [d1, d2] }
  | _ => none }
def topTwoRow : OpenClaim := { program := "ytegjegihcebimaadoor", sum := "b1973388a27e7eb2c7c36ffccfb29fc427cff2784eefdeea8ad94f46b60b17ef", func := "epitome/epitometop.TopTwo", spec := "topTwo", unfollowed := true, recurses := true, named := ["epitome/span.kinds", "unicode/utf8.first", "unicode/utf8.acceptRanges"], apart := false, laid := [("unicode/utf8.acceptRanges", laid_unicode_utf8_acceptRanges), ("epitome/span.kinds", laid_epitome_span_kinds), ("unicode/utf8.first", laid_unicode_utf8_first)] }
def TopTwoSaid : Prop := topTwoRow.holds Tryd.pinned (OpenSpec.ofChange topTwoSpec)

/-- ITS FALSE NEIGHBOUR: 'it returns false'. Refute it at one input. -/
def topTwoWrong : ChangeSpec := { name := "topTwo", fn := fun _ => fun
  | [d1, d2] => { results := [.lit (.bool false)], args := [d1, d2] }
  | _ => none }
def TopTwoWrongFalsely : Prop := topTwoRow.holds Tryd.pinned (OpenSpec.ofChange topTwoWrong)

/-- 'epitometop.TopLogs': WHATEVER THE INPUT: true; the input reads as it did. -/
def topLogsSpec : ChangeSpec := { name := "topLogs", fn := fun _ => fun
  | [d1, d2] => { results := [.lit (.bool true)], args := [d1, d2] }
  | _ => none }
def topLogsRow : OpenClaim := { program := "ytegjegihcebimaadoor", sum := "b1973388a27e7eb2c7c36ffccfb29fc427cff2784eefdeea8ad94f46b60b17ef", func := "epitome/epitometop.TopLogs", spec := "topLogs", unfollowed := true, recurses := true, named := ["epitome/span.kinds", "unicode/utf8.first", "unicode/utf8.acceptRanges"], apart := false, laid := [("unicode/utf8.acceptRanges", laid_unicode_utf8_acceptRanges), ("epitome/span.kinds", laid_epitome_span_kinds), ("unicode/utf8.first", laid_unicode_utf8_first)] }
def TopLogsSaid : Prop := topLogsRow.holds Tryd.pinned (OpenSpec.ofChange topLogsSpec)

/-- ITS FALSE NEIGHBOUR: 'it returns false'. Refute it at one input. -/
def topLogsWrong : ChangeSpec := { name := "topLogs", fn := fun _ => fun
  | [d1, d2] => { results := [.lit (.bool false)], args := [d1, d2] }
  | _ => none }
def TopLogsWrongFalsely : Prop := topLogsRow.holds Tryd.pinned (OpenSpec.ofChange topLogsWrong)

/- THE SECOND FORM. 'bulk': how many values and letters a reading holds, each counted each time it is reached (what is shared counts as often as it is met; a slice's spare places count too). A statement '..UptoSaid' is the law's where the arguments, and the package variables that the reading takes, are together of bulk at most 1048576: NARROWER than '..Said'. Prove '..Said' where nothing that the law and all that it calls make is longer than what came in: it says more and counts as full. Else prove '..UptoSaid'. A law counts once. -/
mutual
def uptoBulk {H : Type} : DataW H → Nat
  | .lit (.string bytes) => bytes.length + 1
  | .lit _ => 1
  | .nil => 1
  | .ptr d => uptoBulk d + 1
  | .slice elems spare => uptoBulkAll elems + uptoBulkAll spare + 1
  | .agg parts => uptoBulkAll parts + 1
  | .iface _ d => uptoBulk d + 1
  | .map entries => uptoBulkEntries entries + 1
  | .held _ => 1
def uptoBulkAll {H : Type} : List (DataW H) → Nat
  | [] => 0
  | d :: r => uptoBulk d + uptoBulkAll r
def uptoBulkEntries {H : Type} : List (Lit × DataW H) → Nat
  | [] => 0
  | x :: r => uptoBulkEntry x + uptoBulkEntries r
def uptoBulkEntry {H : Type} : Lit × DataW H → Nat
  | (.string bytes, d) => bytes.length + uptoBulk d + 1
  | (_, d) => uptoBulk d + 1
 end
def uptoSmall : (H : Type) → List (DataW H) → Bool := fun _ ds => decide (uptoBulkAll ds ≤ 1048576)
def OpenSpec.upto (s : _root_.Go.ChangeSpec) : _root_.Go.OpenSpec := { _root_.Go.OpenSpec.ofChange s with cond := some uptoSmall }

/-- 'epitometop.TopTie', WHERE WHAT IT READS IS OF BULK AT MOST 1048576: true; the input reads as it did. -/
def topTieUptoRow : OpenClaim := { program := "ytegjegihcebimaadoor", sum := "b1973388a27e7eb2c7c36ffccfb29fc427cff2784eefdeea8ad94f46b60b17ef", func := "epitome/epitometop.TopTie", spec := "topTie", unfollowed := true, recurses := true, named := ["epitome/span.kinds", "unicode/utf8.first", "unicode/utf8.acceptRanges"], apart := false, laid := [("unicode/utf8.acceptRanges", laid_unicode_utf8_acceptRanges), ("epitome/span.kinds", laid_epitome_span_kinds), ("unicode/utf8.first", laid_unicode_utf8_first)], narrowed := true }
def TopTieUptoSaid : Prop := topTieUptoRow.holds Tryd.pinned (OpenSpec.upto topTieSpec)

/-- 'epitometop.TopLeast', WHERE WHAT IT READS IS OF BULK AT MOST 1048576: true; the input reads as it did. -/
def topLeastUptoRow : OpenClaim := { program := "ytegjegihcebimaadoor", sum := "b1973388a27e7eb2c7c36ffccfb29fc427cff2784eefdeea8ad94f46b60b17ef", func := "epitome/epitometop.TopLeast", spec := "topLeast", unfollowed := true, recurses := true, named := ["epitome/span.kinds", "unicode/utf8.first", "unicode/utf8.acceptRanges"], apart := false, laid := [("unicode/utf8.acceptRanges", laid_unicode_utf8_acceptRanges), ("epitome/span.kinds", laid_epitome_span_kinds), ("unicode/utf8.first", laid_unicode_utf8_first)], narrowed := true }
def TopLeastUptoSaid : Prop := topLeastUptoRow.holds Tryd.pinned (OpenSpec.upto topLeastSpec)

/-- 'epitometop.TopReplays', WHERE WHAT IT READS IS OF BULK AT MOST 1048576: true; the input reads as it did. -/
def topReplaysUptoRow : OpenClaim := { program := "ytegjegihcebimaadoor", sum := "b1973388a27e7eb2c7c36ffccfb29fc427cff2784eefdeea8ad94f46b60b17ef", func := "epitome/epitometop.TopReplays", spec := "topReplays", unfollowed := true, recurses := true, named := ["epitome/span.kinds", "unicode/utf8.first", "unicode/utf8.acceptRanges"], apart := false, laid := [("unicode/utf8.acceptRanges", laid_unicode_utf8_acceptRanges), ("epitome/span.kinds", laid_epitome_span_kinds), ("unicode/utf8.first", laid_unicode_utf8_first)], narrowed := true }
def TopReplaysUptoSaid : Prop := topReplaysUptoRow.holds Tryd.pinned (OpenSpec.upto topReplaysSpec)

/-- 'epitometop.TopTwo', WHERE WHAT IT READS IS OF BULK AT MOST 1048576: true; the input reads as it did. -/
def topTwoUptoRow : OpenClaim := { program := "ytegjegihcebimaadoor", sum := "b1973388a27e7eb2c7c36ffccfb29fc427cff2784eefdeea8ad94f46b60b17ef", func := "epitome/epitometop.TopTwo", spec := "topTwo", unfollowed := true, recurses := true, named := ["epitome/span.kinds", "unicode/utf8.first", "unicode/utf8.acceptRanges"], apart := false, laid := [("unicode/utf8.acceptRanges", laid_unicode_utf8_acceptRanges), ("epitome/span.kinds", laid_epitome_span_kinds), ("unicode/utf8.first", laid_unicode_utf8_first)], narrowed := true }
def TopTwoUptoSaid : Prop := topTwoUptoRow.holds Tryd.pinned (OpenSpec.upto topTwoSpec)

/-- 'epitometop.TopLogs', WHERE WHAT IT READS IS OF BULK AT MOST 1048576: true; the input reads as it did. -/
def topLogsUptoRow : OpenClaim := { program := "ytegjegihcebimaadoor", sum := "b1973388a27e7eb2c7c36ffccfb29fc427cff2784eefdeea8ad94f46b60b17ef", func := "epitome/epitometop.TopLogs", spec := "topLogs", unfollowed := true, recurses := true, named := ["epitome/span.kinds", "unicode/utf8.first", "unicode/utf8.acceptRanges"], apart := false, laid := [("unicode/utf8.acceptRanges", laid_unicode_utf8_acceptRanges), ("epitome/span.kinds", laid_epitome_span_kinds), ("unicode/utf8.first", laid_unicode_utf8_first)], narrowed := true }
def TopLogsUptoSaid : Prop := topLogsUptoRow.holds Tryd.pinned (OpenSpec.upto topLogsSpec)

end Rows
end Go.Proofs.YtegjegihcebimaaDoor
