/-
  NARROWER THAN 'FOR EVERY INPUT', by the rows' own cells (each row's printed sentence says how): PointsAll: laid · PointsParts: laid · PointsJoin: laid · PointsTwice: laid · PointsOf: laid · PointsOne: laid · SnapRows: laid · SnapSizes: laid · SnapAll: laid · SnapBack: laid · SnapTaken: laid.
  DERIVED. THE GIVEN ROWS OF THIS SEAT. 11 by the template 'for every input the law returns true; each argument reads behind the call as it read before'; 0 by the template 'total and deterministic' (their statements: YtolljobehfmffaaDoorTotals.lean).
  GIVEN WITH THE SEED: the statements are not yours to turn. If you find one false, say at which input.
  Laid BY PROGRAM, IN A SANDBOX (cutbox-rows.mjs): the forced cells as the released guide's own fill.sh prints them over the translation e2a6addea5e7b50e… (all of the seat's roots in one cut). By AI agents, Wed Nov 11 2026. No macro, syntax, notation, axiom, sorry.
-/
import Derived.Test.YtolljobehfmffaaDoorChecked
import GoSem.PinnedTables
import GoSem.Claim
import GoSem.ClaimJoined
import GoSem.ClaimMapViews
import Derived.JoinedTies
import Derived.KernelRfl
namespace Go.Proofs.YtolljobehfmffaaDoor
/- THE CELL 'sum', in the pinned program and in every row, IS THE sha256 OF THE DUMP (.gsa) THAT YtolljobehfmffaaDoorProg.lean LOADS. Nothing in Lean hashes anything: it is a label: what it is worth is what the hold of that sum in a sandbox is worth. -/
noncomputable def Tryd.pinned : Pinned := { name := "ytolljobehfmffaadoor", sum := "e2a6addea5e7b50ed448e18b59dc5a7dc2e11255be202191c8c5d185d5299e6e", checked := Tryd.checked }
namespace Rows
def none {H : Type} : Left H := { results := [], args := [] }

/- WHAT THE LISTED PACKAGE-LEVEL VARIABLES READ AS WHEN THE CALL BEGINS. Each datum BY PROGRAM (the guide's laid-datum.mjs) off the statement by which the dump's own 'gosem.cut.vars' lays the variable. In a bare row this is a premise. The card (YtolljobehfmffaaDoorCards.lean) ties it to the program's text. -/
def laid_unicode_utf8_acceptRanges {H : Type} : DataW H := .agg [.agg [.lit (.int .u8 128), .lit (.int .u8 191)], .agg [.lit (.int .u8 160), .lit (.int .u8 191)], .agg [.lit (.int .u8 128), .lit (.int .u8 159)], .agg [.lit (.int .u8 144), .lit (.int .u8 191)], .agg [.lit (.int .u8 128), .lit (.int .u8 143)], .agg [.lit (.int .u8 0), .lit (.int .u8 0)], .agg [.lit (.int .u8 0), .lit (.int .u8 0)], .agg [.lit (.int .u8 0), .lit (.int .u8 0)], .agg [.lit (.int .u8 0), .lit (.int .u8 0)], .agg [.lit (.int .u8 0), .lit (.int .u8 0)], .agg [.lit (.int .u8 0), .lit (.int .u8 0)], .agg [.lit (.int .u8 0), .lit (.int .u8 0)], .agg [.lit (.int .u8 0), .lit (.int .u8 0)], .agg [.lit (.int .u8 0), .lit (.int .u8 0)], .agg [.lit (.int .u8 0), .lit (.int .u8 0)], .agg [.lit (.int .u8 0), .lit (.int .u8 0)]]
/-- One of Go's own tables, pinned by name: the form's constant. -/
def laid_unicode_utf8_first : DataW Unit := Go.Pinned.utf8First

/-- 'epitomelaw01.PointsAll': WHATEVER THE INPUT: true; the input reads as it did. -/
def pointsAllSpec : ChangeSpec := { name := "pointsAll", fn := fun _ => fun
  | [d1, d2, d3] => { results := [.lit (.bool true)], args := [d1, d2, d3] }
  | _ => none }
def pointsAllRow : OpenClaim := { program := "ytolljobehfmffaadoor", sum := "e2a6addea5e7b50ed448e18b59dc5a7dc2e11255be202191c8c5d185d5299e6e", func := "epitome/epitomelaw01.PointsAll", spec := "pointsAll", named := ["unicode/utf8.first", "unicode/utf8.acceptRanges"], apart := false, laid := [("unicode/utf8.acceptRanges", laid_unicode_utf8_acceptRanges), ("unicode/utf8.first", laid_unicode_utf8_first)] }
def PointsAllSaid : Prop := pointsAllRow.holds Tryd.pinned (OpenSpec.ofChange pointsAllSpec)

/-- ITS FALSE NEIGHBOUR: 'it returns false'. Refute it at one input. -/
def pointsAllWrong : ChangeSpec := { name := "pointsAll", fn := fun _ => fun
  | [d1, d2, d3] => { results := [.lit (.bool false)], args := [d1, d2, d3] }
  | _ => none }
def PointsAllWrongFalsely : Prop := pointsAllRow.holds Tryd.pinned (OpenSpec.ofChange pointsAllWrong)

/-- 'epitomelaw01.PointsParts': WHATEVER THE INPUT: true; the input reads as it did. -/
def pointsPartsSpec : ChangeSpec := { name := "pointsParts", fn := fun _ => fun
  | [d1, d2, d3] => { results := [.lit (.bool true)], args := [d1, d2, d3] }
  | _ => none }
def pointsPartsRow : OpenClaim := { program := "ytolljobehfmffaadoor", sum := "e2a6addea5e7b50ed448e18b59dc5a7dc2e11255be202191c8c5d185d5299e6e", func := "epitome/epitomelaw01.PointsParts", spec := "pointsParts", named := ["unicode/utf8.first", "unicode/utf8.acceptRanges"], apart := false, laid := [("unicode/utf8.acceptRanges", laid_unicode_utf8_acceptRanges), ("unicode/utf8.first", laid_unicode_utf8_first)] }
def PointsPartsSaid : Prop := pointsPartsRow.holds Tryd.pinned (OpenSpec.ofChange pointsPartsSpec)

/-- ITS FALSE NEIGHBOUR: 'it returns false'. Refute it at one input. -/
def pointsPartsWrong : ChangeSpec := { name := "pointsParts", fn := fun _ => fun
  | [d1, d2, d3] => { results := [.lit (.bool false)], args := [d1, d2, d3] }
  | _ => none }
def PointsPartsWrongFalsely : Prop := pointsPartsRow.holds Tryd.pinned (OpenSpec.ofChange pointsPartsWrong)

/-- 'epitomelaw01.PointsJoin': WHATEVER THE INPUT: true; the input reads as it did. -/
def pointsJoinSpec : ChangeSpec := { name := "pointsJoin", fn := fun _ => fun
  | [d1, d2, d3] => { results := [.lit (.bool true)], args := [d1, d2, d3] }
  | _ => none }
def pointsJoinRow : OpenClaim := { program := "ytolljobehfmffaadoor", sum := "e2a6addea5e7b50ed448e18b59dc5a7dc2e11255be202191c8c5d185d5299e6e", func := "epitome/epitomelaw01.PointsJoin", spec := "pointsJoin", named := ["unicode/utf8.first", "unicode/utf8.acceptRanges"], apart := false, laid := [("unicode/utf8.acceptRanges", laid_unicode_utf8_acceptRanges), ("unicode/utf8.first", laid_unicode_utf8_first)] }
def PointsJoinSaid : Prop := pointsJoinRow.holds Tryd.pinned (OpenSpec.ofChange pointsJoinSpec)

/-- ITS FALSE NEIGHBOUR: 'it returns false'. Refute it at one input. -/
def pointsJoinWrong : ChangeSpec := { name := "pointsJoin", fn := fun _ => fun
  | [d1, d2, d3] => { results := [.lit (.bool false)], args := [d1, d2, d3] }
  | _ => none }
def PointsJoinWrongFalsely : Prop := pointsJoinRow.holds Tryd.pinned (OpenSpec.ofChange pointsJoinWrong)

/-- 'epitomelaw01.PointsTwice': WHATEVER THE INPUT: true; the input reads as it did. -/
def pointsTwiceSpec : ChangeSpec := { name := "pointsTwice", fn := fun _ => fun
  | [d1, d2] => { results := [.lit (.bool true)], args := [d1, d2] }
  | _ => none }
def pointsTwiceRow : OpenClaim := { program := "ytolljobehfmffaadoor", sum := "e2a6addea5e7b50ed448e18b59dc5a7dc2e11255be202191c8c5d185d5299e6e", func := "epitome/epitomelaw01.PointsTwice", spec := "pointsTwice", named := ["unicode/utf8.first", "unicode/utf8.acceptRanges"], apart := false, laid := [("unicode/utf8.acceptRanges", laid_unicode_utf8_acceptRanges), ("unicode/utf8.first", laid_unicode_utf8_first)] }
def PointsTwiceSaid : Prop := pointsTwiceRow.holds Tryd.pinned (OpenSpec.ofChange pointsTwiceSpec)

/-- ITS FALSE NEIGHBOUR: 'it returns false'. Refute it at one input. -/
def pointsTwiceWrong : ChangeSpec := { name := "pointsTwice", fn := fun _ => fun
  | [d1, d2] => { results := [.lit (.bool false)], args := [d1, d2] }
  | _ => none }
def PointsTwiceWrongFalsely : Prop := pointsTwiceRow.holds Tryd.pinned (OpenSpec.ofChange pointsTwiceWrong)

/-- 'epitomelaw01.PointsOf': WHATEVER THE INPUT: true; the input reads as it did. -/
def pointsOfSpec : ChangeSpec := { name := "pointsOf", fn := fun _ => fun
  | [d] => { results := [.lit (.bool true)], args := [d] }
  | _ => none }
def pointsOfRow : OpenClaim := { program := "ytolljobehfmffaadoor", sum := "e2a6addea5e7b50ed448e18b59dc5a7dc2e11255be202191c8c5d185d5299e6e", func := "epitome/epitomelaw01.PointsOf", spec := "pointsOf", named := ["unicode/utf8.first", "unicode/utf8.acceptRanges"], apart := false, laid := [("unicode/utf8.acceptRanges", laid_unicode_utf8_acceptRanges), ("unicode/utf8.first", laid_unicode_utf8_first)] }
def PointsOfSaid : Prop := pointsOfRow.holds Tryd.pinned (OpenSpec.ofChange pointsOfSpec)

/-- ITS FALSE NEIGHBOUR: 'it returns false'. Refute it at one input. -/
def pointsOfWrong : ChangeSpec := { name := "pointsOf", fn := fun _ => fun
  | [d] => { results := [.lit (.bool false)], args := [d] }
  | _ => none }
def PointsOfWrongFalsely : Prop := pointsOfRow.holds Tryd.pinned (OpenSpec.ofChange pointsOfWrong)

/-- 'epitomelaw01.PointsOne': WHATEVER THE INPUT: true; the input reads as it did. -/
def pointsOneSpec : ChangeSpec := { name := "pointsOne", fn := fun _ => fun
  | [d] => { results := [.lit (.bool true)], args := [d] }
  | _ => none }
def pointsOneRow : OpenClaim := { program := "ytolljobehfmffaadoor", sum := "e2a6addea5e7b50ed448e18b59dc5a7dc2e11255be202191c8c5d185d5299e6e", func := "epitome/epitomelaw01.PointsOne", spec := "pointsOne", named := ["unicode/utf8.first", "unicode/utf8.acceptRanges"], apart := false, laid := [("unicode/utf8.acceptRanges", laid_unicode_utf8_acceptRanges), ("unicode/utf8.first", laid_unicode_utf8_first)] }
def PointsOneSaid : Prop := pointsOneRow.holds Tryd.pinned (OpenSpec.ofChange pointsOneSpec)

/-- ITS FALSE NEIGHBOUR: 'it returns false'. Refute it at one input. -/
def pointsOneWrong : ChangeSpec := { name := "pointsOne", fn := fun _ => fun
  | [d] => { results := [.lit (.bool false)], args := [d] }
  | _ => none }
def PointsOneWrongFalsely : Prop := pointsOneRow.holds Tryd.pinned (OpenSpec.ofChange pointsOneWrong)

/-- 'epitomelaw15.SnapRows': WHATEVER THE INPUT: true; the input reads as it did. -/
def snapRowsSpec : ChangeSpec := { name := "snapRows", fn := fun _ => fun
  | [d1, d2] => { results := [.lit (.bool true)], args := [d1, d2] }
  | _ => none }
def snapRowsRow : OpenClaim := { program := "ytolljobehfmffaadoor", sum := "e2a6addea5e7b50ed448e18b59dc5a7dc2e11255be202191c8c5d185d5299e6e", func := "epitome/epitomelaw15.SnapRows", spec := "snapRows", unfollowed := true, recurses := true, named := ["unicode/utf8.first", "unicode/utf8.acceptRanges"], apart := false, laid := [("unicode/utf8.acceptRanges", laid_unicode_utf8_acceptRanges), ("unicode/utf8.first", laid_unicode_utf8_first)] }
def SnapRowsSaid : Prop := snapRowsRow.holds Tryd.pinned (OpenSpec.ofChange snapRowsSpec)

/-- ITS FALSE NEIGHBOUR: 'it returns false'. Refute it at one input. -/
def snapRowsWrong : ChangeSpec := { name := "snapRows", fn := fun _ => fun
  | [d1, d2] => { results := [.lit (.bool false)], args := [d1, d2] }
  | _ => none }
def SnapRowsWrongFalsely : Prop := snapRowsRow.holds Tryd.pinned (OpenSpec.ofChange snapRowsWrong)

/-- 'epitomelaw15.SnapSizes': WHATEVER THE INPUT: true; the input reads as it did. -/
def snapSizesSpec : ChangeSpec := { name := "snapSizes", fn := fun _ => fun
  | [d1, d2, d3] => { results := [.lit (.bool true)], args := [d1, d2, d3] }
  | _ => none }
def snapSizesRow : OpenClaim := { program := "ytolljobehfmffaadoor", sum := "e2a6addea5e7b50ed448e18b59dc5a7dc2e11255be202191c8c5d185d5299e6e", func := "epitome/epitomelaw15.SnapSizes", spec := "snapSizes", unfollowed := true, recurses := true, named := ["unicode/utf8.first", "unicode/utf8.acceptRanges"], apart := false, laid := [("unicode/utf8.acceptRanges", laid_unicode_utf8_acceptRanges), ("unicode/utf8.first", laid_unicode_utf8_first)] }
def SnapSizesSaid : Prop := snapSizesRow.holds Tryd.pinned (OpenSpec.ofChange snapSizesSpec)

/-- ITS FALSE NEIGHBOUR: 'it returns false'. Refute it at one input. -/
def snapSizesWrong : ChangeSpec := { name := "snapSizes", fn := fun _ => fun
  | [d1, d2, d3] => { results := [.lit (.bool false)], args := [d1, d2, d3] }
  | _ => none }
def SnapSizesWrongFalsely : Prop := snapSizesRow.holds Tryd.pinned (OpenSpec.ofChange snapSizesWrong)

/-- 'epitomelaw15.SnapAll': WHATEVER THE INPUT: true; the input reads as it did. -/
def snapAllSpec : ChangeSpec := { name := "snapAll", fn := fun _ => fun
  | [d1, d2] => { results := [.lit (.bool true)], args := [d1, d2] }
  | _ => none }
def snapAllRow : OpenClaim := { program := "ytolljobehfmffaadoor", sum := "e2a6addea5e7b50ed448e18b59dc5a7dc2e11255be202191c8c5d185d5299e6e", func := "epitome/epitomelaw15.SnapAll", spec := "snapAll", unfollowed := true, recurses := true, named := ["unicode/utf8.first", "unicode/utf8.acceptRanges"], apart := false, laid := [("unicode/utf8.acceptRanges", laid_unicode_utf8_acceptRanges), ("unicode/utf8.first", laid_unicode_utf8_first)] }
def SnapAllSaid : Prop := snapAllRow.holds Tryd.pinned (OpenSpec.ofChange snapAllSpec)

/-- ITS FALSE NEIGHBOUR: 'it returns false'. Refute it at one input. -/
def snapAllWrong : ChangeSpec := { name := "snapAll", fn := fun _ => fun
  | [d1, d2] => { results := [.lit (.bool false)], args := [d1, d2] }
  | _ => none }
def SnapAllWrongFalsely : Prop := snapAllRow.holds Tryd.pinned (OpenSpec.ofChange snapAllWrong)

/-- 'epitomelaw15.SnapBack': WHATEVER THE INPUT: true; the input reads as it did. -/
def snapBackSpec : ChangeSpec := { name := "snapBack", fn := fun _ => fun
  | [d1, d2, d3] => { results := [.lit (.bool true)], args := [d1, d2, d3] }
  | _ => none }
def snapBackRow : OpenClaim := { program := "ytolljobehfmffaadoor", sum := "e2a6addea5e7b50ed448e18b59dc5a7dc2e11255be202191c8c5d185d5299e6e", func := "epitome/epitomelaw15.SnapBack", spec := "snapBack", unfollowed := true, recurses := true, named := ["unicode/utf8.first", "unicode/utf8.acceptRanges"], apart := false, laid := [("unicode/utf8.acceptRanges", laid_unicode_utf8_acceptRanges), ("unicode/utf8.first", laid_unicode_utf8_first)] }
def SnapBackSaid : Prop := snapBackRow.holds Tryd.pinned (OpenSpec.ofChange snapBackSpec)

/-- ITS FALSE NEIGHBOUR: 'it returns false'. Refute it at one input. -/
def snapBackWrong : ChangeSpec := { name := "snapBack", fn := fun _ => fun
  | [d1, d2, d3] => { results := [.lit (.bool false)], args := [d1, d2, d3] }
  | _ => none }
def SnapBackWrongFalsely : Prop := snapBackRow.holds Tryd.pinned (OpenSpec.ofChange snapBackWrong)

/-- 'epitomelaw15.SnapTaken': WHATEVER THE INPUT: true; the input reads as it did. -/
def snapTakenSpec : ChangeSpec := { name := "snapTaken", fn := fun _ => fun
  | [d] => { results := [.lit (.bool true)], args := [d] }
  | _ => none }
def snapTakenRow : OpenClaim := { program := "ytolljobehfmffaadoor", sum := "e2a6addea5e7b50ed448e18b59dc5a7dc2e11255be202191c8c5d185d5299e6e", func := "epitome/epitomelaw15.SnapTaken", spec := "snapTaken", unfollowed := true, recurses := true, named := ["unicode/utf8.first", "unicode/utf8.acceptRanges"], apart := false, laid := [("unicode/utf8.acceptRanges", laid_unicode_utf8_acceptRanges), ("unicode/utf8.first", laid_unicode_utf8_first)] }
def SnapTakenSaid : Prop := snapTakenRow.holds Tryd.pinned (OpenSpec.ofChange snapTakenSpec)

/-- ITS FALSE NEIGHBOUR: 'it returns false'. Refute it at one input. -/
def snapTakenWrong : ChangeSpec := { name := "snapTaken", fn := fun _ => fun
  | [d] => { results := [.lit (.bool false)], args := [d] }
  | _ => none }
def SnapTakenWrongFalsely : Prop := snapTakenRow.holds Tryd.pinned (OpenSpec.ofChange snapTakenWrong)

/- THE SECOND FORM. 'bulk': how many values and letters a reading holds, each counted each time it is reached (what is shared counts as often as it is met; a slice's spare places count too). A statement '..UptoSaid' is the law's where the arguments, and the package variables that the reading takes, are together of bulk at most 1048576: NARROWER than '..Said'. Prove '..Said' where nothing that the law and all that it calls make is longer than what came in: it says more and counts as full. Else prove '..UptoSaid'. A law counts once. -/
mutual
def uptoBulk {H : Type} : DataW H → Nat
  | .lit (.string bytes) => bytes.length + 1
  | .lit _ => 1
  | .nil => 1
  | .ptr d => uptoBulk d + 1
  | .slice elems spare => uptoBulkAll elems + uptoBulkAll spare + 1
  | .agg parts => uptoBulkAll parts + 1
  | .iface _ d => uptoBulk d + 1
  | .map entries => uptoBulkEntries entries + 1
  | .held _ => 1
def uptoBulkAll {H : Type} : List (DataW H) → Nat
  | [] => 0
  | d :: r => uptoBulk d + uptoBulkAll r
def uptoBulkEntries {H : Type} : List (Lit × DataW H) → Nat
  | [] => 0
  | x :: r => uptoBulkEntry x + uptoBulkEntries r
def uptoBulkEntry {H : Type} : Lit × DataW H → Nat
  | (.string bytes, d) => bytes.length + uptoBulk d + 1
  | (_, d) => uptoBulk d + 1
 end
def uptoSmall : (H : Type) → List (DataW H) → Bool := fun _ ds => decide (uptoBulkAll ds ≤ 1048576)
def OpenSpec.upto (s : _root_.Go.ChangeSpec) : _root_.Go.OpenSpec := { _root_.Go.OpenSpec.ofChange s with cond := some uptoSmall }

/-- 'epitomelaw01.PointsAll', WHERE WHAT IT READS IS OF BULK AT MOST 1048576: true; the input reads as it did. -/
def pointsAllUptoRow : OpenClaim := { program := "ytolljobehfmffaadoor", sum := "e2a6addea5e7b50ed448e18b59dc5a7dc2e11255be202191c8c5d185d5299e6e", func := "epitome/epitomelaw01.PointsAll", spec := "pointsAll", named := ["unicode/utf8.first", "unicode/utf8.acceptRanges"], apart := false, laid := [("unicode/utf8.acceptRanges", laid_unicode_utf8_acceptRanges), ("unicode/utf8.first", laid_unicode_utf8_first)], narrowed := true }
def PointsAllUptoSaid : Prop := pointsAllUptoRow.holds Tryd.pinned (OpenSpec.upto pointsAllSpec)

/-- 'epitomelaw01.PointsParts', WHERE WHAT IT READS IS OF BULK AT MOST 1048576: true; the input reads as it did. -/
def pointsPartsUptoRow : OpenClaim := { program := "ytolljobehfmffaadoor", sum := "e2a6addea5e7b50ed448e18b59dc5a7dc2e11255be202191c8c5d185d5299e6e", func := "epitome/epitomelaw01.PointsParts", spec := "pointsParts", named := ["unicode/utf8.first", "unicode/utf8.acceptRanges"], apart := false, laid := [("unicode/utf8.acceptRanges", laid_unicode_utf8_acceptRanges), ("unicode/utf8.first", laid_unicode_utf8_first)], narrowed := true }
def PointsPartsUptoSaid : Prop := pointsPartsUptoRow.holds Tryd.pinned (OpenSpec.upto pointsPartsSpec)

/-- 'epitomelaw01.PointsJoin', WHERE WHAT IT READS IS OF BULK AT MOST 1048576: true; the input reads as it did. -/
def pointsJoinUptoRow : OpenClaim := { program := "ytolljobehfmffaadoor", sum := "e2a6addea5e7b50ed448e18b59dc5a7dc2e11255be202191c8c5d185d5299e6e", func := "epitome/epitomelaw01.PointsJoin", spec := "pointsJoin", named := ["unicode/utf8.first", "unicode/utf8.acceptRanges"], apart := false, laid := [("unicode/utf8.acceptRanges", laid_unicode_utf8_acceptRanges), ("unicode/utf8.first", laid_unicode_utf8_first)], narrowed := true }
def PointsJoinUptoSaid : Prop := pointsJoinUptoRow.holds Tryd.pinned (OpenSpec.upto pointsJoinSpec)

/-- 'epitomelaw01.PointsTwice', WHERE WHAT IT READS IS OF BULK AT MOST 1048576: true; the input reads as it did. -/
def pointsTwiceUptoRow : OpenClaim := { program := "ytolljobehfmffaadoor", sum := "e2a6addea5e7b50ed448e18b59dc5a7dc2e11255be202191c8c5d185d5299e6e", func := "epitome/epitomelaw01.PointsTwice", spec := "pointsTwice", named := ["unicode/utf8.first", "unicode/utf8.acceptRanges"], apart := false, laid := [("unicode/utf8.acceptRanges", laid_unicode_utf8_acceptRanges), ("unicode/utf8.first", laid_unicode_utf8_first)], narrowed := true }
def PointsTwiceUptoSaid : Prop := pointsTwiceUptoRow.holds Tryd.pinned (OpenSpec.upto pointsTwiceSpec)

/-- 'epitomelaw01.PointsOf', WHERE WHAT IT READS IS OF BULK AT MOST 1048576: true; the input reads as it did. -/
def pointsOfUptoRow : OpenClaim := { program := "ytolljobehfmffaadoor", sum := "e2a6addea5e7b50ed448e18b59dc5a7dc2e11255be202191c8c5d185d5299e6e", func := "epitome/epitomelaw01.PointsOf", spec := "pointsOf", named := ["unicode/utf8.first", "unicode/utf8.acceptRanges"], apart := false, laid := [("unicode/utf8.acceptRanges", laid_unicode_utf8_acceptRanges), ("unicode/utf8.first", laid_unicode_utf8_first)], narrowed := true }
def PointsOfUptoSaid : Prop := pointsOfUptoRow.holds Tryd.pinned (OpenSpec.upto pointsOfSpec)

/-- 'epitomelaw01.PointsOne', WHERE WHAT IT READS IS OF BULK AT MOST 1048576: true; the input reads as it did. -/
def pointsOneUptoRow : OpenClaim := { program := "ytolljobehfmffaadoor", sum := "e2a6addea5e7b50ed448e18b59dc5a7dc2e11255be202191c8c5d185d5299e6e", func := "epitome/epitomelaw01.PointsOne", spec := "pointsOne", named := ["unicode/utf8.first", "unicode/utf8.acceptRanges"], apart := false, laid := [("unicode/utf8.acceptRanges", laid_unicode_utf8_acceptRanges), ("unicode/utf8.first", laid_unicode_utf8_first)], narrowed := true }
def PointsOneUptoSaid : Prop := pointsOneUptoRow.holds Tryd.pinned (OpenSpec.upto pointsOneSpec)

/-- 'epitomelaw15.SnapRows', WHERE WHAT IT READS IS OF BULK AT MOST 1048576: true; the input reads as it did. -/
def snapRowsUptoRow : OpenClaim := { program := "ytolljobehfmffaadoor", sum := "e2a6addea5e7b50ed448e18b59dc5a7dc2e11255be202191c8c5d185d5299e6e", func := "epitome/epitomelaw15.SnapRows", spec := "snapRows", unfollowed := true, recurses := true, named := ["unicode/utf8.first", "unicode/utf8.acceptRanges"], apart := false, laid := [("unicode/utf8.acceptRanges", laid_unicode_utf8_acceptRanges), ("unicode/utf8.first", laid_unicode_utf8_first)], narrowed := true }
def SnapRowsUptoSaid : Prop := snapRowsUptoRow.holds Tryd.pinned (OpenSpec.upto snapRowsSpec)

/-- 'epitomelaw15.SnapSizes', WHERE WHAT IT READS IS OF BULK AT MOST 1048576: true; the input reads as it did. -/
def snapSizesUptoRow : OpenClaim := { program := "ytolljobehfmffaadoor", sum := "e2a6addea5e7b50ed448e18b59dc5a7dc2e11255be202191c8c5d185d5299e6e", func := "epitome/epitomelaw15.SnapSizes", spec := "snapSizes", unfollowed := true, recurses := true, named := ["unicode/utf8.first", "unicode/utf8.acceptRanges"], apart := false, laid := [("unicode/utf8.acceptRanges", laid_unicode_utf8_acceptRanges), ("unicode/utf8.first", laid_unicode_utf8_first)], narrowed := true }
def SnapSizesUptoSaid : Prop := snapSizesUptoRow.holds Tryd.pinned (OpenSpec.upto snapSizesSpec)

/-- 'epitomelaw15.SnapAll', WHERE WHAT IT READS IS OF BULK AT MOST 1048576: true; the input reads as it did. -/
def snapAllUptoRow : OpenClaim := { program := "ytolljobehfmffaadoor", sum := "e2a6addea5e7b50ed448e18b59dc5a7dc2e11255be202191c8c5d185d5299e6e", func := "epitome/epitomelaw15.SnapAll", spec := "snapAll", unfollowed := true, recurses := true, named := ["unicode/utf8.first", "unicode/utf8.acceptRanges"], apart := false, laid := [("unicode/utf8.acceptRanges", laid_unicode_utf8_acceptRanges), ("unicode/utf8.first", laid_unicode_utf8_first)], narrowed := true }
def SnapAllUptoSaid : Prop := snapAllUptoRow.holds Tryd.pinned (OpenSpec.upto snapAllSpec)

/-- 'epitomelaw15.SnapBack', WHERE WHAT IT READS IS OF BULK AT MOST 1048576: true; the input reads as it did. -/
def snapBackUptoRow : OpenClaim := { program := "ytolljobehfmffaadoor", sum := "e2a6addea5e7b50ed448e18b59dc5a7dc2e11255be202191c8c5d185d5299e6e", func := "epitome/epitomelaw15.SnapBack", spec := "snapBack", unfollowed := true, recurses := true, named := ["unicode/utf8.first", "unicode/utf8.acceptRanges"], apart := false, laid := [("unicode/utf8.acceptRanges", laid_unicode_utf8_acceptRanges), ("unicode/utf8.first", laid_unicode_utf8_first)], narrowed := true }
def SnapBackUptoSaid : Prop := snapBackUptoRow.holds Tryd.pinned (OpenSpec.upto snapBackSpec)

/-- 'epitomelaw15.SnapTaken', WHERE WHAT IT READS IS OF BULK AT MOST 1048576: true; the input reads as it did. -/
def snapTakenUptoRow : OpenClaim := { program := "ytolljobehfmffaadoor", sum := "e2a6addea5e7b50ed448e18b59dc5a7dc2e11255be202191c8c5d185d5299e6e", func := "epitome/epitomelaw15.SnapTaken", spec := "snapTaken", unfollowed := true, recurses := true, named := ["unicode/utf8.first", "unicode/utf8.acceptRanges"], apart := false, laid := [("unicode/utf8.acceptRanges", laid_unicode_utf8_acceptRanges), ("unicode/utf8.first", laid_unicode_utf8_first)], narrowed := true }
def SnapTakenUptoSaid : Prop := snapTakenUptoRow.holds Tryd.pinned (OpenSpec.upto snapTakenSpec)

end Rows
end Go.Proofs.YtolljobehfmffaaDoor
