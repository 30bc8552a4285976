/-
  DERIVED. GIVEN WITH THE SEED: THE CARDS: each row of YtolljobehfmffaaDoorRows.lean that lists a variable, with what it lists TIED to the program's text (the seventh form; the later family's looks); each row that meets fmt, with fmt's text TOLD by the authors' own Lean function (tested against real Go, not proved from fmt's source: count such statements apart). THE CARD IS WHAT COUNTS. Prove the row's statement (the work); the ties are given (YtolljobehfmffaaDoorTie.lean); close each card by the builder's one call (the guide's Derived/Test/ToyasCard.lean, 'card_holds'). Laid BY PROGRAM, IN A SANDBOX (cutbox-door.mjs). By AI agents, Wed Nov 11 2026. No macro, syntax, notation, axiom, sorry.
-/
import Derived.Test.YtolljobehfmffaaDoorRows
import GoSem.ClaimSeven
namespace Go.Proofs.YtolljobehfmffaaDoor
namespace Rows

/-- THE TIED CARD OF 'epitomelaw01.PointsAll'. -/
def pointsAllCard : Claim7 := { stood := { row := pointsAllRow, standIns := [], harness := (true, "e0b6b361fcb216218eaad14cef945791d99ab2a5a9f4830fea678b78f817a783"), looks := false }, kinds := [], alts := [], laidByText := true, laidKinds := [.data, .pinned], laidTests := true, laidLooks := .later }
def PointsAllCardSaid : Prop := Claim7.holds Tryd.pinned (.plain (OpenSpec.ofChange pointsAllSpec)) pointsAllCard

/-- THE TIED CARD OF 'epitomelaw01.PointsParts'. -/
def pointsPartsCard : Claim7 := { stood := { row := pointsPartsRow, standIns := [], harness := (true, "e0b6b361fcb216218eaad14cef945791d99ab2a5a9f4830fea678b78f817a783"), looks := false }, kinds := [], alts := [], laidByText := true, laidKinds := [.data, .pinned], laidTests := true, laidLooks := .later }
def PointsPartsCardSaid : Prop := Claim7.holds Tryd.pinned (.plain (OpenSpec.ofChange pointsPartsSpec)) pointsPartsCard

/-- THE TIED CARD OF 'epitomelaw01.PointsJoin'. -/
def pointsJoinCard : Claim7 := { stood := { row := pointsJoinRow, standIns := [], harness := (true, "e0b6b361fcb216218eaad14cef945791d99ab2a5a9f4830fea678b78f817a783"), looks := false }, kinds := [], alts := [], laidByText := true, laidKinds := [.data, .pinned], laidTests := true, laidLooks := .later }
def PointsJoinCardSaid : Prop := Claim7.holds Tryd.pinned (.plain (OpenSpec.ofChange pointsJoinSpec)) pointsJoinCard

/-- THE TIED CARD OF 'epitomelaw01.PointsTwice'. -/
def pointsTwiceCard : Claim7 := { stood := { row := pointsTwiceRow, standIns := [], harness := (true, "e0b6b361fcb216218eaad14cef945791d99ab2a5a9f4830fea678b78f817a783"), looks := false }, kinds := [], alts := [], laidByText := true, laidKinds := [.data, .pinned], laidTests := true, laidLooks := .later }
def PointsTwiceCardSaid : Prop := Claim7.holds Tryd.pinned (.plain (OpenSpec.ofChange pointsTwiceSpec)) pointsTwiceCard

/-- THE TIED CARD OF 'epitomelaw01.PointsOf'. -/
def pointsOfCard : Claim7 := { stood := { row := pointsOfRow, standIns := [], harness := (true, "e0b6b361fcb216218eaad14cef945791d99ab2a5a9f4830fea678b78f817a783"), looks := false }, kinds := [], alts := [], laidByText := true, laidKinds := [.data, .pinned], laidTests := true, laidLooks := .later }
def PointsOfCardSaid : Prop := Claim7.holds Tryd.pinned (.plain (OpenSpec.ofChange pointsOfSpec)) pointsOfCard

/-- THE TIED CARD OF 'epitomelaw01.PointsOne'. -/
def pointsOneCard : Claim7 := { stood := { row := pointsOneRow, standIns := [], harness := (true, "e0b6b361fcb216218eaad14cef945791d99ab2a5a9f4830fea678b78f817a783"), looks := false }, kinds := [], alts := [], laidByText := true, laidKinds := [.data, .pinned], laidTests := true, laidLooks := .later }
def PointsOneCardSaid : Prop := Claim7.holds Tryd.pinned (.plain (OpenSpec.ofChange pointsOneSpec)) pointsOneCard

/-- THE TIED CARD OF 'epitomelaw15.SnapRows'. -/
def snapRowsCard : Claim7 := { stood := { row := snapRowsRow, standIns := [], harness := (true, "e0b6b361fcb216218eaad14cef945791d99ab2a5a9f4830fea678b78f817a783"), looks := false }, kinds := [], alts := [], laidByText := true, laidKinds := [.data, .pinned], laidTests := true, laidLooks := .later }
def SnapRowsCardSaid : Prop := Claim7.holds Tryd.pinned (.plain (OpenSpec.ofChange snapRowsSpec)) snapRowsCard

/-- THE TIED CARD OF 'epitomelaw15.SnapSizes'. -/
def snapSizesCard : Claim7 := { stood := { row := snapSizesRow, standIns := [], harness := (true, "e0b6b361fcb216218eaad14cef945791d99ab2a5a9f4830fea678b78f817a783"), looks := false }, kinds := [], alts := [], laidByText := true, laidKinds := [.data, .pinned], laidTests := true, laidLooks := .later }
def SnapSizesCardSaid : Prop := Claim7.holds Tryd.pinned (.plain (OpenSpec.ofChange snapSizesSpec)) snapSizesCard

/-- THE TIED CARD OF 'epitomelaw15.SnapAll'. -/
def snapAllCard : Claim7 := { stood := { row := snapAllRow, standIns := [], harness := (true, "e0b6b361fcb216218eaad14cef945791d99ab2a5a9f4830fea678b78f817a783"), looks := false }, kinds := [], alts := [], laidByText := true, laidKinds := [.data, .pinned], laidTests := true, laidLooks := .later }
def SnapAllCardSaid : Prop := Claim7.holds Tryd.pinned (.plain (OpenSpec.ofChange snapAllSpec)) snapAllCard

/-- THE TIED CARD OF 'epitomelaw15.SnapBack'. -/
def snapBackCard : Claim7 := { stood := { row := snapBackRow, standIns := [], harness := (true, "e0b6b361fcb216218eaad14cef945791d99ab2a5a9f4830fea678b78f817a783"), looks := false }, kinds := [], alts := [], laidByText := true, laidKinds := [.data, .pinned], laidTests := true, laidLooks := .later }
def SnapBackCardSaid : Prop := Claim7.holds Tryd.pinned (.plain (OpenSpec.ofChange snapBackSpec)) snapBackCard

/-- THE TIED CARD OF 'epitomelaw15.SnapTaken'. -/
def snapTakenCard : Claim7 := { stood := { row := snapTakenRow, standIns := [], harness := (true, "e0b6b361fcb216218eaad14cef945791d99ab2a5a9f4830fea678b78f817a783"), looks := false }, kinds := [], alts := [], laidByText := true, laidKinds := [.data, .pinned], laidTests := true, laidLooks := .later }
def SnapTakenCardSaid : Prop := Claim7.holds Tryd.pinned (.plain (OpenSpec.ofChange snapTakenSpec)) snapTakenCard

/-- THE SECOND FORM's CARD OF 'epitomelaw01.PointsAll'. -/
def pointsAllUptoCard : Claim7 := { stood := { row := pointsAllUptoRow, standIns := [], harness := (true, "e0b6b361fcb216218eaad14cef945791d99ab2a5a9f4830fea678b78f817a783"), looks := false }, kinds := [], alts := [], laidByText := true, laidKinds := [.data, .pinned], laidTests := true, laidLooks := .later }
def PointsAllUptoCardSaid : Prop := Claim7.holds Tryd.pinned (.plain (OpenSpec.upto pointsAllSpec)) pointsAllUptoCard

/-- THE SECOND FORM's CARD OF 'epitomelaw01.PointsParts'. -/
def pointsPartsUptoCard : Claim7 := { stood := { row := pointsPartsUptoRow, standIns := [], harness := (true, "e0b6b361fcb216218eaad14cef945791d99ab2a5a9f4830fea678b78f817a783"), looks := false }, kinds := [], alts := [], laidByText := true, laidKinds := [.data, .pinned], laidTests := true, laidLooks := .later }
def PointsPartsUptoCardSaid : Prop := Claim7.holds Tryd.pinned (.plain (OpenSpec.upto pointsPartsSpec)) pointsPartsUptoCard

/-- THE SECOND FORM's CARD OF 'epitomelaw01.PointsJoin'. -/
def pointsJoinUptoCard : Claim7 := { stood := { row := pointsJoinUptoRow, standIns := [], harness := (true, "e0b6b361fcb216218eaad14cef945791d99ab2a5a9f4830fea678b78f817a783"), looks := false }, kinds := [], alts := [], laidByText := true, laidKinds := [.data, .pinned], laidTests := true, laidLooks := .later }
def PointsJoinUptoCardSaid : Prop := Claim7.holds Tryd.pinned (.plain (OpenSpec.upto pointsJoinSpec)) pointsJoinUptoCard

/-- THE SECOND FORM's CARD OF 'epitomelaw01.PointsTwice'. -/
def pointsTwiceUptoCard : Claim7 := { stood := { row := pointsTwiceUptoRow, standIns := [], harness := (true, "e0b6b361fcb216218eaad14cef945791d99ab2a5a9f4830fea678b78f817a783"), looks := false }, kinds := [], alts := [], laidByText := true, laidKinds := [.data, .pinned], laidTests := true, laidLooks := .later }
def PointsTwiceUptoCardSaid : Prop := Claim7.holds Tryd.pinned (.plain (OpenSpec.upto pointsTwiceSpec)) pointsTwiceUptoCard

/-- THE SECOND FORM's CARD OF 'epitomelaw01.PointsOf'. -/
def pointsOfUptoCard : Claim7 := { stood := { row := pointsOfUptoRow, standIns := [], harness := (true, "e0b6b361fcb216218eaad14cef945791d99ab2a5a9f4830fea678b78f817a783"), looks := false }, kinds := [], alts := [], laidByText := true, laidKinds := [.data, .pinned], laidTests := true, laidLooks := .later }
def PointsOfUptoCardSaid : Prop := Claim7.holds Tryd.pinned (.plain (OpenSpec.upto pointsOfSpec)) pointsOfUptoCard

/-- THE SECOND FORM's CARD OF 'epitomelaw01.PointsOne'. -/
def pointsOneUptoCard : Claim7 := { stood := { row := pointsOneUptoRow, standIns := [], harness := (true, "e0b6b361fcb216218eaad14cef945791d99ab2a5a9f4830fea678b78f817a783"), looks := false }, kinds := [], alts := [], laidByText := true, laidKinds := [.data, .pinned], laidTests := true, laidLooks := .later }
def PointsOneUptoCardSaid : Prop := Claim7.holds Tryd.pinned (.plain (OpenSpec.upto pointsOneSpec)) pointsOneUptoCard

/-- THE SECOND FORM's CARD OF 'epitomelaw15.SnapRows'. -/
def snapRowsUptoCard : Claim7 := { stood := { row := snapRowsUptoRow, standIns := [], harness := (true, "e0b6b361fcb216218eaad14cef945791d99ab2a5a9f4830fea678b78f817a783"), looks := false }, kinds := [], alts := [], laidByText := true, laidKinds := [.data, .pinned], laidTests := true, laidLooks := .later }
def SnapRowsUptoCardSaid : Prop := Claim7.holds Tryd.pinned (.plain (OpenSpec.upto snapRowsSpec)) snapRowsUptoCard

/-- THE SECOND FORM's CARD OF 'epitomelaw15.SnapSizes'. -/
def snapSizesUptoCard : Claim7 := { stood := { row := snapSizesUptoRow, standIns := [], harness := (true, "e0b6b361fcb216218eaad14cef945791d99ab2a5a9f4830fea678b78f817a783"), looks := false }, kinds := [], alts := [], laidByText := true, laidKinds := [.data, .pinned], laidTests := true, laidLooks := .later }
def SnapSizesUptoCardSaid : Prop := Claim7.holds Tryd.pinned (.plain (OpenSpec.upto snapSizesSpec)) snapSizesUptoCard

/-- THE SECOND FORM's CARD OF 'epitomelaw15.SnapAll'. -/
def snapAllUptoCard : Claim7 := { stood := { row := snapAllUptoRow, standIns := [], harness := (true, "e0b6b361fcb216218eaad14cef945791d99ab2a5a9f4830fea678b78f817a783"), looks := false }, kinds := [], alts := [], laidByText := true, laidKinds := [.data, .pinned], laidTests := true, laidLooks := .later }
def SnapAllUptoCardSaid : Prop := Claim7.holds Tryd.pinned (.plain (OpenSpec.upto snapAllSpec)) snapAllUptoCard

/-- THE SECOND FORM's CARD OF 'epitomelaw15.SnapBack'. -/
def snapBackUptoCard : Claim7 := { stood := { row := snapBackUptoRow, standIns := [], harness := (true, "e0b6b361fcb216218eaad14cef945791d99ab2a5a9f4830fea678b78f817a783"), looks := false }, kinds := [], alts := [], laidByText := true, laidKinds := [.data, .pinned], laidTests := true, laidLooks := .later }
def SnapBackUptoCardSaid : Prop := Claim7.holds Tryd.pinned (.plain (OpenSpec.upto snapBackSpec)) snapBackUptoCard

/-- THE SECOND FORM's CARD OF 'epitomelaw15.SnapTaken'. -/
def snapTakenUptoCard : Claim7 := { stood := { row := snapTakenUptoRow, standIns := [], harness := (true, "e0b6b361fcb216218eaad14cef945791d99ab2a5a9f4830fea678b78f817a783"), looks := false }, kinds := [], alts := [], laidByText := true, laidKinds := [.data, .pinned], laidTests := true, laidLooks := .later }
def SnapTakenUptoCardSaid : Prop := Claim7.holds Tryd.pinned (.plain (OpenSpec.upto snapTakenSpec)) snapTakenUptoCard
end Rows
end Go.Proofs.YtolljobehfmffaaDoor
