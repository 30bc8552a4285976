/-
  DERIVED. GIVEN WITH THE SEED: THE CARDS: each row of YtegjegihcebimaaDoorRows.lean that lists a variable, with what it lists TIED to the program's text (the seventh form; the later family's looks); each row that meets fmt, with fmt's text TOLD by the authors' own Lean function (tested against real Go, not proved from fmt's source: count such statements apart). THE CARD IS WHAT COUNTS. Prove the row's statement (the work); the ties are given (YtegjegihcebimaaDoorTie.lean); close each card by the builder's one call (the guide's Derived/Test/ToyasCard.lean, 'card_holds'). Laid BY PROGRAM, IN A SANDBOX (cutbox-door.mjs). By AI agents, Wed Nov 11 2026. No macro, syntax, notation, axiom, sorry.
-/
import Derived.Test.YtegjegihcebimaaDoorRows
import GoSem.ClaimSeven
namespace Go.Proofs.YtegjegihcebimaaDoor
namespace Rows

/-- THE TIED CARD OF 'epitometop.TopTie'. -/
def topTieCard : Claim7 := { stood := { row := topTieRow, standIns := [], harness := (true, "73664606c9a7485d9b301ebcd33cd1d096b91cd9e841f2f5aa2b310511150d28"), looks := false }, kinds := [], alts := [], laidByText := true, laidKinds := [.data, .data, .pinned], laidTests := true, laidLooks := .later }
def TopTieCardSaid : Prop := Claim7.holds Tryd.pinned (.plain (OpenSpec.ofChange topTieSpec)) topTieCard

/-- THE TIED CARD OF 'epitometop.TopLeast'. -/
def topLeastCard : Claim7 := { stood := { row := topLeastRow, standIns := [], harness := (true, "73664606c9a7485d9b301ebcd33cd1d096b91cd9e841f2f5aa2b310511150d28"), looks := false }, kinds := [], alts := [], laidByText := true, laidKinds := [.data, .data, .pinned], laidTests := true, laidLooks := .later }
def TopLeastCardSaid : Prop := Claim7.holds Tryd.pinned (.plain (OpenSpec.ofChange topLeastSpec)) topLeastCard

/-- THE TIED CARD OF 'epitometop.TopReplays'. -/
def topReplaysCard : Claim7 := { stood := { row := topReplaysRow, standIns := [], harness := (true, "73664606c9a7485d9b301ebcd33cd1d096b91cd9e841f2f5aa2b310511150d28"), looks := false }, kinds := [], alts := [], laidByText := true, laidKinds := [.data, .data, .pinned], laidTests := true, laidLooks := .later }
def TopReplaysCardSaid : Prop := Claim7.holds Tryd.pinned (.plain (OpenSpec.ofChange topReplaysSpec)) topReplaysCard

/-- THE TIED CARD OF 'epitometop.TopTwo'. -/
def topTwoCard : Claim7 := { stood := { row := topTwoRow, standIns := [], harness := (true, "73664606c9a7485d9b301ebcd33cd1d096b91cd9e841f2f5aa2b310511150d28"), looks := false }, kinds := [], alts := [], laidByText := true, laidKinds := [.data, .data, .pinned], laidTests := true, laidLooks := .later }
def TopTwoCardSaid : Prop := Claim7.holds Tryd.pinned (.plain (OpenSpec.ofChange topTwoSpec)) topTwoCard

/-- THE TIED CARD OF 'epitometop.TopLogs'. -/
def topLogsCard : Claim7 := { stood := { row := topLogsRow, standIns := [], harness := (true, "73664606c9a7485d9b301ebcd33cd1d096b91cd9e841f2f5aa2b310511150d28"), looks := false }, kinds := [], alts := [], laidByText := true, laidKinds := [.data, .data, .pinned], laidTests := true, laidLooks := .later }
def TopLogsCardSaid : Prop := Claim7.holds Tryd.pinned (.plain (OpenSpec.ofChange topLogsSpec)) topLogsCard

/-- THE SECOND FORM's CARD OF 'epitometop.TopTie'. -/
def topTieUptoCard : Claim7 := { stood := { row := topTieUptoRow, standIns := [], harness := (true, "73664606c9a7485d9b301ebcd33cd1d096b91cd9e841f2f5aa2b310511150d28"), looks := false }, kinds := [], alts := [], laidByText := true, laidKinds := [.data, .data, .pinned], laidTests := true, laidLooks := .later }
def TopTieUptoCardSaid : Prop := Claim7.holds Tryd.pinned (.plain (OpenSpec.upto topTieSpec)) topTieUptoCard

/-- THE SECOND FORM's CARD OF 'epitometop.TopLeast'. -/
def topLeastUptoCard : Claim7 := { stood := { row := topLeastUptoRow, standIns := [], harness := (true, "73664606c9a7485d9b301ebcd33cd1d096b91cd9e841f2f5aa2b310511150d28"), looks := false }, kinds := [], alts := [], laidByText := true, laidKinds := [.data, .data, .pinned], laidTests := true, laidLooks := .later }
def TopLeastUptoCardSaid : Prop := Claim7.holds Tryd.pinned (.plain (OpenSpec.upto topLeastSpec)) topLeastUptoCard

/-- THE SECOND FORM's CARD OF 'epitometop.TopReplays'. -/
def topReplaysUptoCard : Claim7 := { stood := { row := topReplaysUptoRow, standIns := [], harness := (true, "73664606c9a7485d9b301ebcd33cd1d096b91cd9e841f2f5aa2b310511150d28"), looks := false }, kinds := [], alts := [], laidByText := true, laidKinds := [.data, .data, .pinned], laidTests := true, laidLooks := .later }
def TopReplaysUptoCardSaid : Prop := Claim7.holds Tryd.pinned (.plain (OpenSpec.upto topReplaysSpec)) topReplaysUptoCard

/-- THE SECOND FORM's CARD OF 'epitometop.TopTwo'. -/
def topTwoUptoCard : Claim7 := { stood := { row := topTwoUptoRow, standIns := [], harness := (true, "73664606c9a7485d9b301ebcd33cd1d096b91cd9e841f2f5aa2b310511150d28"), looks := false }, kinds := [], alts := [], laidByText := true, laidKinds := [.data, .data, .pinned], laidTests := true, laidLooks := .later }
def TopTwoUptoCardSaid : Prop := Claim7.holds Tryd.pinned (.plain (OpenSpec.upto topTwoSpec)) topTwoUptoCard

/-- THE SECOND FORM's CARD OF 'epitometop.TopLogs'. -/
def topLogsUptoCard : Claim7 := { stood := { row := topLogsUptoRow, standIns := [], harness := (true, "73664606c9a7485d9b301ebcd33cd1d096b91cd9e841f2f5aa2b310511150d28"), looks := false }, kinds := [], alts := [], laidByText := true, laidKinds := [.data, .data, .pinned], laidTests := true, laidLooks := .later }
def TopLogsUptoCardSaid : Prop := Claim7.holds Tryd.pinned (.plain (OpenSpec.upto topLogsSpec)) topLogsUptoCard
end Rows
end Go.Proofs.YtegjegihcebimaaDoor
