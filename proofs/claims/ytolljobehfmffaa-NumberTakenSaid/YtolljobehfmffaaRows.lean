/-
  No cell of these rows narrows 'for every input' (looked for: loops, veiled, ifaces, maps, wideKeys, modest, calm, conditions, laid).
  DERIVED. THE GIVEN ROWS OF THIS SEAT. 6 by the template 'for every input the law returns true; each argument reads behind the call as it read before'; 0 by the template 'total and deterministic' (their statements: YtolljobehfmffaaTotals.lean).
  GIVEN WITH THE SEED: the statements are not yours to turn. If you find one false, say at which input.
  Laid BY PROGRAM, IN A SANDBOX (cutbox-rows.mjs): the forced cells as the released guide's own fill.sh prints them over the translation bcec8da0c4f9cdaa… (all of the seat's roots in one cut). By AI agents, Wed Nov 11 2026. No macro, syntax, notation, axiom, sorry.
-/
import Derived.Test.YtolljobehfmffaaChecked
import GoSem.Claim
import GoSem.ClaimJoined
import GoSem.ClaimMapViews
import Derived.JoinedTies
import Derived.KernelRfl
namespace Go.Proofs.Ytolljobehfmffaa
/- THE CELL 'sum', in the pinned program and in every row, IS THE sha256 OF THE DUMP (.gsa) THAT YtolljobehfmffaaProg.lean LOADS. Nothing in Lean hashes anything: it is a label: what it is worth is what the hold of that sum in a sandbox is worth. -/
noncomputable def Try.pinned : Pinned := { name := "ytolljobehfmffaa", sum := "bcec8da0c4f9cdaab653e070c4daafd9388ee1657466ffc35a16b9c88b0507d0", checked := Try.checked }
namespace Rows
def none {H : Type} : Left H := { results := [], args := [] }

/-- 'epitomelaw02.NumberAll': WHATEVER THE INPUT: true; the input reads as it did. -/
def numberAllSpec : ChangeSpec := { name := "numberAll", fn := fun _ => fun
  | [d1, d2] => { results := [.lit (.bool true)], args := [d1, d2] }
  | _ => none }
def numberAllRow : OpenClaim := { program := "ytolljobehfmffaa", sum := "bcec8da0c4f9cdaab653e070c4daafd9388ee1657466ffc35a16b9c88b0507d0", func := "epitome/epitomelaw02.NumberAll", spec := "numberAll", apart := false }
def NumberAllSaid : Prop := numberAllRow.holds Try.pinned (OpenSpec.ofChange numberAllSpec)

/-- ITS FALSE NEIGHBOUR: 'it returns false'. Refute it at one input. -/
def numberAllWrong : ChangeSpec := { name := "numberAll", fn := fun _ => fun
  | [d1, d2] => { results := [.lit (.bool false)], args := [d1, d2] }
  | _ => none }
def NumberAllWrongFalsely : Prop := numberAllRow.holds Try.pinned (OpenSpec.ofChange numberAllWrong)

/-- 'epitomelaw02.NumberBack': WHATEVER THE INPUT: true; the input reads as it did. -/
def numberBackSpec : ChangeSpec := { name := "numberBack", fn := fun _ => fun
  | [d1, d2] => { results := [.lit (.bool true)], args := [d1, d2] }
  | _ => none }
def numberBackRow : OpenClaim := { program := "ytolljobehfmffaa", sum := "bcec8da0c4f9cdaab653e070c4daafd9388ee1657466ffc35a16b9c88b0507d0", func := "epitome/epitomelaw02.NumberBack", spec := "numberBack", apart := false }
def NumberBackSaid : Prop := numberBackRow.holds Try.pinned (OpenSpec.ofChange numberBackSpec)

/-- ITS FALSE NEIGHBOUR: 'it returns false'. Refute it at one input. -/
def numberBackWrong : ChangeSpec := { name := "numberBack", fn := fun _ => fun
  | [d1, d2] => { results := [.lit (.bool false)], args := [d1, d2] }
  | _ => none }
def NumberBackWrongFalsely : Prop := numberBackRow.holds Try.pinned (OpenSpec.ofChange numberBackWrong)

/-- 'epitomelaw02.NumberTaken': WHATEVER THE INPUT: true; the input reads as it did. -/
def numberTakenSpec : ChangeSpec := { name := "numberTaken", fn := fun _ => fun
  | [d] => { results := [.lit (.bool true)], args := [d] }
  | _ => none }
def numberTakenRow : OpenClaim := { program := "ytolljobehfmffaa", sum := "bcec8da0c4f9cdaab653e070c4daafd9388ee1657466ffc35a16b9c88b0507d0", func := "epitome/epitomelaw02.NumberTaken", spec := "numberTaken", apart := false }
def NumberTakenSaid : Prop := numberTakenRow.holds Try.pinned (OpenSpec.ofChange numberTakenSpec)

/-- ITS FALSE NEIGHBOUR: 'it returns false'. Refute it at one input. -/
def numberTakenWrong : ChangeSpec := { name := "numberTaken", fn := fun _ => fun
  | [d] => { results := [.lit (.bool false)], args := [d] }
  | _ => none }
def NumberTakenWrongFalsely : Prop := numberTakenRow.holds Try.pinned (OpenSpec.ofChange numberTakenWrong)

/-- 'epitomelaw02.NumberOrders': WHATEVER THE INPUT: true; the input reads as it did. -/
def numberOrdersSpec : ChangeSpec := { name := "numberOrders", fn := fun _ => fun
  | [d1, d2, d3] => { results := [.lit (.bool true)], args := [d1, d2, d3] }
  | _ => none }
def numberOrdersRow : OpenClaim := { program := "ytolljobehfmffaa", sum := "bcec8da0c4f9cdaab653e070c4daafd9388ee1657466ffc35a16b9c88b0507d0", func := "epitome/epitomelaw02.NumberOrders", spec := "numberOrders", apart := false }
def NumberOrdersSaid : Prop := numberOrdersRow.holds Try.pinned (OpenSpec.ofChange numberOrdersSpec)

/-- ITS FALSE NEIGHBOUR: 'it returns false'. Refute it at one input. -/
def numberOrdersWrong : ChangeSpec := { name := "numberOrders", fn := fun _ => fun
  | [d1, d2, d3] => { results := [.lit (.bool false)], args := [d1, d2, d3] }
  | _ => none }
def NumberOrdersWrongFalsely : Prop := numberOrdersRow.holds Try.pinned (OpenSpec.ofChange numberOrdersWrong)

/-- 'epitomelaw02.NumberRow': WHATEVER THE INPUT: true; the input reads as it did. -/
def numberRowSpec : ChangeSpec := { name := "numberRow", fn := fun _ => fun
  | [d] => { results := [.lit (.bool true)], args := [d] }
  | _ => none }
def numberRowRow : OpenClaim := { program := "ytolljobehfmffaa", sum := "bcec8da0c4f9cdaab653e070c4daafd9388ee1657466ffc35a16b9c88b0507d0", func := "epitome/epitomelaw02.NumberRow", spec := "numberRow", apart := false }
def NumberRowSaid : Prop := numberRowRow.holds Try.pinned (OpenSpec.ofChange numberRowSpec)

/-- ITS FALSE NEIGHBOUR: 'it returns false'. Refute it at one input. -/
def numberRowWrong : ChangeSpec := { name := "numberRow", fn := fun _ => fun
  | [d] => { results := [.lit (.bool false)], args := [d] }
  | _ => none }
def NumberRowWrongFalsely : Prop := numberRowRow.holds Try.pinned (OpenSpec.ofChange numberRowWrong)

/-- 'epitomelaw02.NumberBits': WHATEVER THE INPUT: true; the input reads as it did. -/
def numberBitsSpec : ChangeSpec := { name := "numberBits", fn := fun _ => fun
  | [d] => { results := [.lit (.bool true)], args := [d] }
  | _ => none }
def numberBitsRow : OpenClaim := { program := "ytolljobehfmffaa", sum := "bcec8da0c4f9cdaab653e070c4daafd9388ee1657466ffc35a16b9c88b0507d0", func := "epitome/epitomelaw02.NumberBits", spec := "numberBits", apart := false }
def NumberBitsSaid : Prop := numberBitsRow.holds Try.pinned (OpenSpec.ofChange numberBitsSpec)

/-- ITS FALSE NEIGHBOUR: 'it returns false'. Refute it at one input. -/
def numberBitsWrong : ChangeSpec := { name := "numberBits", fn := fun _ => fun
  | [d] => { results := [.lit (.bool false)], args := [d] }
  | _ => none }
def NumberBitsWrongFalsely : Prop := numberBitsRow.holds Try.pinned (OpenSpec.ofChange numberBitsWrong)

/- THE SECOND FORM. 'bulk': how many values and letters a reading holds, each counted each time it is reached (what is shared counts as often as it is met; a slice's spare places count too). A statement '..UptoSaid' is the law's where the arguments, and the package variables that the reading takes, are together of bulk at most 1048576: NARROWER than '..Said'. Prove '..Said' where nothing that the law and all that it calls make is longer than what came in: it says more and counts as full. Else prove '..UptoSaid'. A law counts once. -/
mutual
def uptoBulk {H : Type} : DataW H → Nat
  | .lit (.string bytes) => bytes.length + 1
  | .lit _ => 1
  | .nil => 1
  | .ptr d => uptoBulk d + 1
  | .slice elems spare => uptoBulkAll elems + uptoBulkAll spare + 1
  | .agg parts => uptoBulkAll parts + 1
  | .iface _ d => uptoBulk d + 1
  | .map entries => uptoBulkEntries entries + 1
  | .held _ => 1
def uptoBulkAll {H : Type} : List (DataW H) → Nat
  | [] => 0
  | d :: r => uptoBulk d + uptoBulkAll r
def uptoBulkEntries {H : Type} : List (Lit × DataW H) → Nat
  | [] => 0
  | x :: r => uptoBulkEntry x + uptoBulkEntries r
def uptoBulkEntry {H : Type} : Lit × DataW H → Nat
  | (.string bytes, d) => bytes.length + uptoBulk d + 1
  | (_, d) => uptoBulk d + 1
 end
def uptoSmall : (H : Type) → List (DataW H) → Bool := fun _ ds => decide (uptoBulkAll ds ≤ 1048576)
def OpenSpec.upto (s : _root_.Go.ChangeSpec) : _root_.Go.OpenSpec := { _root_.Go.OpenSpec.ofChange s with cond := some uptoSmall }

/-- 'epitomelaw02.NumberAll', WHERE WHAT IT READS IS OF BULK AT MOST 1048576: true; the input reads as it did. -/
def numberAllUptoRow : OpenClaim := { program := "ytolljobehfmffaa", sum := "bcec8da0c4f9cdaab653e070c4daafd9388ee1657466ffc35a16b9c88b0507d0", func := "epitome/epitomelaw02.NumberAll", spec := "numberAll", apart := false, narrowed := true }
def NumberAllUptoSaid : Prop := numberAllUptoRow.holds Try.pinned (OpenSpec.upto numberAllSpec)

/-- 'epitomelaw02.NumberBack', WHERE WHAT IT READS IS OF BULK AT MOST 1048576: true; the input reads as it did. -/
def numberBackUptoRow : OpenClaim := { program := "ytolljobehfmffaa", sum := "bcec8da0c4f9cdaab653e070c4daafd9388ee1657466ffc35a16b9c88b0507d0", func := "epitome/epitomelaw02.NumberBack", spec := "numberBack", apart := false, narrowed := true }
def NumberBackUptoSaid : Prop := numberBackUptoRow.holds Try.pinned (OpenSpec.upto numberBackSpec)

/-- 'epitomelaw02.NumberTaken', WHERE WHAT IT READS IS OF BULK AT MOST 1048576: true; the input reads as it did. -/
def numberTakenUptoRow : OpenClaim := { program := "ytolljobehfmffaa", sum := "bcec8da0c4f9cdaab653e070c4daafd9388ee1657466ffc35a16b9c88b0507d0", func := "epitome/epitomelaw02.NumberTaken", spec := "numberTaken", apart := false, narrowed := true }
def NumberTakenUptoSaid : Prop := numberTakenUptoRow.holds Try.pinned (OpenSpec.upto numberTakenSpec)

/-- 'epitomelaw02.NumberOrders', WHERE WHAT IT READS IS OF BULK AT MOST 1048576: true; the input reads as it did. -/
def numberOrdersUptoRow : OpenClaim := { program := "ytolljobehfmffaa", sum := "bcec8da0c4f9cdaab653e070c4daafd9388ee1657466ffc35a16b9c88b0507d0", func := "epitome/epitomelaw02.NumberOrders", spec := "numberOrders", apart := false, narrowed := true }
def NumberOrdersUptoSaid : Prop := numberOrdersUptoRow.holds Try.pinned (OpenSpec.upto numberOrdersSpec)

/-- 'epitomelaw02.NumberRow', WHERE WHAT IT READS IS OF BULK AT MOST 1048576: true; the input reads as it did. -/
def numberRowUptoRow : OpenClaim := { program := "ytolljobehfmffaa", sum := "bcec8da0c4f9cdaab653e070c4daafd9388ee1657466ffc35a16b9c88b0507d0", func := "epitome/epitomelaw02.NumberRow", spec := "numberRow", apart := false, narrowed := true }
def NumberRowUptoSaid : Prop := numberRowUptoRow.holds Try.pinned (OpenSpec.upto numberRowSpec)

/-- 'epitomelaw02.NumberBits', WHERE WHAT IT READS IS OF BULK AT MOST 1048576: true; the input reads as it did. -/
def numberBitsUptoRow : OpenClaim := { program := "ytolljobehfmffaa", sum := "bcec8da0c4f9cdaab653e070c4daafd9388ee1657466ffc35a16b9c88b0507d0", func := "epitome/epitomelaw02.NumberBits", spec := "numberBits", apart := false, narrowed := true }
def NumberBitsUptoSaid : Prop := numberBitsUptoRow.holds Try.pinned (OpenSpec.upto numberBitsSpec)

end Rows
end Go.Proofs.Ytolljobehfmffaa
