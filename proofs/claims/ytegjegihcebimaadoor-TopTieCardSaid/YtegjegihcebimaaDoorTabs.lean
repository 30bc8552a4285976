/- The contract of utf8.ValidString at this dump: every string; the two tables that it reads are as their initialisers lay them. -/
import Derived.Test.YtegjegihcebimaaDoorProg
import Derived.Shelf.Unicode.ValidAny
import Derived.Lib.LaidU8T
import Derived.Lib.ValidU
namespace Go.Proofs
open Go.Shelf
def Tryd.laysValid_ren : Go.Shelf.Ren := ⟨fun | 196 => 78 | 259 => 91 | n => n, fun | 9 => 9 | 4 => 4 | 3 => 3 | 5 => 5 | 12 => 12 | 119 => 148 | 0 => 0 | 46 => 152 | 139 => 151 | 138 => 150 | 53 => 166 | n => n, fun | 3 => 0 | 4 => 1 | n => n⟩
theorem Tryd.laysValid : Go.Proofs.Lays.n196 Tryd.prog Tryd.laysValid_ren := {
  mixed := by kernel_rfl
  f196 := Tryd.func78.trans (congrArg some (by kernel_rfl))
  f259 := Tryd.func91.trans (congrArg some (by kernel_rfl))
  t0 := Tryd.underlying0
  a0 := Tryd.isAgg0
  z0 := Tryd.sizeOf0
  v0 := Tryd.zeroValue0
  t3 := Tryd.underlying3
  a3 := Tryd.isAgg3
  z3 := Tryd.sizeOf3
  v3 := Tryd.zeroValue3
  t4 := Tryd.underlying4
  a4 := Tryd.isAgg4
  z4 := Tryd.sizeOf4
  v4 := Tryd.zeroValue4
  t5 := Tryd.underlying5
  a5 := Tryd.isAgg5
  z5 := Tryd.sizeOf5
  v5 := Tryd.zeroValue5
  t9 := Tryd.underlying9
  a9 := Tryd.isAgg9
  z9 := Tryd.sizeOf9
  v9 := Tryd.zeroValue9
  t12 := Tryd.underlying12
  a12 := Tryd.isAgg12
  z12 := Tryd.sizeOf12
  v12 := Tryd.zeroValue12
  t46 := Tryd.underlying152
  a46 := Tryd.isAgg152
  z46 := Tryd.sizeOf152
  v46 := Tryd.zeroValue152
  t53 := Tryd.underlying166
  a53 := Tryd.isAgg166
  z53 := Tryd.sizeOf166
  v53 := Tryd.zeroValue166
  t119 := Tryd.underlying148
  a119 := Tryd.isAgg148
  z119 := Tryd.sizeOf148
  t138 := Tryd.underlying150
  a138 := Tryd.isAgg150
  z138 := Tryd.sizeOf150
  v138 := Tryd.zeroValue150
  t139 := Tryd.underlying151
  a139 := Tryd.isAgg151
  z139 := Tryd.sizeOf151
  v139 := Tryd.zeroValue151
  g3 := by kernel_rfl
  g4 := by kernel_rfl }
end Go.Proofs
namespace Go.Proofs.YtegjegihcebimaaDoor
open Go.Shelf Go.RowKit
/-- What span.kinds holds, cell by cell. -/
def kindsTab : List Bool := [false, false, true, true, false, false, true, false]
def KindsAt (w : World) : Prop := ∀ i, i < 8 → w.cell? { block := 2, off := i } = some (.bool (kindsTab.getD i false))
theorem KindsAt.below {w w1 : World} (h : KindsAt w) (hb : Below w.heap.size w w1) : KindsAt w1 := fun i hi => by
  have hc := h i hi
  refine (hb.cell ?_).trans hc
  rcases Nat.lt_or_ge 2 w.heap.size with h' | h'
  · exact h'
  · simp [World.cell?, Array.getElem?_eq_none h'] at hc
/-- The two tables of package utf8, and span's kinds, hold what their initialisers lay. -/
def Tabs (w : World) : Prop := Lib.Utf8Tabs (Tryd.laysValid_ren.g 3) (Tryd.laysValid_ren.g 4) w ∧ KindsAt w
theorem Tabs.below {w w1 : World} (h : Tabs w) (hb : Below w.heap.size w w1) : Tabs w1 := ⟨Utf8Tabs_below h.1 hb, h.2.below hb⟩
theorem valid_calls (s : ByteArray) (w : World) (hs : s.size ≤ 9223372036854775807) (hT : Tabs w) :
    Calls Tryd.prog 78 #[.string s] w fun e w' => e = .returned (.bool (Lib.validD s.data.toList)) ∧ Below w.heap.size w w' := Any.utf8_ValidString Tryd.laysValid s w hs hT.1
end Go.Proofs.YtegjegihcebimaaDoor
