-- WRITTEN BY A PROGRAM OF THIS SESSION (wip/pp in its repo), made after the kit's print
import Derived.Test.YtegjegihcebimaaDoorPx0
namespace Go.Proofs.YtegjegihcebimaaDoor.P
open Go.RowKit Go.Proofs.YtegjegihcebimaaDoorW.PrintWords Go.Proofs.YtegjegihcebimaaDoorW.PrintLast Go.Proofs.YtegjegihcebimaaDoorW.PrintMore
attribute [local go_sem] max2_int min2_int max_two min_two max_three min_three max_four min_four   -- for this text's walks alone
set_option linter.unusedVariables false
set_option linter.unusedSimpArgs false

/-! ### points_Valid: function 41 -/
def points_Valid.f (a0 : ByteArray) : Option Bool := if a0.size < 9223372036854775807 then some (validT a0) else none
set_option maxHeartbeats 8000000 in
set_option maxRecDepth 100000 in
theorem points_Valid.calls (a0 : ByteArray) (r : Bool) (w : World) (hT : Tabs w) (h : points_Valid.f a0 = some r) :
    Calls Tryd.prog 41 #[.string a0] w fun e w' => e = .returned (.bool r) ∧ Below w.heap.size w w' := by
  unfold points_Valid.f at h
  by_cases c : a0.size < 9223372036854775807
  · rw [if_pos c] at h
    obtain rfl := Option.some.inj h
    clear h
    have hc := valid_calls a0 w (by omega) hT
    have HC := Aside0.mk hc
    clear hc c
    have e : Lib.validD a0.data.toList = validT a0 := rfl
    rw [e] at HC
    generalize validT a0 = v at HC
    clear e
    go_enter Tryd.func41, Tryd.ntmps41
    go_wp2_with (go_at_call 78; (with_reducible refine (HC.out).mono ?_); rintro e w1 ⟨rfl, hb⟩)
    go_ret
    exact ⟨rfl, hb⟩
  · rw [if_neg c] at h; cases h

end Go.Proofs.YtegjegihcebimaaDoor.P
