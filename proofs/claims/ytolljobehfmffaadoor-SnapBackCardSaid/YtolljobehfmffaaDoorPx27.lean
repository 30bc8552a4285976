-- WRITTEN BY A PROGRAM OF THIS SESSION (wip/pp in its repo), made after the kit's print
import Derived.Test.YtolljobehfmffaaDoorPx0
import Derived.Test.YtolljobehfmffaaDoorPx7
import Derived.Test.YtolljobehfmffaaDoorPx13
import Derived.Test.YtolljobehfmffaaDoorPx15
import Derived.Test.YtolljobehfmffaaDoorPx16
import Derived.Test.YtolljobehfmffaaDoorPx17
import Derived.Test.YtolljobehfmffaaDoorPx20
namespace Go.Proofs.YtolljobehfmffaaDoor.P
open Go.RowKit Go.Proofs.YtolljobehfmffaaDoorW.PrintWords Go.Proofs.YtolljobehfmffaaDoorW.PrintLast Go.Proofs.YtolljobehfmffaaDoorW.PrintMore
attribute [local go_sem] max2_int min2_int max_two min_two max_three min_three max_four min_four   -- for this text's walks alone
set_option linter.unusedVariables false
set_option linter.unusedSimpArgs false

/-! ### epitomelaw15_SnapBack: function 12 -/
mutual
def epitomelaw15_SnapBack.j1 : Nat → List Int → Bool → ByteArray → List Int → Option (Bool)
  | 0, _, _, _, _ => none
  | k + 1, x2, x7, x8, x9 => (snap_Put.f x8).bind fun bt420 => ((some (([] : List Int) : List Int)).bind fun y424 => (if y424.length + bt420.1.length < 140737488355328 then ((some (y424 ++ bt420.1 : List Int)).bind fun y427 => ((epitomelaw15_few.f x2).bind fun t430 => (if y427.length + t430.length < 140737488355328 then ((snap_Take.f k (y427 ++ t430)).bind fun bt436 => ((snap_PutRow.f x9).bind fun bt439 => ((some (([] : List Int) : List Int)).bind fun y443 => (if y443.length + bt439.1.length < 140737488355328 then ((some (y443 ++ bt439.1 : List Int)).bind fun y446 => ((epitomelaw15_few.f x2).bind fun t449 => (if y446.length + t449.length < 140737488355328 then ((snap_TakeRow.f k (y446 ++ t449)).bind fun bt455 => (if x7 = true then (if bt420.2 = 0 then (if bt436.2.2 = 0 then (if bt436.1.toList = x8.toList then (if bt436.2.1 = (bt420.1.length : Int) then (epitomelaw15_SnapBack.j2 k x9 bt420.1 bt439.1 bt439.2 bt455.1 bt455.2.1 bt455.2.2 ((bt439.2 == 0) != (decide ((x9.length : Int) > 0)))) else (epitomelaw15_SnapBack.j2 k x9 bt420.1 bt439.1 bt439.2 bt455.1 bt455.2.1 bt455.2.2 true)) else (epitomelaw15_SnapBack.j2 k x9 bt420.1 bt439.1 bt439.2 bt455.1 bt455.2.1 bt455.2.2 true)) else (epitomelaw15_SnapBack.j2 k x9 bt420.1 bt439.1 bt439.2 bt455.1 bt455.2.1 bt455.2.2 true)) else (epitomelaw15_SnapBack.j2 k x9 bt420.1 bt439.1 bt439.2 bt455.1 bt455.2.1 bt455.2.2 true)) else (epitomelaw15_SnapBack.j2 k x9 bt420.1 bt439.1 bt439.2 bt455.1 bt455.2.1 bt455.2.2 true))) else (none)))) else (none))))) else (none)))) else (none)))
def epitomelaw15_SnapBack.j2 : Nat → List Int → List Int → List Int → Int → List Int → Int → Int → Bool → Option (Bool)
  | 0, _, _, _, _, _, _, _, _ => none
  | k + 1, x9, x12, x17, x18, x19, x20, x21, x120 => if x120 = true then (some false) else (epitomelaw15_SnapBack.l1 k x9 x12 x17 x18 x19 x20 x21 0)
def epitomelaw15_SnapBack.l1 : Nat → List Int → List Int → List Int → Int → List Int → Int → Int → Int → Option (Bool)
  | 0, _, _, _, _, _, _, _, _ => none
  | k + 1, x9, x12, x17, x18, x19, x20, x21, x22 => if x22 < (x12.length : Int) then (if 0 ≤ x22 then (if x22 ≤ (x12.length : Int) then ((snap_Take.f k (x12.take (x22 : Int).toNat)).bind fun bt464 => (if bt464.2.2 = 7 then (epitomelaw15_SnapBack.l1 k x9 x12 x17 x18 x19 x20 x21 (wrap64 (x22 + 1))) else (some false))) else (none)) else (none)) else (epitomelaw15_SnapBack.l2 k x9 x17 x18 x19 x20 x21 0)
def epitomelaw15_SnapBack.l2 : Nat → List Int → List Int → Int → List Int → Int → Int → Int → Option (Bool)
  | 0, _, _, _, _, _, _, _ => none
  | k + 1, x9, x17, x18, x19, x20, x21, x26 => if x26 < (x17.length : Int) then (if 0 ≤ x26 then (if x26 ≤ (x17.length : Int) then ((snap_TakeRow.f k (x17.take (x26 : Int).toNat)).bind fun bt471 => (if bt471.2.2 = 7 then (epitomelaw15_SnapBack.l2 k x9 x17 x18 x19 x20 x21 (wrap64 (x26 + 1))) else (some false))) else (none)) else (none)) else (if (x9.length : Int) = 0 then (if x18 = 2 then (some true) else (if x21 = 0 then ((epitomeref15_SameRow.f k x19 x9).bind fun t476 => (if t476 = true then (some (x20 == (x17.length : Int))) else (some false))) else (some false))) else (if x21 = 0 then ((epitomeref15_SameRow.f k x19 x9).bind fun t477 => (if t477 = true then (some (x20 == (x17.length : Int))) else (some false))) else (some false)))
def epitomelaw15_SnapBack.l0 : Nat → List Int → List Int → Bool → ByteArray → List Int → Int → Int → Option (Bool)
  | 0, _, _, _, _, _, _, _ => none
  | k + 1, x1, x2, x7, x8, x9, x10, x11 => if x11 < (x1.length : Int) then (if x11 < 20 then (if 0 ≤ x11 then (if x9.length < 17592186044416 then (epitomelaw15_SnapBack.l0 k x1 x2 x7 x8 (x9 ++ [wrap64 ((wrap64 (x10 + 1)) + (wrap64 (rd x1 x11)))]) (wrap64 ((wrap64 (x10 + 1)) + (wrap64 (rd x1 x11)))) (wrap64 (x11 + 1))) else (none)) else (none)) else (epitomelaw15_SnapBack.j1 k x2 x7 x8 x9)) else (epitomelaw15_SnapBack.j1 k x2 x7 x8 x9)
end
def epitomelaw15_SnapBack.f (k : Nat) (a0 : ByteArray) (l1 : List Int) (l2 : List Int) : Option (Bool) := (epitomelaw15_shown.f k).bind fun t411 => (if 0 ≤ (mn (a0.size : Int) 100) then (if (mn (a0.size : Int) 100) ≤ (a0.size : Int) then ((epitomeref01_Fit.f k (a0.extract 0 ((mn (a0.size : Int) 100) : Int).toNat)).bind fun t412 => (epitomelaw15_SnapBack.l0 k l1 l2 t411 t412 (([] : List Int)) (-1) 0)) else (none)) else (none))
theorem epitomelaw15_SnapBack.mono_l : ∀ k, (∀ y0 y1 y2 y3, LeO (epitomelaw15_SnapBack.j1 k y0 y1 y2 y3) (epitomelaw15_SnapBack.j1 (k + 1) y0 y1 y2 y3)) ∧ (∀ y0 y1 y2 y3 y4 y5 y6 y7, LeO (epitomelaw15_SnapBack.j2 k y0 y1 y2 y3 y4 y5 y6 y7) (epitomelaw15_SnapBack.j2 (k + 1) y0 y1 y2 y3 y4 y5 y6 y7)) ∧ (∀ y0 y1 y2 y3 y4 y5 y6 y7, LeO (epitomelaw15_SnapBack.l1 k y0 y1 y2 y3 y4 y5 y6 y7) (epitomelaw15_SnapBack.l1 (k + 1) y0 y1 y2 y3 y4 y5 y6 y7)) ∧ (∀ y0 y1 y2 y3 y4 y5 y6, LeO (epitomelaw15_SnapBack.l2 k y0 y1 y2 y3 y4 y5 y6) (epitomelaw15_SnapBack.l2 (k + 1) y0 y1 y2 y3 y4 y5 y6)) ∧ (∀ y0 y1 y2 y3 y4 y5 y6, LeO (epitomelaw15_SnapBack.l0 k y0 y1 y2 y3 y4 y5 y6) (epitomelaw15_SnapBack.l0 (k + 1) y0 y1 y2 y3 y4 y5 y6))
  | 0 => ⟨fun _ _ _ _ r h => by simp [epitomelaw15_SnapBack.j1] at h, fun _ _ _ _ _ _ _ _ r h => by simp [epitomelaw15_SnapBack.j2] at h, fun _ _ _ _ _ _ _ _ r h => by simp [epitomelaw15_SnapBack.l1] at h, fun _ _ _ _ _ _ _ r h => by simp [epitomelaw15_SnapBack.l2] at h, fun _ _ _ _ _ _ _ r h => by simp [epitomelaw15_SnapBack.l0] at h⟩
  | k + 1 => by
    obtain ⟨ih0, ih1, ih2, ih3, ih4⟩ := epitomelaw15_SnapBack.mono_l k
    refine ⟨?_, ?_, ?_, ?_, ?_⟩
    · intro y0 y1 y2 y3
      unfold epitomelaw15_SnapBack.j1
      repeat' first
      | (with_reducible exact ih0 _ _ _ _)
      | (with_reducible exact ih1 _ _ _ _ _ _ _ _)
      | (with_reducible exact ih2 _ _ _ _ _ _ _ _)
      | (with_reducible exact ih3 _ _ _ _ _ _ _)
      | (with_reducible exact ih4 _ _ _ _ _ _ _)
      | (with_reducible exact epitomelaw15_shown.mono _)
      | (with_reducible exact epitomeref01_Fit.mono _ _)
      | (with_reducible exact epitomeref15_SameRow.mono _ _ _)
      | (with_reducible exact snap_Take.mono _ _)
      | (with_reducible exact snap_TakeRow.mono _ _)
      | (with_reducible exact LeO.refl _)
      | (with_reducible exact LeO.none _)
      | (with_reducible refine LeO.ite ?_ ?_)
      | (with_reducible refine LeO.bind ?_ (fun _ => ?_))
      | exact ih0 _ _ _ _
      | exact ih1 _ _ _ _ _ _ _ _
      | exact ih2 _ _ _ _ _ _ _ _
      | exact ih3 _ _ _ _ _ _ _
      | exact ih4 _ _ _ _ _ _ _
      | exact epitomelaw15_shown.mono _
      | exact epitomeref01_Fit.mono _ _
      | exact epitomeref15_SameRow.mono _ _ _
      | exact snap_Take.mono _ _
      | exact snap_TakeRow.mono _ _
      | exact LeO.none _
      | refine LeO.ite ?_ ?_
      | refine LeO.bind ?_ (fun _ => ?_)
    · intro y0 y1 y2 y3 y4 y5 y6 y7
      unfold epitomelaw15_SnapBack.j2
      repeat' first
      | (with_reducible exact ih0 _ _ _ _)
      | (with_reducible exact ih1 _ _ _ _ _ _ _ _)
      | (with_reducible exact ih2 _ _ _ _ _ _ _ _)
      | (with_reducible exact ih3 _ _ _ _ _ _ _)
      | (with_reducible exact ih4 _ _ _ _ _ _ _)
      | (with_reducible exact epitomelaw15_shown.mono _)
      | (with_reducible exact epitomeref01_Fit.mono _ _)
      | (with_reducible exact epitomeref15_SameRow.mono _ _ _)
      | (with_reducible exact snap_Take.mono _ _)
      | (with_reducible exact snap_TakeRow.mono _ _)
      | (with_reducible exact LeO.refl _)
      | (with_reducible exact LeO.none _)
      | (with_reducible refine LeO.ite ?_ ?_)
      | (with_reducible refine LeO.bind ?_ (fun _ => ?_))
      | exact ih0 _ _ _ _
      | exact ih1 _ _ _ _ _ _ _ _
      | exact ih2 _ _ _ _ _ _ _ _
      | exact ih3 _ _ _ _ _ _ _
      | exact ih4 _ _ _ _ _ _ _
      | exact epitomelaw15_shown.mono _
      | exact epitomeref01_Fit.mono _ _
      | exact epitomeref15_SameRow.mono _ _ _
      | exact snap_Take.mono _ _
      | exact snap_TakeRow.mono _ _
      | exact LeO.none _
      | refine LeO.ite ?_ ?_
      | refine LeO.bind ?_ (fun _ => ?_)
    · intro y0 y1 y2 y3 y4 y5 y6 y7
      unfold epitomelaw15_SnapBack.l1
      repeat' first
      | (with_reducible exact ih0 _ _ _ _)
      | (with_reducible exact ih1 _ _ _ _ _ _ _ _)
      | (with_reducible exact ih2 _ _ _ _ _ _ _ _)
      | (with_reducible exact ih3 _ _ _ _ _ _ _)
      | (with_reducible exact ih4 _ _ _ _ _ _ _)
      | (with_reducible exact epitomelaw15_shown.mono _)
      | (with_reducible exact epitomeref01_Fit.mono _ _)
      | (with_reducible exact epitomeref15_SameRow.mono _ _ _)
      | (with_reducible exact snap_Take.mono _ _)
      | (with_reducible exact snap_TakeRow.mono _ _)
      | (with_reducible exact LeO.refl _)
      | (with_reducible exact LeO.none _)
      | (with_reducible refine LeO.ite ?_ ?_)
      | (with_reducible refine LeO.bind ?_ (fun _ => ?_))
      | exact ih0 _ _ _ _
      | exact ih1 _ _ _ _ _ _ _ _
      | exact ih2 _ _ _ _ _ _ _ _
      | exact ih3 _ _ _ _ _ _ _
      | exact ih4 _ _ _ _ _ _ _
      | exact epitomelaw15_shown.mono _
      | exact epitomeref01_Fit.mono _ _
      | exact epitomeref15_SameRow.mono _ _ _
      | exact snap_Take.mono _ _
      | exact snap_TakeRow.mono _ _
      | exact LeO.none _
      | refine LeO.ite ?_ ?_
      | refine LeO.bind ?_ (fun _ => ?_)
    · intro y0 y1 y2 y3 y4 y5 y6
      unfold epitomelaw15_SnapBack.l2
      repeat' first
      | (with_reducible exact ih0 _ _ _ _)
      | (with_reducible exact ih1 _ _ _ _ _ _ _ _)
      | (with_reducible exact ih2 _ _ _ _ _ _ _ _)
      | (with_reducible exact ih3 _ _ _ _ _ _ _)
      | (with_reducible exact ih4 _ _ _ _ _ _ _)
      | (with_reducible exact epitomelaw15_shown.mono _)
      | (with_reducible exact epitomeref01_Fit.mono _ _)
      | (with_reducible exact epitomeref15_SameRow.mono _ _ _)
      | (with_reducible exact snap_Take.mono _ _)
      | (with_reducible exact snap_TakeRow.mono _ _)
      | (with_reducible exact LeO.refl _)
      | (with_reducible exact LeO.none _)
      | (with_reducible refine LeO.ite ?_ ?_)
      | (with_reducible refine LeO.bind ?_ (fun _ => ?_))
      | exact ih0 _ _ _ _
      | exact ih1 _ _ _ _ _ _ _ _
      | exact ih2 _ _ _ _ _ _ _ _
      | exact ih3 _ _ _ _ _ _ _
      | exact ih4 _ _ _ _ _ _ _
      | exact epitomelaw15_shown.mono _
      | exact epitomeref01_Fit.mono _ _
      | exact epitomeref15_SameRow.mono _ _ _
      | exact snap_Take.mono _ _
      | exact snap_TakeRow.mono _ _
      | exact LeO.none _
      | refine LeO.ite ?_ ?_
      | refine LeO.bind ?_ (fun _ => ?_)
    · intro y0 y1 y2 y3 y4 y5 y6
      unfold epitomelaw15_SnapBack.l0
      repeat' first
      | (with_reducible exact ih0 _ _ _ _)
      | (with_reducible exact ih1 _ _ _ _ _ _ _ _)
      | (with_reducible exact ih2 _ _ _ _ _ _ _ _)
      | (with_reducible exact ih3 _ _ _ _ _ _ _)
      | (with_reducible exact ih4 _ _ _ _ _ _ _)
      | (with_reducible exact epitomelaw15_shown.mono _)
      | (with_reducible exact epitomeref01_Fit.mono _ _)
      | (with_reducible exact epitomeref15_SameRow.mono _ _ _)
      | (with_reducible exact snap_Take.mono _ _)
      | (with_reducible exact snap_TakeRow.mono _ _)
      | (with_reducible exact LeO.refl _)
      | (with_reducible exact LeO.none _)
      | (with_reducible refine LeO.ite ?_ ?_)
      | (with_reducible refine LeO.bind ?_ (fun _ => ?_))
      | exact ih0 _ _ _ _
      | exact ih1 _ _ _ _ _ _ _ _
      | exact ih2 _ _ _ _ _ _ _ _
      | exact ih3 _ _ _ _ _ _ _
      | exact ih4 _ _ _ _ _ _ _
      | exact epitomelaw15_shown.mono _
      | exact epitomeref01_Fit.mono _ _
      | exact epitomeref15_SameRow.mono _ _ _
      | exact snap_Take.mono _ _
      | exact snap_TakeRow.mono _ _
      | exact LeO.none _
      | refine LeO.ite ?_ ?_
      | refine LeO.bind ?_ (fun _ => ?_)
theorem epitomelaw15_SnapBack.mono : ∀ a0 a1 a2 k, LeO (epitomelaw15_SnapBack.f k a0 a1 a2) (epitomelaw15_SnapBack.f (k + 1) a0 a1 a2) := by
  intro a0 a1 a2 k
  obtain ⟨ih0, ih1, ih2, ih3, ih4⟩ := epitomelaw15_SnapBack.mono_l k
  unfold epitomelaw15_SnapBack.f
  repeat' first
      | (with_reducible exact ih0 _ _ _ _)
      | (with_reducible exact ih1 _ _ _ _ _ _ _ _)
      | (with_reducible exact ih2 _ _ _ _ _ _ _ _)
      | (with_reducible exact ih3 _ _ _ _ _ _ _)
      | (with_reducible exact ih4 _ _ _ _ _ _ _)
      | (with_reducible exact epitomelaw15_shown.mono _)
      | (with_reducible exact epitomeref01_Fit.mono _ _)
      | (with_reducible exact epitomeref15_SameRow.mono _ _ _)
      | (with_reducible exact snap_Take.mono _ _)
      | (with_reducible exact snap_TakeRow.mono _ _)
      | (with_reducible exact LeO.refl _)
      | (with_reducible exact LeO.none _)
      | (with_reducible refine LeO.ite ?_ ?_)
      | (with_reducible refine LeO.bind ?_ (fun _ => ?_))
      | exact ih0 _ _ _ _
      | exact ih1 _ _ _ _ _ _ _ _
      | exact ih2 _ _ _ _ _ _ _ _
      | exact ih3 _ _ _ _ _ _ _
      | exact ih4 _ _ _ _ _ _ _
      | exact epitomelaw15_shown.mono _
      | exact epitomeref01_Fit.mono _ _
      | exact epitomeref15_SameRow.mono _ _ _
      | exact snap_Take.mono _ _
      | exact snap_TakeRow.mono _ _
      | exact LeO.none _
      | refine LeO.ite ?_ ?_
      | refine LeO.bind ?_ (fun _ => ?_)
set_option maxHeartbeats 8000000 in
set_option maxRecDepth 100000 in
theorem epitomelaw15_SnapBack.calls (k : Nat) (a0 : ByteArray) (A1 : Option Addr) (c1 : Nat) (l1 : List Int) (A2 : Option Addr) (c2 : Nat) (l2 : List Int) (r : Bool) (w : World) (hr1 : Kd.C (Kd.int .u16) w A1 l1.length l1) (hc1 : l1.length ≤ c1) (hr2 : Kd.C (Kd.int .u8) w A2 l2.length l2) (hc2 : l2.length ≤ c2) (hT : Tabs w) (h : epitomelaw15_SnapBack.f k a0 l1 l2 = some r) (hlaw : r = true) :
    Calls Tryd.prog 12 #[.string a0, .slice A1 l1.length c1, .slice A2 l2.length c2] w fun e w' => e = .returned (.bool r) ∧ Below w.heap.size w w' := by
  have HLAW := Aside0.mk hlaw
  clear hlaw
  have HT := Aside0.mk hT
  clear hT
  have HR1 := Aside0.mk hr1
  have HC1 := Aside0.mk hc1
  clear hr1 hc1
  have HR2 := Aside0.mk hr2
  have HC2 := Aside0.mk hc2
  clear hr2 hc2
  have HB := Aside0.mk (Below.refl w.heap.size w)
  have H : ((epitomelaw15_shown.f k).bind fun t411 => (if 0 ≤ (mn (a0.size : Int) 100) then (if (mn (a0.size : Int) 100) ≤ (a0.size : Int) then ((epitomeref01_Fit.f k (a0.extract 0 ((mn (a0.size : Int) 100) : Int).toNat)).bind fun t412 => (epitomelaw15_SnapBack.l0 k l1 l2 t411 t412 (([] : List Int)) (-1) 0)) else (none)) else (none))) = some r := h
  clear h
  replace H := Option.bind_eq_some_iff.mp H
  obtain ⟨t411, A40, H⟩ := H
  replace H : (if 0 ≤ (mn (a0.size : Int) 100) then (if (mn (a0.size : Int) 100) ≤ (a0.size : Int) then ((epitomeref01_Fit.f k (a0.extract 0 ((mn (a0.size : Int) 100) : Int).toNat)).bind fun t412 => (epitomelaw15_SnapBack.l0 k l1 l2 t411 t412 (([] : List Int)) (-1) 0)) else (none)) else (none)) = some r := H
  have A4 := Aside0.mk A40
  clear A40
  obtain ⟨ji5, hji5⟩ : ∃ j_ : Int, (mn (a0.size : Int) 100) = j_ := ⟨_, rfl⟩
  replace H : (if 0 ≤ (ji5) then (if (ji5) ≤ (a0.size : Int) then ((epitomeref01_Fit.f k (a0.extract 0 ((ji5) : Int).toNat)).bind fun t412 => (epitomelaw15_SnapBack.l0 k l1 l2 t411 t412 (([] : List Int)) (-1) 0)) else (none)) else (none)) = some r := by first | (rw [hji5] at H; exact H) | (simp only [hji5] at H ⊢; exact H)
  (try rw [hji5] at A4)
  (try (have hji5h : ji5 ≤ 100 := by (rw [← hji5]; unfold mn; (repeat' split) <;> omega)))
  (try (have hji5g : ji5 ≤ 64 := by omega))
  (try (have hji5l : 0 ≤ ji5 := by (rw [← hji5]; unfold mn; (repeat' split) <;> omega)))
  (try (have hji5m : 0 ≤ ji5 := by omega))
  have hji5_ : (if 100 < (a0.size : Int) then 100 else (a0.size : Int)) = ji5 := hji5
  by_cases c6 : 0 ≤ (ji5)
  · rw [if_pos c6] at H
    have c6b0 := eq_true c6
    have c6b1 : decide (0 ≤ (ji5)) = true := decide_eq_true c6
    clear c6
    by_cases c7 : (ji5) ≤ (a0.size : Int)
    · rw [if_pos c7] at H
      have c7b0 := eq_true c7
      have c7b1 : decide ((ji5) ≤ (a0.size : Int)) = true := decide_eq_true c7
      clear c7
      replace H := Option.bind_eq_some_iff.mp H
      obtain ⟨t412, A80, H⟩ := H
      replace H : (epitomelaw15_SnapBack.l0 k l1 l2 t411 t412 (([] : List Int)) (-1) 0) = some r := H
      have A8 := Aside0.mk A80
      clear A80
      obtain ⟨y413, hy413⟩ : ∃ y_ : List Int, y_ = (([] : List Int)) := ⟨_, rfl⟩
      replace H : (epitomelaw15_SnapBack.l0 k l1 l2 t411 t412 y413 (-1) 0) = some r := by first | (rw [hy413]; with_reducible exact H) | (have H2_ := (Option.bind_some _ _).symm.trans H; rw [hy413]; with_reducible exact H2_) | (have H2_ := (Option.bind_some _ _).symm.trans H; with_reducible exact H2_) | with_reducible exact H | (rw [hy413]; exact H) | exact H
      have Ny413 := Aside0.mk hy413
      clear hy413
      have HC9 := Aside0.mk H
      clear H
      go_enter Tryd.func12, Tryd.ntmps12
      go_upto_block 0 with (first | ((with_reducible refine gate_callee (f := 25) rfl ?_); refine goesL_ (some 30) rfl rfl Tryd.func25 (by kernel_rfl) rfl #[] rfl (by (try simp only [List.map_toArray, List.map_cons, List.map_nil]); first | done | rfl | (simp only [List.length_drop, List.length_take]; rfl)) ?_; (with_reducible refine (epitomelaw15_shown.calls k  t411 _ ?side1 A4.out).mono ?_); (case side1 => exact Tabs.below HT.out (by repeat (first | (with_reducible first | exact HB.out | apply below_alloc | apply pw_below_drewN | apply below_drew1) | exact HB.out))); rintro e w10 ⟨rfl, hb⟩; refine ⟨_, rfl, ?_⟩; have n0_ := Aside0.mk (below_step (by repeat (first | (with_reducible first | exact HB.out | apply below_alloc | apply pw_below_drewN | apply below_drew1) | exact HB.out)) hb); clear HB; have HB := n0_; clear n0_; (try clear hb); (try clear hb2); (try clear hk); (try clear hi)) | ((with_reducible refine gate_callee (f := 22) rfl ?_); refine goesL_ (some 36) rfl rfl Tryd.func22 (by kernel_rfl) rfl #[.string (a0.extract 0 ((ji5) : Int).toNat)] rfl (by (try simp only [List.map_toArray, List.map_cons, List.map_nil]); first | done | (simp only [hji5]; rfl) | rfl | (simp only [List.length_drop, List.length_take]; rfl)) ?_; (with_reducible refine (epitomeref01_Fit.calls k (a0.extract 0 ((ji5) : Int).toNat) t412 _ A8.out).mono ?_); rintro e w11 ⟨rfl, hb⟩; refine ⟨_, rfl, ?_⟩; have n0_ := Aside0.mk (below_step (by repeat (first | (with_reducible first | exact HB.out | apply below_alloc | apply pw_below_drewN | apply below_drew1) | exact HB.out)) hb); clear HB; have HB := n0_; clear n0_; (try clear hb); (try clear hb2); (try clear hk); (try clear hi)) | ((with_reducible refine gate_dst (N := 37) rfl ?_); (try (refine gate_guard (by rfl) ?_; dsimp only)); refine Kd.R_lit (Kd.int .i64) _ 3 ?hg (N := 37) ?hd (xs := ([] : List Int)) (inner := []) (ok := fun _ => True) (okp := fun _ => True) ?hr ?hp (fun _ hk => hk) trivial (Below.refl _ _) (Nat.le_refl _) (by simp) ?_; (case hd => rfl); (case hg => rfl); (case hr => first | (go_simp; done) | (go_simp; rfl)); (case hp => exact (Reps.none _ _)); intro v414 w12 ho13 hb hg_ hnew_; clear hg_ hnew_; (first | rw [← Ny413.out] at ho13 | (simp only [Int.reduceToNat] at ho13; rw [← Ny413.out] at ho13)); have n0_ := Aside0.mk (Kd.R_lower ho13 (below_size (by repeat (first | (with_reducible first | exact HB.out | apply below_alloc | apply pw_below_drewN | apply below_drew1) | exact HB.out)))); have n1_ := Aside0.mk (below_step (by repeat (first | (with_reducible first | exact HB.out | apply below_alloc | apply pw_below_drewN | apply below_drew1) | exact HB.out)) hb); clear HB; have HO415 := n0_; have HB := n1_; clear n0_ n1_; clear hb ho13))
      (try simp only [Act.put, List.setIfInBounds_toArray, List.set_cons_zero, List.set_cons_succ])
      go_cut [9] (fun v9 wc => ∃ (kq : Nat) (x9_8 : List Int), Aside0 (epitomelaw15_SnapBack.j1 kq l2 t411 t412 x9_8 = some r) ∧ Aside0 (kq ≤ k) ∧ Aside0 (Kd.R (Kd.int .i64) 3 wc w.heap.size (fun _ => True) v9 x9_8) ∧ Aside0 (Below w.heap.size w wc))
      case first =>
        have H := HC9.out
        clear HC9
        have H' := Aside0.mk H
        clear H
        go_wp2
        go_loopg [9, 10, 11] k (fun kq v9 v10 v11 w' => ∃ (x9_1 : List Int) (x10_1 : Int) (x11_1 : Int), v10 = .int .i64 x10_1 ∧ v11 = .int .i64 x11_1 ∧ Aside0 (epitomelaw15_SnapBack.l0 kq l1 l2 t411 t412 x9_1 x10_1 x11_1 = some r) ∧ Aside0 (kq ≤ k) ∧ Aside0 (Kd.R (Kd.int .i64) 3 w' w.heap.size (fun _ => True) v9 x9_1) ∧ Aside0 (Below w.heap.size w w'))
        case atStart => exact ⟨(y413), ((-1)), (0), (by first | rfl | (simp; done) | (simp [*]; done)), (by first | rfl | (simp; done) | (simp [*]; done)), H', ⟨Nat.le_refl _⟩, ⟨by (with_reducible repeat (first | apply Kd.R_alloc | apply Kd.R_drewN | apply Kd.R_drew)); exact HO415.out⟩, ⟨by repeat (first | (with_reducible first | exact HB.out | apply below_alloc | apply pw_below_drewN | apply below_drew1) | exact HB.out)⟩⟩
        case round =>
          clear H'
          try clear c1
          try clear c2
          try clear p2
          try clear c6
          try clear c6b0
          try clear c6b1
          try clear c7
          try clear c7b0
          try clear c7b1
          try clear c12
          obtain ⟨x9_1, x10_1, x11_1, rfl, rfl, HA, HK1, HO_9, HB⟩ := hrel
          cases gk with
          | zero => exact absurd HA.out (by simp [epitomelaw15_SnapBack.l0])
          | succ k1 =>
            have H := HA.out
            clear HA
            simp only [epitomelaw15_SnapBack.l0] at H
            by_cases c14 : x11_1 < (l1.length : Int)
            · rw [if_pos c14] at H
              have c14b0 : decide (x11_1 < (l1.length : Int)) = true := decide_eq_true c14
              clear c14
              (first | rw [c14b0] | (simp only [i64_w, i32_w]; rw [c14b0]) | skip)
              by_cases c15 : x11_1 < 20
              · rw [if_pos c15] at H
                have c15b0 : decide (x11_1 < 20) = true := decide_eq_true c15
                clear c15
                by_cases c16 : 0 ≤ x11_1
                · rw [if_pos c16] at H
                  have c16b0 : decide (0 ≤ x11_1) = true := decide_eq_true c16
                  clear c16
                  by_cases c17 : x9_1.length < 17592186044416
                  · rw [if_pos c17] at H
                    have LMc17 := Aside0.mk c17
                    clear c17
                    obtain ⟨y417, hy417⟩ : ∃ y_ : List Int, y_ = (x9_1 ++ [wrap64 ((wrap64 (x10_1 + 1)) + (wrap64 (rd l1 x11_1)))]) := ⟨_, rfl⟩
                    replace H : (epitomelaw15_SnapBack.l0 k1 l1 l2 t411 t412 y417 (wrap64 ((wrap64 (x10_1 + 1)) + (wrap64 (rd l1 x11_1)))) (wrap64 (x11_1 + 1))) = some r := by first | (rw [hy417]; with_reducible exact H) | (have H2_ := (Option.bind_some _ _).symm.trans H; rw [hy417]; with_reducible exact H2_) | (have H2_ := (Option.bind_some _ _).symm.trans H; with_reducible exact H2_) | with_reducible exact H | (rw [hy417]; exact H) | exact H
                    have Ny417 := Aside0.mk hy417
                    clear hy417
                    have H' := Aside0.mk H
                    clear H
                    have p416 : 0 ≤ (x11_1 : Int) := of_decide_eq_true (by first | (with_reducible assumption) | assumption)
                    have q416 : x11_1 < (l1.length : Int) := of_decide_eq_true (by first | (with_reducible assumption) | assumption)
                    obtain ⟨ad416, e416, hx416_0⟩ := Kd.at_int HR1.out x11_1 p416 q416
                    cases e416
                    replace hx416_0 := (HB.out.cell (World.block_lt_of_cell? w _ hx416_0)).trans hx416_0
                    replace p416 := eq_true p416
                    replace q416 := eq_true q416
                    go_wp2_with (first | ((with_reducible refine gate_builtin (b := .append) (xs := #[.tmp 56, .tmp 58]) rfl ?_); (try (refine gate_guard (by rfl) ?_; dsimp only)); at_builtin; refine Kd.R_append (Kd.int .i64) (w0 := w) w.heap.size rfl (.tmp 56) (.tmp 58) 41 3 (.int .i64 0) 8 rfl Tryd.underlying41 info3 rfl (by decide) (by omega) u9 x9_1 (wrap64 ((wrap64 (x10_1 + 1)) + (wrap64 (rd l1 x11_1)))) [.int .i64 (wrap64 ((wrap64 (x10_1 + 1)) + (wrap64 (rd l1 x11_1))))] (fun _ => True) (fun _ => False) rfl rfl ?aP (fun _ hk => hk.elim) ?aF ?aO ?aB ?aS ?aL ?_; (case aP => exact rfl); (case aB => exact (by repeat (first | (with_reducible first | exact HB.out | apply below_alloc | apply pw_below_drewN | apply below_drew1) | exact HB.out))); (case aF => exact (fun _ _ => trivial)); (case aO => exact (by (with_reducible repeat (first | apply Kd.R_alloc | apply Kd.R_drewN | apply Kd.R_drew)); exact HO_9.out)); (case aS => exact (below_size (by repeat (first | (with_reducible first | exact HB.out | apply below_alloc | apply pw_below_drewN | apply below_drew1) | exact HB.out)))); (case aL => have := LMc17.out; omega); intro v418 w18 ho hb hg hat; rw [← Ny417.out] at ho; have n0_ := Aside0.mk (hb); have n1_ := Aside0.mk (ho); clear HB; clear HO_9; have HB := n0_; have HO419 := n1_; clear n0_ n1_; clear ho hb hg hat))
                    go_roundg k1
                    case measure => have := HK1.out; omega
                    case rel => exact ⟨(y417), (wrap64 ((wrap64 (x10_1 + 1)) + (wrap64 (rd l1 x11_1)))), (wrap64 (x11_1 + 1)), (by first | rfl | (simp; done) | (simp [*]; done)), (by first | rfl | (simp; done) | (simp [*]; done)), H', ⟨by have := HK1.out; omega⟩, ⟨by (with_reducible repeat (first | apply Kd.R_alloc | apply Kd.R_drewN | apply Kd.R_drew)); exact HO419.out⟩, ⟨by repeat (first | (with_reducible first | exact HB.out | apply below_alloc | apply pw_below_drewN | apply below_drew1) | exact HB.out)⟩⟩
                  · rw [if_neg c17] at H
                    exact absurd H (by simp)
                · rw [if_neg c16] at H
                  exact absurd H (by simp)
              · rw [if_neg c15] at H
                have c15b0 : decide (x11_1 < 20) = false := decide_eq_false c15
                clear c15
                have H' := Aside0.mk H
                clear H
                go_wp2
                go_meet
                case rel => exact ⟨_, (x9_1), H', ⟨by have := HK1.out; first | omega | exact Nat.le_refl _⟩, ⟨by (with_reducible repeat (first | apply Kd.R_alloc | apply Kd.R_drewN | apply Kd.R_drew)); exact HO_9.out⟩, ⟨by repeat (first | (with_reducible first | exact HB.out | apply below_alloc | apply pw_below_drewN | apply below_drew1) | exact HB.out)⟩⟩
            · rw [if_neg c14] at H
              have c14b0 : decide (x11_1 < (l1.length : Int)) = false := decide_eq_false c14
              clear c14
              (first | rw [c14b0] | (simp only [i64_w, i32_w]; rw [c14b0]) | skip)
              have H' := Aside0.mk H
              clear H
              go_wp2
              go_meet
              case rel => exact ⟨_, (x9_1), H', ⟨by have := HK1.out; first | omega | exact Nat.le_refl _⟩, ⟨by (with_reducible repeat (first | apply Kd.R_alloc | apply Kd.R_drewN | apply Kd.R_drew)); exact HO_9.out⟩, ⟨by repeat (first | (with_reducible first | exact HB.out | apply below_alloc | apply pw_below_drewN | apply below_drew1) | exact HB.out)⟩⟩
      case rest =>
        clear HC9
        try clear c1
        try clear c2
        try clear p2
        try clear p4
        try clear q4
        try clear hx4
        try clear c6
        try clear c6b0
        try clear c6b1
        try clear p6
        try clear c7
        try clear c7b0
        try clear c7b1
        try clear c12
        try clear c14
        try clear c14b0
        try clear c15
        try clear c15b0
        try clear c16
        try clear c16b0
        try clear c17
        try clear hx416_0
        try clear p2
        try clear p416
        try clear q416
        obtain ⟨kq, x9_8, HA, HJ8, HO_9, HB⟩ := hcut
        cases kq with
        | zero => exact absurd HA.out (by simp [epitomelaw15_SnapBack.j1])
        | succ kj8 =>
          have H := HA.out
          clear HA
          simp only [epitomelaw15_SnapBack.j1] at H
          replace H := Option.bind_eq_some_iff.mp H
          obtain ⟨⟨t420, t421⟩, A190, H⟩ := H
          replace H : ((some (([] : List Int) : List Int)).bind fun y424 => (if y424.length + t420.length < 140737488355328 then ((some (y424 ++ t420 : List Int)).bind fun y427 => ((epitomelaw15_few.f l2).bind fun t430 => (if y427.length + t430.length < 140737488355328 then ((snap_Take.f kj8 (y427 ++ t430)).bind fun bt436 => ((snap_PutRow.f x9_8).bind fun bt439 => ((some (([] : List Int) : List Int)).bind fun y443 => (if y443.length + bt439.1.length < 140737488355328 then ((some (y443 ++ bt439.1 : List Int)).bind fun y446 => ((epitomelaw15_few.f l2).bind fun t449 => (if y446.length + t449.length < 140737488355328 then ((snap_TakeRow.f kj8 (y446 ++ t449)).bind fun bt455 => (if t411 = true then (if t421 = 0 then (if bt436.2.2 = 0 then (if bt436.1.toList = t412.toList then (if bt436.2.1 = (t420.length : Int) then (epitomelaw15_SnapBack.j2 kj8 x9_8 t420 bt439.1 bt439.2 bt455.1 bt455.2.1 bt455.2.2 ((bt439.2 == 0) != (decide ((x9_8.length : Int) > 0)))) else (epitomelaw15_SnapBack.j2 kj8 x9_8 t420 bt439.1 bt439.2 bt455.1 bt455.2.1 bt455.2.2 true)) else (epitomelaw15_SnapBack.j2 kj8 x9_8 t420 bt439.1 bt439.2 bt455.1 bt455.2.1 bt455.2.2 true)) else (epitomelaw15_SnapBack.j2 kj8 x9_8 t420 bt439.1 bt439.2 bt455.1 bt455.2.1 bt455.2.2 true)) else (epitomelaw15_SnapBack.j2 kj8 x9_8 t420 bt439.1 bt439.2 bt455.1 bt455.2.1 bt455.2.2 true)) else (epitomelaw15_SnapBack.j2 kj8 x9_8 t420 bt439.1 bt439.2 bt455.1 bt455.2.1 bt455.2.2 true))) else (none)))) else (none))))) else (none)))) else (none))) = some r := H
          have A19 := Aside0.mk A190
          clear A190
          obtain ⟨y424, hy424⟩ : ∃ y_ : List Int, y_ = (([] : List Int)) := ⟨_, rfl⟩
          replace H : (if y424.length + t420.length < 140737488355328 then ((some (y424 ++ t420 : List Int)).bind fun y427 => ((epitomelaw15_few.f l2).bind fun t430 => (if y427.length + t430.length < 140737488355328 then ((snap_Take.f kj8 (y427 ++ t430)).bind fun bt436 => ((snap_PutRow.f x9_8).bind fun bt439 => ((some (([] : List Int) : List Int)).bind fun y443 => (if y443.length + bt439.1.length < 140737488355328 then ((some (y443 ++ bt439.1 : List Int)).bind fun y446 => ((epitomelaw15_few.f l2).bind fun t449 => (if y446.length + t449.length < 140737488355328 then ((snap_TakeRow.f kj8 (y446 ++ t449)).bind fun bt455 => (if t411 = true then (if t421 = 0 then (if bt436.2.2 = 0 then (if bt436.1.toList = t412.toList then (if bt436.2.1 = (t420.length : Int) then (epitomelaw15_SnapBack.j2 kj8 x9_8 t420 bt439.1 bt439.2 bt455.1 bt455.2.1 bt455.2.2 ((bt439.2 == 0) != (decide ((x9_8.length : Int) > 0)))) else (epitomelaw15_SnapBack.j2 kj8 x9_8 t420 bt439.1 bt439.2 bt455.1 bt455.2.1 bt455.2.2 true)) else (epitomelaw15_SnapBack.j2 kj8 x9_8 t420 bt439.1 bt439.2 bt455.1 bt455.2.1 bt455.2.2 true)) else (epitomelaw15_SnapBack.j2 kj8 x9_8 t420 bt439.1 bt439.2 bt455.1 bt455.2.1 bt455.2.2 true)) else (epitomelaw15_SnapBack.j2 kj8 x9_8 t420 bt439.1 bt439.2 bt455.1 bt455.2.1 bt455.2.2 true)) else (epitomelaw15_SnapBack.j2 kj8 x9_8 t420 bt439.1 bt439.2 bt455.1 bt455.2.1 bt455.2.2 true))) else (none)))) else (none))))) else (none)))) else (none)) = some r := by first | (rw [hy424]; with_reducible exact H) | (have H2_ := (Option.bind_some _ _).symm.trans H; rw [hy424]; with_reducible exact H2_) | (have H2_ := (Option.bind_some _ _).symm.trans H; with_reducible exact H2_) | with_reducible exact H | (rw [hy424]; exact H) | exact H
          have Ny424 := Aside0.mk hy424
          clear hy424
          by_cases c20 : y424.length + t420.length < 140737488355328
          · rw [if_pos c20] at H
            have LMc20 := Aside0.mk c20
            clear c20
            obtain ⟨y427, hy427⟩ : ∃ y_ : List Int, y_ = (y424 ++ t420) := ⟨_, rfl⟩
            replace H : ((epitomelaw15_few.f l2).bind fun t430 => (if y427.length + t430.length < 140737488355328 then ((snap_Take.f kj8 (y427 ++ t430)).bind fun bt436 => ((snap_PutRow.f x9_8).bind fun bt439 => ((some (([] : List Int) : List Int)).bind fun y443 => (if y443.length + bt439.1.length < 140737488355328 then ((some (y443 ++ bt439.1 : List Int)).bind fun y446 => ((epitomelaw15_few.f l2).bind fun t449 => (if y446.length + t449.length < 140737488355328 then ((snap_TakeRow.f kj8 (y446 ++ t449)).bind fun bt455 => (if t411 = true then (if t421 = 0 then (if bt436.2.2 = 0 then (if bt436.1.toList = t412.toList then (if bt436.2.1 = (t420.length : Int) then (epitomelaw15_SnapBack.j2 kj8 x9_8 t420 bt439.1 bt439.2 bt455.1 bt455.2.1 bt455.2.2 ((bt439.2 == 0) != (decide ((x9_8.length : Int) > 0)))) else (epitomelaw15_SnapBack.j2 kj8 x9_8 t420 bt439.1 bt439.2 bt455.1 bt455.2.1 bt455.2.2 true)) else (epitomelaw15_SnapBack.j2 kj8 x9_8 t420 bt439.1 bt439.2 bt455.1 bt455.2.1 bt455.2.2 true)) else (epitomelaw15_SnapBack.j2 kj8 x9_8 t420 bt439.1 bt439.2 bt455.1 bt455.2.1 bt455.2.2 true)) else (epitomelaw15_SnapBack.j2 kj8 x9_8 t420 bt439.1 bt439.2 bt455.1 bt455.2.1 bt455.2.2 true)) else (epitomelaw15_SnapBack.j2 kj8 x9_8 t420 bt439.1 bt439.2 bt455.1 bt455.2.1 bt455.2.2 true))) else (none)))) else (none))))) else (none))) = some r := by first | (rw [hy427]; with_reducible exact H) | (have H2_ := (Option.bind_some _ _).symm.trans H; rw [hy427]; with_reducible exact H2_) | (have H2_ := (Option.bind_some _ _).symm.trans H; with_reducible exact H2_) | with_reducible exact H | (rw [hy427]; exact H) | exact H
            have Ny427 := Aside0.mk hy427
            clear hy427
            replace H := Option.bind_eq_some_iff.mp H
            obtain ⟨t430, A210, H⟩ := H
            replace H : (if y427.length + t430.length < 140737488355328 then ((snap_Take.f kj8 (y427 ++ t430)).bind fun bt436 => ((snap_PutRow.f x9_8).bind fun bt439 => ((some (([] : List Int) : List Int)).bind fun y443 => (if y443.length + bt439.1.length < 140737488355328 then ((some (y443 ++ bt439.1 : List Int)).bind fun y446 => ((epitomelaw15_few.f l2).bind fun t449 => (if y446.length + t449.length < 140737488355328 then ((snap_TakeRow.f kj8 (y446 ++ t449)).bind fun bt455 => (if t411 = true then (if t421 = 0 then (if bt436.2.2 = 0 then (if bt436.1.toList = t412.toList then (if bt436.2.1 = (t420.length : Int) then (epitomelaw15_SnapBack.j2 kj8 x9_8 t420 bt439.1 bt439.2 bt455.1 bt455.2.1 bt455.2.2 ((bt439.2 == 0) != (decide ((x9_8.length : Int) > 0)))) else (epitomelaw15_SnapBack.j2 kj8 x9_8 t420 bt439.1 bt439.2 bt455.1 bt455.2.1 bt455.2.2 true)) else (epitomelaw15_SnapBack.j2 kj8 x9_8 t420 bt439.1 bt439.2 bt455.1 bt455.2.1 bt455.2.2 true)) else (epitomelaw15_SnapBack.j2 kj8 x9_8 t420 bt439.1 bt439.2 bt455.1 bt455.2.1 bt455.2.2 true)) else (epitomelaw15_SnapBack.j2 kj8 x9_8 t420 bt439.1 bt439.2 bt455.1 bt455.2.1 bt455.2.2 true)) else (epitomelaw15_SnapBack.j2 kj8 x9_8 t420 bt439.1 bt439.2 bt455.1 bt455.2.1 bt455.2.2 true))) else (none)))) else (none))))) else (none)) = some r := H
            have A21 := Aside0.mk A210
            clear A210
            by_cases c22 : y427.length + t430.length < 140737488355328
            · rw [if_pos c22] at H
              have LMc22 := Aside0.mk c22
              clear c22
              obtain ⟨y433, hy433⟩ : ∃ y_ : List Int, y_ = (y427 ++ t430) := ⟨_, rfl⟩
              replace H : ((snap_Take.f kj8 y433).bind fun bt436 => ((snap_PutRow.f x9_8).bind fun bt439 => ((some (([] : List Int) : List Int)).bind fun y443 => (if y443.length + bt439.1.length < 140737488355328 then ((some (y443 ++ bt439.1 : List Int)).bind fun y446 => ((epitomelaw15_few.f l2).bind fun t449 => (if y446.length + t449.length < 140737488355328 then ((snap_TakeRow.f kj8 (y446 ++ t449)).bind fun bt455 => (if t411 = true then (if t421 = 0 then (if bt436.2.2 = 0 then (if bt436.1.toList = t412.toList then (if bt436.2.1 = (t420.length : Int) then (epitomelaw15_SnapBack.j2 kj8 x9_8 t420 bt439.1 bt439.2 bt455.1 bt455.2.1 bt455.2.2 ((bt439.2 == 0) != (decide ((x9_8.length : Int) > 0)))) else (epitomelaw15_SnapBack.j2 kj8 x9_8 t420 bt439.1 bt439.2 bt455.1 bt455.2.1 bt455.2.2 true)) else (epitomelaw15_SnapBack.j2 kj8 x9_8 t420 bt439.1 bt439.2 bt455.1 bt455.2.1 bt455.2.2 true)) else (epitomelaw15_SnapBack.j2 kj8 x9_8 t420 bt439.1 bt439.2 bt455.1 bt455.2.1 bt455.2.2 true)) else (epitomelaw15_SnapBack.j2 kj8 x9_8 t420 bt439.1 bt439.2 bt455.1 bt455.2.1 bt455.2.2 true)) else (epitomelaw15_SnapBack.j2 kj8 x9_8 t420 bt439.1 bt439.2 bt455.1 bt455.2.1 bt455.2.2 true))) else (none)))) else (none))))) = some r := by first | (rw [hy433]; with_reducible exact H) | (have H2_ := (Option.bind_some _ _).symm.trans H; rw [hy433]; with_reducible exact H2_) | (have H2_ := (Option.bind_some _ _).symm.trans H; with_reducible exact H2_) | with_reducible exact H | (rw [hy433]; exact H) | exact H
              have Ny433 := Aside0.mk hy433
              clear hy433
              replace H := Option.bind_eq_some_iff.mp H
              obtain ⟨⟨t436, t437, t438⟩, A230, H⟩ := H
              replace H : ((snap_PutRow.f x9_8).bind fun bt439 => ((some (([] : List Int) : List Int)).bind fun y443 => (if y443.length + bt439.1.length < 140737488355328 then ((some (y443 ++ bt439.1 : List Int)).bind fun y446 => ((epitomelaw15_few.f l2).bind fun t449 => (if y446.length + t449.length < 140737488355328 then ((snap_TakeRow.f kj8 (y446 ++ t449)).bind fun bt455 => (if t411 = true then (if t421 = 0 then (if t438 = 0 then (if t436.toList = t412.toList then (if t437 = (t420.length : Int) then (epitomelaw15_SnapBack.j2 kj8 x9_8 t420 bt439.1 bt439.2 bt455.1 bt455.2.1 bt455.2.2 ((bt439.2 == 0) != (decide ((x9_8.length : Int) > 0)))) else (epitomelaw15_SnapBack.j2 kj8 x9_8 t420 bt439.1 bt439.2 bt455.1 bt455.2.1 bt455.2.2 true)) else (epitomelaw15_SnapBack.j2 kj8 x9_8 t420 bt439.1 bt439.2 bt455.1 bt455.2.1 bt455.2.2 true)) else (epitomelaw15_SnapBack.j2 kj8 x9_8 t420 bt439.1 bt439.2 bt455.1 bt455.2.1 bt455.2.2 true)) else (epitomelaw15_SnapBack.j2 kj8 x9_8 t420 bt439.1 bt439.2 bt455.1 bt455.2.1 bt455.2.2 true)) else (epitomelaw15_SnapBack.j2 kj8 x9_8 t420 bt439.1 bt439.2 bt455.1 bt455.2.1 bt455.2.2 true))) else (none)))) else (none)))) = some r := H
              have A23 := Aside0.mk A230
              clear A230
              replace H := Option.bind_eq_some_iff.mp H
              obtain ⟨⟨t439, t440⟩, A240, H⟩ := H
              replace H : ((some (([] : List Int) : List Int)).bind fun y443 => (if y443.length + t439.length < 140737488355328 then ((some (y443 ++ t439 : List Int)).bind fun y446 => ((epitomelaw15_few.f l2).bind fun t449 => (if y446.length + t449.length < 140737488355328 then ((snap_TakeRow.f kj8 (y446 ++ t449)).bind fun bt455 => (if t411 = true then (if t421 = 0 then (if t438 = 0 then (if t436.toList = t412.toList then (if t437 = (t420.length : Int) then (epitomelaw15_SnapBack.j2 kj8 x9_8 t420 t439 t440 bt455.1 bt455.2.1 bt455.2.2 ((t440 == 0) != (decide ((x9_8.length : Int) > 0)))) else (epitomelaw15_SnapBack.j2 kj8 x9_8 t420 t439 t440 bt455.1 bt455.2.1 bt455.2.2 true)) else (epitomelaw15_SnapBack.j2 kj8 x9_8 t420 t439 t440 bt455.1 bt455.2.1 bt455.2.2 true)) else (epitomelaw15_SnapBack.j2 kj8 x9_8 t420 t439 t440 bt455.1 bt455.2.1 bt455.2.2 true)) else (epitomelaw15_SnapBack.j2 kj8 x9_8 t420 t439 t440 bt455.1 bt455.2.1 bt455.2.2 true)) else (epitomelaw15_SnapBack.j2 kj8 x9_8 t420 t439 t440 bt455.1 bt455.2.1 bt455.2.2 true))) else (none)))) else (none))) = some r := H
              have A24 := Aside0.mk A240
              clear A240
              obtain ⟨y443, hy443⟩ : ∃ y_ : List Int, y_ = (([] : List Int)) := ⟨_, rfl⟩
              replace H : (if y443.length + t439.length < 140737488355328 then ((some (y443 ++ t439 : List Int)).bind fun y446 => ((epitomelaw15_few.f l2).bind fun t449 => (if y446.length + t449.length < 140737488355328 then ((snap_TakeRow.f kj8 (y446 ++ t449)).bind fun bt455 => (if t411 = true then (if t421 = 0 then (if t438 = 0 then (if t436.toList = t412.toList then (if t437 = (t420.length : Int) then (epitomelaw15_SnapBack.j2 kj8 x9_8 t420 t439 t440 bt455.1 bt455.2.1 bt455.2.2 ((t440 == 0) != (decide ((x9_8.length : Int) > 0)))) else (epitomelaw15_SnapBack.j2 kj8 x9_8 t420 t439 t440 bt455.1 bt455.2.1 bt455.2.2 true)) else (epitomelaw15_SnapBack.j2 kj8 x9_8 t420 t439 t440 bt455.1 bt455.2.1 bt455.2.2 true)) else (epitomelaw15_SnapBack.j2 kj8 x9_8 t420 t439 t440 bt455.1 bt455.2.1 bt455.2.2 true)) else (epitomelaw15_SnapBack.j2 kj8 x9_8 t420 t439 t440 bt455.1 bt455.2.1 bt455.2.2 true)) else (epitomelaw15_SnapBack.j2 kj8 x9_8 t420 t439 t440 bt455.1 bt455.2.1 bt455.2.2 true))) else (none)))) else (none)) = some r := by first | (rw [hy443]; with_reducible exact H) | (have H2_ := (Option.bind_some _ _).symm.trans H; rw [hy443]; with_reducible exact H2_) | (have H2_ := (Option.bind_some _ _).symm.trans H; with_reducible exact H2_) | with_reducible exact H | (rw [hy443]; exact H) | exact H
              have Ny443 := Aside0.mk hy443
              clear hy443
              by_cases c25 : y443.length + t439.length < 140737488355328
              · rw [if_pos c25] at H
                have LMc25 := Aside0.mk c25
                clear c25
                obtain ⟨y446, hy446⟩ : ∃ y_ : List Int, y_ = (y443 ++ t439) := ⟨_, rfl⟩
                replace H : ((epitomelaw15_few.f l2).bind fun t449 => (if y446.length + t449.length < 140737488355328 then ((snap_TakeRow.f kj8 (y446 ++ t449)).bind fun bt455 => (if t411 = true then (if t421 = 0 then (if t438 = 0 then (if t436.toList = t412.toList then (if t437 = (t420.length : Int) then (epitomelaw15_SnapBack.j2 kj8 x9_8 t420 t439 t440 bt455.1 bt455.2.1 bt455.2.2 ((t440 == 0) != (decide ((x9_8.length : Int) > 0)))) else (epitomelaw15_SnapBack.j2 kj8 x9_8 t420 t439 t440 bt455.1 bt455.2.1 bt455.2.2 true)) else (epitomelaw15_SnapBack.j2 kj8 x9_8 t420 t439 t440 bt455.1 bt455.2.1 bt455.2.2 true)) else (epitomelaw15_SnapBack.j2 kj8 x9_8 t420 t439 t440 bt455.1 bt455.2.1 bt455.2.2 true)) else (epitomelaw15_SnapBack.j2 kj8 x9_8 t420 t439 t440 bt455.1 bt455.2.1 bt455.2.2 true)) else (epitomelaw15_SnapBack.j2 kj8 x9_8 t420 t439 t440 bt455.1 bt455.2.1 bt455.2.2 true))) else (none))) = some r := by first | (rw [hy446]; with_reducible exact H) | (have H2_ := (Option.bind_some _ _).symm.trans H; rw [hy446]; with_reducible exact H2_) | (have H2_ := (Option.bind_some _ _).symm.trans H; with_reducible exact H2_) | with_reducible exact H | (rw [hy446]; exact H) | exact H
                have Ny446 := Aside0.mk hy446
                clear hy446
                replace H := Option.bind_eq_some_iff.mp H
                obtain ⟨t449, A260, H⟩ := H
                replace H : (if y446.length + t449.length < 140737488355328 then ((snap_TakeRow.f kj8 (y446 ++ t449)).bind fun bt455 => (if t411 = true then (if t421 = 0 then (if t438 = 0 then (if t436.toList = t412.toList then (if t437 = (t420.length : Int) then (epitomelaw15_SnapBack.j2 kj8 x9_8 t420 t439 t440 bt455.1 bt455.2.1 bt455.2.2 ((t440 == 0) != (decide ((x9_8.length : Int) > 0)))) else (epitomelaw15_SnapBack.j2 kj8 x9_8 t420 t439 t440 bt455.1 bt455.2.1 bt455.2.2 true)) else (epitomelaw15_SnapBack.j2 kj8 x9_8 t420 t439 t440 bt455.1 bt455.2.1 bt455.2.2 true)) else (epitomelaw15_SnapBack.j2 kj8 x9_8 t420 t439 t440 bt455.1 bt455.2.1 bt455.2.2 true)) else (epitomelaw15_SnapBack.j2 kj8 x9_8 t420 t439 t440 bt455.1 bt455.2.1 bt455.2.2 true)) else (epitomelaw15_SnapBack.j2 kj8 x9_8 t420 t439 t440 bt455.1 bt455.2.1 bt455.2.2 true))) else (none)) = some r := H
                have A26 := Aside0.mk A260
                clear A260
                by_cases c27 : y446.length + t449.length < 140737488355328
                · rw [if_pos c27] at H
                  have LMc27 := Aside0.mk c27
                  clear c27
                  obtain ⟨y452, hy452⟩ : ∃ y_ : List Int, y_ = (y446 ++ t449) := ⟨_, rfl⟩
                  replace H : ((snap_TakeRow.f kj8 y452).bind fun bt455 => (if t411 = true then (if t421 = 0 then (if t438 = 0 then (if t436.toList = t412.toList then (if t437 = (t420.length : Int) then (epitomelaw15_SnapBack.j2 kj8 x9_8 t420 t439 t440 bt455.1 bt455.2.1 bt455.2.2 ((t440 == 0) != (decide ((x9_8.length : Int) > 0)))) else (epitomelaw15_SnapBack.j2 kj8 x9_8 t420 t439 t440 bt455.1 bt455.2.1 bt455.2.2 true)) else (epitomelaw15_SnapBack.j2 kj8 x9_8 t420 t439 t440 bt455.1 bt455.2.1 bt455.2.2 true)) else (epitomelaw15_SnapBack.j2 kj8 x9_8 t420 t439 t440 bt455.1 bt455.2.1 bt455.2.2 true)) else (epitomelaw15_SnapBack.j2 kj8 x9_8 t420 t439 t440 bt455.1 bt455.2.1 bt455.2.2 true)) else (epitomelaw15_SnapBack.j2 kj8 x9_8 t420 t439 t440 bt455.1 bt455.2.1 bt455.2.2 true))) = some r := by first | (rw [hy452]; with_reducible exact H) | (have H2_ := (Option.bind_some _ _).symm.trans H; rw [hy452]; with_reducible exact H2_) | (have H2_ := (Option.bind_some _ _).symm.trans H; with_reducible exact H2_) | with_reducible exact H | (rw [hy452]; exact H) | exact H
                  have Ny452 := Aside0.mk hy452
                  clear hy452
                  replace H := Option.bind_eq_some_iff.mp H
                  obtain ⟨⟨t455, t456, t457⟩, A280, H⟩ := H
                  replace H : (if t411 = true then (if t421 = 0 then (if t438 = 0 then (if t436.toList = t412.toList then (if t437 = (t420.length : Int) then (epitomelaw15_SnapBack.j2 kj8 x9_8 t420 t439 t440 t455 t456 t457 ((t440 == 0) != (decide ((x9_8.length : Int) > 0)))) else (epitomelaw15_SnapBack.j2 kj8 x9_8 t420 t439 t440 t455 t456 t457 true)) else (epitomelaw15_SnapBack.j2 kj8 x9_8 t420 t439 t440 t455 t456 t457 true)) else (epitomelaw15_SnapBack.j2 kj8 x9_8 t420 t439 t440 t455 t456 t457 true)) else (epitomelaw15_SnapBack.j2 kj8 x9_8 t420 t439 t440 t455 t456 t457 true)) else (epitomelaw15_SnapBack.j2 kj8 x9_8 t420 t439 t440 t455 t456 t457 true)) = some r := H
                  have A28 := Aside0.mk A280
                  clear A280
                  have HC29 := Aside0.mk H
                  clear H
                  go_upto_region 14 with (first | ((with_reducible refine gate_callee (f := 33) rfl ?_); refine goesL_ (some 62) rfl rfl Tryd.func33 (by kernel_rfl) rfl #[.string t412] rfl (by (try simp only [List.map_toArray, List.map_cons, List.map_nil]); first | done | rfl | (simp only [List.length_drop, List.length_take]; rfl)) ?_; (with_reducible refine (snap_Put.calls t412 t420 t421 _ ?side1 A19.out).mono ?_); (case side1 => exact Tabs.below HT.out (by repeat (first | (with_reducible first | exact HB.out | apply below_alloc | apply pw_below_drewN | apply below_drew1) | exact HB.out))); rintro e w30 ⟨v422, rfl, ho0, hb⟩; refine ⟨_, rfl, ?_⟩; have n0_ := Aside0.mk (Kd.R_below (by (with_reducible repeat (first | apply Kd.R_alloc | apply Kd.R_drewN | apply Kd.R_drew)); exact HO_9.out) hb); have n1_ := Aside0.mk (Kd.R_lower ho0 (below_size (by repeat (first | (with_reducible first | exact HB.out | apply below_alloc | apply pw_below_drewN | apply below_drew1) | exact HB.out)))); have n2_ := Aside0.mk (below_step (by repeat (first | (with_reducible first | exact HB.out | apply below_alloc | apply pw_below_drewN | apply below_drew1) | exact HB.out)) hb); clear HO_9; clear HB; have HO_9 := n0_; have HO423 := n1_; have HB := n2_; clear n0_ n1_ n2_; (try clear hb); (try clear hb2); (try clear hk); (try clear hi); (try clear ho0)) | ((with_reducible refine gate_dst (N := 66) rfl ?_); (try (refine gate_guard (by rfl) ?_; dsimp only)); refine Kd.R_lit (Kd.int .u8) _ 5 ?hg (N := 66) ?hd (xs := ([] : List Int)) (inner := []) (ok := fun _ => True) (okp := fun _ => True) ?hr ?hp (fun _ hk => hk) trivial (Below.refl _ _) (Nat.le_refl _) (by simp) ?_; (case hd => rfl); (case hg => rfl); (case hr => first | (go_simp; done) | (go_simp; rfl)); (case hp => exact (Reps.none _ _)); intro v425 w31 ho32 hb hg_ hnew_; clear hg_ hnew_; (first | rw [← Ny424.out] at ho32 | (simp only [Int.reduceToNat] at ho32; rw [← Ny424.out] at ho32)); have n0_ := Aside0.mk (Kd.R_below (by (with_reducible repeat (first | apply Kd.R_alloc | apply Kd.R_drewN | apply Kd.R_drew)); exact HO_9.out) hb); have n1_ := Aside0.mk (Kd.R_elder' (by (with_reducible repeat (first | apply Kd.R_alloc | apply Kd.R_drewN | apply Kd.R_drew)); exact HO423.out) (Kd.R_base ho32) hb); have n2_ := Aside0.mk (Kd.R_lower (Kd.R_new' ho32 (Kd.R_lt (by (with_reducible repeat (first | apply Kd.R_alloc | apply Kd.R_drewN | apply Kd.R_drew)); exact HO423.out))) (below_size (by repeat (first | (with_reducible first | exact HB.out | apply below_alloc | apply pw_below_drewN | apply below_drew1) | exact HB.out)))); have n3_ := Aside0.mk (below_step (by repeat (first | (with_reducible first | exact HB.out | apply below_alloc | apply pw_below_drewN | apply below_drew1) | exact HB.out)) hb); clear HO_9; clear HO423; clear HB; have HO_9 := n0_; have HO423 := n1_; have HO426 := n2_; have HB := n3_; clear n0_ n1_ n2_ n3_; clear hb ho32; obtain ⟨Ao34, co34, eo34⟩ := Kd.R_slice HO423.out; subst eo34) | ((with_reducible refine gate_builtin (b := .append) (xs := #[.tmp 66, .tmp 67]) rfl ?_); (try (refine gate_guard (by rfl) ?_; dsimp only)); at_builtin; refine Kd.R_append_rows (Kd.int .u8) (w0 := w) w.heap.size rfl (.tmp 66) (.tmp 67) 32 5 (.int .u8 0) 1 rfl Tryd.underlying32 info5 rfl (by decide) (by omega) v425 y424 t420 _ _ _ (fun k_ => some k_ ≠ (.slice Ao34 t420.length co34 : Value).ownBlock) (fun _ => False) rfl rfl ?aO ?aR (fun _ _ h => h) (fun _ h => h.elim) ?aF ?aB ?aS ?aL ?_; (case aR => repeat (first | exact (Kd.R_reads' HO423.out).2.2 | (with_reducible refine Kd.C_alloc ?_ _) | (with_reducible refine Kd.C_drewN ?_ _) | (with_reducible refine Kd.C_drew ?_))); (case aB => exact (by repeat (first | (with_reducible first | exact HB.out | apply below_alloc | apply pw_below_drewN | apply below_drew1) | exact HB.out))); (case aF => exact (fun k_ hk => Kd.fresh' (Kd.R_lt (by (with_reducible repeat (first | apply Kd.R_alloc | apply Kd.R_drewN | apply Kd.R_drew)); exact HO423.out)) k_ hk)); (case aO => exact (by (with_reducible repeat (first | apply Kd.R_alloc | apply Kd.R_drewN | apply Kd.R_drew)); exact Kd.R_mono HO426.out (fun _ hk => hk.2))); (case aS => exact (below_size (by repeat (first | (with_reducible first | exact HB.out | apply below_alloc | apply pw_below_drewN | apply below_drew1) | exact HB.out)))); (case aL => have := LMc20.out; omega); intro v428 w33 ho hb hg hat; rw [← Ny427.out] at ho; have n0_ := Aside0.mk (Kd.R_over' (by (with_reducible repeat (first | apply Kd.R_alloc | apply Kd.R_drewN | apply Kd.R_drew)); exact HO_9.out) (Kd.R_typed (by (with_reducible repeat (first | apply Kd.R_alloc | apply Kd.R_drewN | apply Kd.R_drew)); exact HO426.out)) (by decide) hg); have n1_ := Aside0.mk (Kd.R_after (ok := (fun _ => True)) (by (with_reducible repeat (first | apply Kd.R_alloc | apply Kd.R_drewN | apply Kd.R_drew)); exact HO423.out) hg hat); have n2_ := Aside0.mk (hb); have n3_ := Aside0.mk (ho); clear HO_9; clear HO423; clear HB; clear HO426; have HO_9 := n0_; have HO423 := n1_; have HB := n2_; have HO429 := n3_; clear n0_ n1_ n2_ n3_; clear ho hb hg hat) | ((with_reducible refine gate_callee (f := 30) rfl ?_); refine goesL_ (some 70) rfl rfl Tryd.func30 (by kernel_rfl) rfl #[.slice A2 l2.length c2] rfl (by (try simp only [List.map_toArray, List.map_cons, List.map_nil]); first | done | rfl | (simp only [List.length_drop, List.length_take]; rfl)) ?_; (with_reducible refine (epitomelaw15_few.calls (fun k_ => k_ < w.heap.size) _ _ l2 t430 _ ?side1 A21.out).mono ?_); (case side1 => exact Kd.V_mk HC2.out (Kd.F_below (Kd.C_F (Kd.heap_int .u8) HR2.out) (by repeat (first | (with_reducible first | exact HB.out | apply below_alloc | apply pw_below_drewN | apply below_drew1) | exact HB.out)))); rintro e w35 ⟨v431, rfl, ho0, hb⟩; refine ⟨_, rfl, ?_⟩; have n0_ := Aside0.mk (Kd.R_below (by (with_reducible repeat (first | apply Kd.R_alloc | apply Kd.R_drewN | apply Kd.R_drew)); exact HO_9.out) hb); have n1_ := Aside0.mk (Kd.R_below (by (with_reducible repeat (first | apply Kd.R_alloc | apply Kd.R_drewN | apply Kd.R_drew)); exact HO423.out) hb); have n2_ := Aside0.mk (Kd.R_below (by (with_reducible repeat (first | apply Kd.R_alloc | apply Kd.R_drewN | apply Kd.R_drew)); exact HO429.out) hb); have n3_ := Aside0.mk (Kd.V_lower (Kd.V_mono (ok' := fun k_ => some k_ ≠ (u9 : Value).ownBlock ∧ some k_ ≠ (.slice Ao34 t420.length co34 : Value).ownBlock ∧ some k_ ≠ (v428 : Value).ownBlock) ho0 (fun k_ hk_ => ⟨Or.elim hk_ (fun hs_ => fun e_ => Nat.not_le.2 hs_ (Kd.R_base HO_9.out k_ e_.symm)) (fun hn_ => (Kd.fresh' (Kd.R_lt (by (with_reducible repeat (first | apply Kd.R_alloc | apply Kd.R_drewN | apply Kd.R_drew)); exact HO_9.out)) k_ hn_)), Or.elim hk_ (fun hs_ => fun e_ => Nat.not_le.2 hs_ (Kd.R_base HO423.out k_ e_.symm)) (fun hn_ => (Kd.fresh' (Kd.R_lt (by (with_reducible repeat (first | apply Kd.R_alloc | apply Kd.R_drewN | apply Kd.R_drew)); exact HO423.out)) k_ hn_)), Or.elim hk_ (fun hs_ => fun e_ => Nat.not_le.2 hs_ (Kd.R_base HO429.out k_ e_.symm)) (fun hn_ => (Kd.fresh' (Kd.R_lt (by (with_reducible repeat (first | apply Kd.R_alloc | apply Kd.R_drewN | apply Kd.R_drew)); exact HO429.out)) k_ hn_))⟩)) (below_size (by repeat (first | (with_reducible first | exact HB.out | apply below_alloc | apply pw_below_drewN | apply below_drew1) | exact HB.out)))); have n4_ := Aside0.mk (below_step (by repeat (first | (with_reducible first | exact HB.out | apply below_alloc | apply pw_below_drewN | apply below_drew1) | exact HB.out)) hb); clear HO_9; clear HO423; clear HO429; clear HB; have HO_9 := n0_; have HO423 := n1_; have HO429 := n2_; have HO432 := n3_; have HB := n4_; clear n0_ n1_ n2_ n3_ n4_; (try clear hb); (try clear hb2); (try clear hk); (try clear hi); (try clear ho0); obtain ⟨Ao37, co37, eo37⟩ := Kd.V_slice HO432.out; subst eo37) | ((with_reducible refine gate_builtin (b := .append) (xs := #[.tmp 68, .tmp 70]) rfl ?_); (try (refine gate_guard (by rfl) ?_; dsimp only)); at_builtin; refine Kd.R_append_rows (Kd.int .u8) (w0 := w) w.heap.size rfl (.tmp 68) (.tmp 70) 32 5 (.int .u8 0) 1 rfl Tryd.underlying32 info5 rfl (by decide) (by omega) v428 y427 t430 _ _ _ (fun k_ => some k_ ≠ (.slice Ao34 t420.length co34 : Value).ownBlock) (fun _ => False) rfl rfl ?aO ?aR (fun _ _ h => h) (fun _ h => h.elim) ?aF ?aB ?aS ?aL ?_; (case aR => repeat (first | exact (Kd.V_reads' HO432.out).2.2 | (with_reducible refine Kd.C_alloc ?_ _) | (with_reducible refine Kd.C_drewN ?_ _) | (with_reducible refine Kd.C_drew ?_))); (case aB => exact (by repeat (first | (with_reducible first | exact HB.out | apply below_alloc | apply pw_below_drewN | apply below_drew1) | exact HB.out))); (case aF => exact (fun k_ hk => Kd.fresh' (Kd.R_lt (by (with_reducible repeat (first | apply Kd.R_alloc | apply Kd.R_drewN | apply Kd.R_drew)); exact HO423.out)) k_ hk)); (case aO => exact (by (with_reducible repeat (first | apply Kd.R_alloc | apply Kd.R_drewN | apply Kd.R_drew)); exact HO429.out)); (case aS => exact (below_size (by repeat (first | (with_reducible first | exact HB.out | apply below_alloc | apply pw_below_drewN | apply below_drew1) | exact HB.out)))); (case aL => have := LMc22.out; omega); intro v434 w36 ho hb hg hat; rw [← Ny433.out] at ho; have n0_ := Aside0.mk (Kd.R_over' (by (with_reducible repeat (first | apply Kd.R_alloc | apply Kd.R_drewN | apply Kd.R_drew)); exact HO_9.out) (Kd.R_typed (by (with_reducible repeat (first | apply Kd.R_alloc | apply Kd.R_drewN | apply Kd.R_drew)); exact HO429.out)) (by decide) hg); have n1_ := Aside0.mk (Kd.R_after (ok := (fun _ => True)) (by (with_reducible repeat (first | apply Kd.R_alloc | apply Kd.R_drewN | apply Kd.R_drew)); exact HO423.out) hg hat); have n2_ := Aside0.mk (Kd.V_afterv (ok := (fun k_ => some k_ ≠ (u9 : Value).ownBlock ∧ some k_ ≠ (.slice Ao34 t420.length co34 : Value).ownBlock)) (by (with_reducible repeat (first | apply Kd.V_alloc | apply Kd.V_drewN | apply Kd.V_drew)); exact Kd.V_mono HO432.out (fun _ hk => ⟨⟨hk.1, hk.2.1⟩, hk.2.2⟩)) hg hat); have n3_ := Aside0.mk (hb); have n4_ := Aside0.mk (ho); clear HO_9; clear HO423; clear HO432; clear HB; clear HO429; have HO_9 := n0_; have HO423 := n1_; have HO432 := n2_; have HB := n3_; have HO435 := n4_; clear n0_ n1_ n2_ n3_ n4_; clear ho hb hg hat; obtain ⟨Ao38, co38, eo38⟩ := Kd.R_slice HO435.out; subst eo38) | ((with_reducible refine gate_callee (f := 35) rfl ?_); refine goesL_ (some 72) rfl rfl Tryd.func35 (by kernel_rfl) rfl #[.slice Ao38 y433.length co38] rfl (by (try simp only [List.map_toArray, List.map_cons, List.map_nil]); first | done | rfl | (simp only [List.length_drop, List.length_take]; rfl)) ?_; (with_reducible refine (snap_Take.calls kj8 _ _ y433 t436 t437 t438 _ ?side1 ?side2 ?side3 A23.out).mono ?_); (case side1 => repeat (first | exact (Kd.R_reads' HO435.out).2.2 | (with_reducible refine Kd.C_alloc ?_ _) | (with_reducible refine Kd.C_drewN ?_ _) | (with_reducible refine Kd.C_drew ?_))); (case side2 => exact (Kd.R_reads' HO435.out).2.1); (case side3 => exact Tabs.below HT.out (by repeat (first | (with_reducible first | exact HB.out | apply below_alloc | apply pw_below_drewN | apply below_drew1) | exact HB.out))); rintro e w39 ⟨rfl, hb⟩; refine ⟨_, rfl, ?_⟩; have n0_ := Aside0.mk (Kd.R_below (by (with_reducible repeat (first | apply Kd.R_alloc | apply Kd.R_drewN | apply Kd.R_drew)); exact HO_9.out) hb); have n1_ := Aside0.mk (Kd.R_below (by (with_reducible repeat (first | apply Kd.R_alloc | apply Kd.R_drewN | apply Kd.R_drew)); exact HO423.out) hb); have n2_ := Aside0.mk (Kd.V_below (by (with_reducible repeat (first | apply Kd.V_alloc | apply Kd.V_drewN | apply Kd.V_drew)); exact HO432.out) hb); have n3_ := Aside0.mk (Kd.R_below (by (with_reducible repeat (first | apply Kd.R_alloc | apply Kd.R_drewN | apply Kd.R_drew)); exact HO435.out) hb); have n4_ := Aside0.mk (below_step (by repeat (first | (with_reducible first | exact HB.out | apply below_alloc | apply pw_below_drewN | apply below_drew1) | exact HB.out)) hb); clear HO_9; clear HO423; clear HO432; clear HO435; clear HB; have HO_9 := n0_; have HO423 := n1_; have HO432 := n2_; have HO435 := n3_; have HB := n4_; clear n0_ n1_ n2_ n3_ n4_; (try clear hb); (try clear hb2); (try clear hk); (try clear hi); obtain ⟨Ao40, co40, eo40⟩ := Kd.R_slice HO_9.out; subst eo40) | ((with_reducible refine gate_callee (f := 26) rfl ?_); refine goesL_ (some 78) rfl rfl Tryd.func26 (by kernel_rfl) rfl #[.slice Ao40 x9_8.length co40] rfl (by (try simp only [List.map_toArray, List.map_cons, List.map_nil]); first | done | rfl | (simp only [List.length_drop, List.length_take]; rfl)) ?_; (with_reducible refine (snap_PutRow.calls _ _ x9_8 t439 t440 _ ?side1 ?side2 A24.out).mono ?_); (case side1 => repeat (first | exact (Kd.R_reads' HO_9.out).2.2 | (with_reducible refine Kd.C_alloc ?_ _) | (with_reducible refine Kd.C_drewN ?_ _) | (with_reducible refine Kd.C_drew ?_))); (case side2 => exact (Kd.R_reads' HO_9.out).2.1); rintro e w41 ⟨v441, rfl, ho0, hb⟩; refine ⟨_, rfl, ?_⟩; have n0_ := Aside0.mk (Kd.R_below (by (with_reducible repeat (first | apply Kd.R_alloc | apply Kd.R_drewN | apply Kd.R_drew)); exact HO_9.out) hb); have n1_ := Aside0.mk (Kd.R_elder' (by (with_reducible repeat (first | apply Kd.R_alloc | apply Kd.R_drewN | apply Kd.R_drew)); exact HO423.out) (Kd.R_base ho0) hb); have n2_ := Aside0.mk (Kd.V_elder' (by (with_reducible repeat (first | apply Kd.V_alloc | apply Kd.V_drewN | apply Kd.V_drew)); exact HO432.out) (Kd.R_base ho0) hb); have n3_ := Aside0.mk (Kd.R_elder' (by (with_reducible repeat (first | apply Kd.R_alloc | apply Kd.R_drewN | apply Kd.R_drew)); exact HO435.out) (Kd.R_base ho0) hb); have n4_ := Aside0.mk (Kd.R_lower (Kd.R_new' (Kd.R_new' ho0 (Kd.R_lt (by (with_reducible repeat (first | apply Kd.R_alloc | apply Kd.R_drewN | apply Kd.R_drew)); exact HO423.out))) (Kd.R_lt (by (with_reducible repeat (first | apply Kd.R_alloc | apply Kd.R_drewN | apply Kd.R_drew)); exact HO435.out))) (below_size (by repeat (first | (with_reducible first | exact HB.out | apply below_alloc | apply pw_below_drewN | apply below_drew1) | exact HB.out)))); have n5_ := Aside0.mk (below_step (by repeat (first | (with_reducible first | exact HB.out | apply below_alloc | apply pw_below_drewN | apply below_drew1) | exact HB.out)) hb); clear HO_9; clear HO423; clear HO432; clear HO435; clear HB; have HO_9 := n0_; have HO423 := n1_; have HO432 := n2_; have HO435 := n3_; have HO442 := n4_; have HB := n5_; clear n0_ n1_ n2_ n3_ n4_ n5_; (try clear hb); (try clear hb2); (try clear hk); (try clear hi); (try clear ho0)) | ((with_reducible refine gate_dst (N := 82) rfl ?_); (try (refine gate_guard (by rfl) ?_; dsimp only)); refine Kd.R_lit (Kd.int .u8) _ 5 ?hg (N := 82) ?hd (xs := ([] : List Int)) (inner := []) (ok := fun _ => True) (okp := fun _ => True) ?hr ?hp (fun _ hk => hk) trivial (Below.refl _ _) (Nat.le_refl _) (by simp) ?_; (case hd => rfl); (case hg => rfl); (case hr => first | (go_simp; done) | (go_simp; rfl)); (case hp => exact (Reps.none _ _)); intro v444 w42 ho43 hb hg_ hnew_; clear hg_ hnew_; (first | rw [← Ny443.out] at ho43 | (simp only [Int.reduceToNat] at ho43; rw [← Ny443.out] at ho43)); have n0_ := Aside0.mk (Kd.R_below (by (with_reducible repeat (first | apply Kd.R_alloc | apply Kd.R_drewN | apply Kd.R_drew)); exact HO_9.out) hb); have n1_ := Aside0.mk (Kd.R_elder' (by (with_reducible repeat (first | apply Kd.R_alloc | apply Kd.R_drewN | apply Kd.R_drew)); exact HO423.out) (Kd.R_base ho43) hb); have n2_ := Aside0.mk (Kd.V_elder' (by (with_reducible repeat (first | apply Kd.V_alloc | apply Kd.V_drewN | apply Kd.V_drew)); exact HO432.out) (Kd.R_base ho43) hb); have n3_ := Aside0.mk (Kd.R_elder' (by (with_reducible repeat (first | apply Kd.R_alloc | apply Kd.R_drewN | apply Kd.R_drew)); exact HO435.out) (Kd.R_base ho43) hb); have n4_ := Aside0.mk (Kd.R_elder' (by (with_reducible repeat (first | apply Kd.R_alloc | apply Kd.R_drewN | apply Kd.R_drew)); exact HO442.out) (Kd.R_base ho43) hb); have n5_ := Aside0.mk (Kd.R_lower (Kd.R_new' (Kd.R_new' (Kd.R_new' ho43 (Kd.R_lt (by (with_reducible repeat (first | apply Kd.R_alloc | apply Kd.R_drewN | apply Kd.R_drew)); exact HO423.out))) (Kd.R_lt (by (with_reducible repeat (first | apply Kd.R_alloc | apply Kd.R_drewN | apply Kd.R_drew)); exact HO435.out))) (Kd.R_lt (by (with_reducible repeat (first | apply Kd.R_alloc | apply Kd.R_drewN | apply Kd.R_drew)); exact HO442.out))) (below_size (by repeat (first | (with_reducible first | exact HB.out | apply below_alloc | apply pw_below_drewN | apply below_drew1) | exact HB.out)))); have n6_ := Aside0.mk (below_step (by repeat (first | (with_reducible first | exact HB.out | apply below_alloc | apply pw_below_drewN | apply below_drew1) | exact HB.out)) hb); clear HO_9; clear HO423; clear HO432; clear HO435; clear HO442; clear HB; have HO_9 := n0_; have HO423 := n1_; have HO432 := n2_; have HO435 := n3_; have HO442 := n4_; have HO445 := n5_; have HB := n6_; clear n0_ n1_ n2_ n3_ n4_ n5_ n6_; clear hb ho43; obtain ⟨Ao45, co45, eo45⟩ := Kd.R_slice HO442.out; subst eo45) | ((with_reducible refine gate_builtin (b := .append) (xs := #[.tmp 82, .tmp 83]) rfl ?_); (try (refine gate_guard (by rfl) ?_; dsimp only)); at_builtin; refine Kd.R_append_rows (Kd.int .u8) (w0 := w) w.heap.size rfl (.tmp 82) (.tmp 83) 32 5 (.int .u8 0) 1 rfl Tryd.underlying32 info5 rfl (by decide) (by omega) v444 y443 t439 _ _ _ (fun k_ => some k_ ≠ (.slice Ao34 t420.length co34 : Value).ownBlock ∧ some k_ ≠ (.slice Ao38 y433.length co38 : Value).ownBlock ∧ some k_ ≠ (.slice Ao45 t439.length co45 : Value).ownBlock) (fun _ => False) rfl rfl ?aO ?aR (fun _ _ h => h) (fun _ h => h.elim) ?aF ?aB ?aS ?aL ?_; (case aR => repeat (first | exact (Kd.R_reads' HO442.out).2.2 | (with_reducible refine Kd.C_alloc ?_ _) | (with_reducible refine Kd.C_drewN ?_ _) | (with_reducible refine Kd.C_drew ?_))); (case aB => exact (by repeat (first | (with_reducible first | exact HB.out | apply below_alloc | apply pw_below_drewN | apply below_drew1) | exact HB.out))); (case aF => exact (fun k_ hk => ⟨Kd.fresh' (Kd.R_lt (by (with_reducible repeat (first | apply Kd.R_alloc | apply Kd.R_drewN | apply Kd.R_drew)); exact HO423.out)) k_ hk, Kd.fresh' (Kd.R_lt (by (with_reducible repeat (first | apply Kd.R_alloc | apply Kd.R_drewN | apply Kd.R_drew)); exact HO435.out)) k_ hk, Kd.fresh' (Kd.R_lt (by (with_reducible repeat (first | apply Kd.R_alloc | apply Kd.R_drewN | apply Kd.R_drew)); exact HO442.out)) k_ hk⟩)); (case aO => exact (by (with_reducible repeat (first | apply Kd.R_alloc | apply Kd.R_drewN | apply Kd.R_drew)); exact Kd.R_mono HO445.out (fun _ hk => ⟨hk.1.1.2, ⟨hk.1.2, hk.2⟩⟩))); (case aS => exact (below_size (by repeat (first | (with_reducible first | exact HB.out | apply below_alloc | apply pw_below_drewN | apply below_drew1) | exact HB.out)))); (case aL => have := LMc25.out; omega); intro v447 w44 ho hb hg hat; rw [← Ny446.out] at ho; have n0_ := Aside0.mk (Kd.R_over' (by (with_reducible repeat (first | apply Kd.R_alloc | apply Kd.R_drewN | apply Kd.R_drew)); exact HO_9.out) (Kd.R_typed (by (with_reducible repeat (first | apply Kd.R_alloc | apply Kd.R_drewN | apply Kd.R_drew)); exact HO445.out)) (by decide) hg); have n1_ := Aside0.mk (Kd.R_after (ok := (fun k_ => some k_ ≠ (.slice Ao38 y433.length co38 : Value).ownBlock ∧ some k_ ≠ (.slice Ao45 t439.length co45 : Value).ownBlock)) (by (with_reducible repeat (first | apply Kd.R_alloc | apply Kd.R_drewN | apply Kd.R_drew)); exact Kd.R_mono HO423.out (fun _ hk => ⟨⟨hk.1.1.2, hk.1.2⟩, hk.2⟩)) hg hat); have n2_ := Aside0.mk (Kd.V_afterv (ok := (fun k_ => some k_ ≠ (.slice Ao40 x9_8.length co40 : Value).ownBlock ∧ some k_ ≠ (.slice Ao34 t420.length co34 : Value).ownBlock ∧ some k_ ≠ (.slice Ao38 y433.length co38 : Value).ownBlock ∧ some k_ ≠ (.slice Ao45 t439.length co45 : Value).ownBlock)) (by (with_reducible repeat (first | apply Kd.V_alloc | apply Kd.V_drewN | apply Kd.V_drew)); exact Kd.V_mono HO432.out (fun _ hk => ⟨⟨hk.1.1.1.1, ⟨hk.1.1.1.2, ⟨hk.1.1.2, hk.1.2⟩⟩⟩, hk.2⟩)) hg hat); have n3_ := Aside0.mk (Kd.R_after (ok := (fun k_ => some k_ ≠ (.slice Ao34 t420.length co34 : Value).ownBlock ∧ some k_ ≠ (.slice Ao45 t439.length co45 : Value).ownBlock)) (by (with_reducible repeat (first | apply Kd.R_alloc | apply Kd.R_drewN | apply Kd.R_drew)); exact HO435.out) hg hat); have n4_ := Aside0.mk (Kd.R_after (ok := (fun k_ => some k_ ≠ (.slice Ao34 t420.length co34 : Value).ownBlock ∧ some k_ ≠ (.slice Ao38 y433.length co38 : Value).ownBlock)) (by (with_reducible repeat (first | apply Kd.R_alloc | apply Kd.R_drewN | apply Kd.R_drew)); exact Kd.R_mono HO442.out (fun _ hk => ⟨⟨hk.1.1.2, hk.1.2⟩, hk.2⟩)) hg hat); have n5_ := Aside0.mk (hb); have n6_ := Aside0.mk (ho); clear HO_9; clear HO423; clear HO432; clear HO435; clear HO442; clear HB; clear HO445; have HO_9 := n0_; have HO423 := n1_; have HO432 := n2_; have HO435 := n3_; have HO442 := n4_; have HB := n5_; have HO448 := n6_; clear n0_ n1_ n2_ n3_ n4_ n5_ n6_; clear ho hb hg hat) | ((with_reducible refine gate_callee (f := 30) rfl ?_); refine goesL_ (some 86) rfl rfl Tryd.func30 (by kernel_rfl) rfl #[.slice A2 l2.length c2] rfl (by (try simp only [List.map_toArray, List.map_cons, List.map_nil]); first | done | rfl | (simp only [List.length_drop, List.length_take]; rfl)) ?_; (with_reducible refine (epitomelaw15_few.calls (fun k_ => k_ < w.heap.size) _ _ l2 t449 _ ?side1 A26.out).mono ?_); (case side1 => exact Kd.V_mk HC2.out (Kd.F_below (Kd.C_F (Kd.heap_int .u8) HR2.out) (by repeat (first | (with_reducible first | exact HB.out | apply below_alloc | apply pw_below_drewN | apply below_drew1) | exact HB.out)))); rintro e w46 ⟨v450, rfl, ho0, hb⟩; refine ⟨_, rfl, ?_⟩; have n0_ := Aside0.mk (Kd.R_below (by (with_reducible repeat (first | apply Kd.R_alloc | apply Kd.R_drewN | apply Kd.R_drew)); exact HO_9.out) hb); have n1_ := Aside0.mk (Kd.R_below (by (with_reducible repeat (first | apply Kd.R_alloc | apply Kd.R_drewN | apply Kd.R_drew)); exact HO423.out) hb); have n2_ := Aside0.mk (Kd.V_below (by (with_reducible repeat (first | apply Kd.V_alloc | apply Kd.V_drewN | apply Kd.V_drew)); exact HO432.out) hb); have n3_ := Aside0.mk (Kd.R_below (by (with_reducible repeat (first | apply Kd.R_alloc | apply Kd.R_drewN | apply Kd.R_drew)); exact HO435.out) hb); have n4_ := Aside0.mk (Kd.R_below (by (with_reducible repeat (first | apply Kd.R_alloc | apply Kd.R_drewN | apply Kd.R_drew)); exact HO442.out) hb); have n5_ := Aside0.mk (Kd.R_below (by (with_reducible repeat (first | apply Kd.R_alloc | apply Kd.R_drewN | apply Kd.R_drew)); exact HO448.out) hb); have n6_ := Aside0.mk (Kd.V_lower (Kd.V_mono (ok' := fun k_ => some k_ ≠ (.slice Ao40 x9_8.length co40 : Value).ownBlock ∧ some k_ ≠ (.slice Ao34 t420.length co34 : Value).ownBlock ∧ some k_ ≠ (.slice Ao38 y433.length co38 : Value).ownBlock ∧ some k_ ≠ (.slice Ao45 t439.length co45 : Value).ownBlock ∧ some k_ ≠ (v447 : Value).ownBlock) ho0 (fun k_ hk_ => ⟨Or.elim hk_ (fun hs_ => fun e_ => Nat.not_le.2 hs_ (Kd.R_base HO_9.out k_ e_.symm)) (fun hn_ => (Kd.fresh' (Kd.R_lt (by (with_reducible repeat (first | apply Kd.R_alloc | apply Kd.R_drewN | apply Kd.R_drew)); exact HO_9.out)) k_ hn_)), Or.elim hk_ (fun hs_ => fun e_ => Nat.not_le.2 hs_ (Kd.R_base HO423.out k_ e_.symm)) (fun hn_ => (Kd.fresh' (Kd.R_lt (by (with_reducible repeat (first | apply Kd.R_alloc | apply Kd.R_drewN | apply Kd.R_drew)); exact HO423.out)) k_ hn_)), Or.elim hk_ (fun hs_ => fun e_ => Nat.not_le.2 hs_ (Kd.R_base HO435.out k_ e_.symm)) (fun hn_ => (Kd.fresh' (Kd.R_lt (by (with_reducible repeat (first | apply Kd.R_alloc | apply Kd.R_drewN | apply Kd.R_drew)); exact HO435.out)) k_ hn_)), Or.elim hk_ (fun hs_ => fun e_ => Nat.not_le.2 hs_ (Kd.R_base HO442.out k_ e_.symm)) (fun hn_ => (Kd.fresh' (Kd.R_lt (by (with_reducible repeat (first | apply Kd.R_alloc | apply Kd.R_drewN | apply Kd.R_drew)); exact HO442.out)) k_ hn_)), Or.elim hk_ (fun hs_ => fun e_ => Nat.not_le.2 hs_ (Kd.R_base HO448.out k_ e_.symm)) (fun hn_ => (Kd.fresh' (Kd.R_lt (by (with_reducible repeat (first | apply Kd.R_alloc | apply Kd.R_drewN | apply Kd.R_drew)); exact HO448.out)) k_ hn_))⟩)) (below_size (by repeat (first | (with_reducible first | exact HB.out | apply below_alloc | apply pw_below_drewN | apply below_drew1) | exact HB.out)))); have n7_ := Aside0.mk (below_step (by repeat (first | (with_reducible first | exact HB.out | apply below_alloc | apply pw_below_drewN | apply below_drew1) | exact HB.out)) hb); clear HO_9; clear HO423; clear HO432; clear HO435; clear HO442; clear HO448; clear HB; have HO_9 := n0_; have HO423 := n1_; have HO432 := n2_; have HO435 := n3_; have HO442 := n4_; have HO448 := n5_; have HO451 := n6_; have HB := n7_; clear n0_ n1_ n2_ n3_ n4_ n5_ n6_ n7_; (try clear hb); (try clear hb2); (try clear hk); (try clear hi); (try clear ho0); obtain ⟨Ao48, co48, eo48⟩ := Kd.V_slice HO451.out; subst eo48) | ((with_reducible refine gate_builtin (b := .append) (xs := #[.tmp 84, .tmp 86]) rfl ?_); (try (refine gate_guard (by rfl) ?_; dsimp only)); at_builtin; refine Kd.R_append_rows (Kd.int .u8) (w0 := w) w.heap.size rfl (.tmp 84) (.tmp 86) 32 5 (.int .u8 0) 1 rfl Tryd.underlying32 info5 rfl (by decide) (by omega) v447 y446 t449 _ _ _ (fun k_ => some k_ ≠ (.slice Ao34 t420.length co34 : Value).ownBlock ∧ some k_ ≠ (.slice Ao38 y433.length co38 : Value).ownBlock ∧ some k_ ≠ (.slice Ao45 t439.length co45 : Value).ownBlock) (fun _ => False) rfl rfl ?aO ?aR (fun _ _ h => h) (fun _ h => h.elim) ?aF ?aB ?aS ?aL ?_; (case aR => repeat (first | exact (Kd.V_reads' HO451.out).2.2 | (with_reducible refine Kd.C_alloc ?_ _) | (with_reducible refine Kd.C_drewN ?_ _) | (with_reducible refine Kd.C_drew ?_))); (case aB => exact (by repeat (first | (with_reducible first | exact HB.out | apply below_alloc | apply pw_below_drewN | apply below_drew1) | exact HB.out))); (case aF => exact (fun k_ hk => ⟨Kd.fresh' (Kd.R_lt (by (with_reducible repeat (first | apply Kd.R_alloc | apply Kd.R_drewN | apply Kd.R_drew)); exact HO423.out)) k_ hk, Kd.fresh' (Kd.R_lt (by (with_reducible repeat (first | apply Kd.R_alloc | apply Kd.R_drewN | apply Kd.R_drew)); exact HO435.out)) k_ hk, Kd.fresh' (Kd.R_lt (by (with_reducible repeat (first | apply Kd.R_alloc | apply Kd.R_drewN | apply Kd.R_drew)); exact HO442.out)) k_ hk⟩)); (case aO => exact (by (with_reducible repeat (first | apply Kd.R_alloc | apply Kd.R_drewN | apply Kd.R_drew)); exact HO448.out)); (case aS => exact (below_size (by repeat (first | (with_reducible first | exact HB.out | apply below_alloc | apply pw_below_drewN | apply below_drew1) | exact HB.out)))); (case aL => have := LMc27.out; omega); intro v453 w47 ho hb hg hat; rw [← Ny452.out] at ho; have n0_ := Aside0.mk (Kd.R_over' (by (with_reducible repeat (first | apply Kd.R_alloc | apply Kd.R_drewN | apply Kd.R_drew)); exact HO_9.out) (Kd.R_typed (by (with_reducible repeat (first | apply Kd.R_alloc | apply Kd.R_drewN | apply Kd.R_drew)); exact HO448.out)) (by decide) hg); have n1_ := Aside0.mk (Kd.R_after (ok := (fun k_ => some k_ ≠ (.slice Ao38 y433.length co38 : Value).ownBlock ∧ some k_ ≠ (.slice Ao45 t439.length co45 : Value).ownBlock)) (by (with_reducible repeat (first | apply Kd.R_alloc | apply Kd.R_drewN | apply Kd.R_drew)); exact HO423.out) hg hat); have n2_ := Aside0.mk (Kd.V_afterv (ok := (fun k_ => some k_ ≠ (.slice Ao40 x9_8.length co40 : Value).ownBlock ∧ some k_ ≠ (.slice Ao34 t420.length co34 : Value).ownBlock ∧ some k_ ≠ (.slice Ao38 y433.length co38 : Value).ownBlock ∧ some k_ ≠ (.slice Ao45 t439.length co45 : Value).ownBlock)) (by (with_reducible repeat (first | apply Kd.V_alloc | apply Kd.V_drewN | apply Kd.V_drew)); exact HO432.out) hg hat); have n3_ := Aside0.mk (Kd.R_after (ok := (fun k_ => some k_ ≠ (.slice Ao34 t420.length co34 : Value).ownBlock ∧ some k_ ≠ (.slice Ao45 t439.length co45 : Value).ownBlock)) (by (with_reducible repeat (first | apply Kd.R_alloc | apply Kd.R_drewN | apply Kd.R_drew)); exact HO435.out) hg hat); have n4_ := Aside0.mk (Kd.R_after (ok := (fun k_ => some k_ ≠ (.slice Ao34 t420.length co34 : Value).ownBlock ∧ some k_ ≠ (.slice Ao38 y433.length co38 : Value).ownBlock)) (by (with_reducible repeat (first | apply Kd.R_alloc | apply Kd.R_drewN | apply Kd.R_drew)); exact HO442.out) hg hat); have n5_ := Aside0.mk (Kd.V_afterv (ok := (fun k_ => some k_ ≠ (.slice Ao40 x9_8.length co40 : Value).ownBlock ∧ some k_ ≠ (.slice Ao34 t420.length co34 : Value).ownBlock ∧ some k_ ≠ (.slice Ao38 y433.length co38 : Value).ownBlock ∧ some k_ ≠ (.slice Ao45 t439.length co45 : Value).ownBlock)) (by (with_reducible repeat (first | apply Kd.V_alloc | apply Kd.V_drewN | apply Kd.V_drew)); exact Kd.V_mono HO451.out (fun _ hk => ⟨⟨hk.1, ⟨hk.2.1, ⟨hk.2.2.1, hk.2.2.2.1⟩⟩⟩, hk.2.2.2.2⟩)) hg hat); have n6_ := Aside0.mk (hb); have n7_ := Aside0.mk (ho); clear HO_9; clear HO423; clear HO432; clear HO435; clear HO442; clear HO451; clear HB; clear HO448; have HO_9 := n0_; have HO423 := n1_; have HO432 := n2_; have HO435 := n3_; have HO442 := n4_; have HO451 := n5_; have HB := n6_; have HO454 := n7_; clear n0_ n1_ n2_ n3_ n4_ n5_ n6_ n7_; clear ho hb hg hat; obtain ⟨Ao49, co49, eo49⟩ := Kd.R_slice HO454.out; subst eo49) | ((with_reducible refine gate_callee (f := 29) rfl ?_); refine goesL_ (some 88) rfl rfl Tryd.func29 (by kernel_rfl) rfl #[.slice Ao49 y452.length co49] rfl (by (try simp only [List.map_toArray, List.map_cons, List.map_nil]); first | done | rfl | (simp only [List.length_drop, List.length_take]; rfl)) ?_; (with_reducible refine (snap_TakeRow.calls kj8 _ _ y452 t455 t456 t457 _ ?side1 ?side2 A28.out).mono ?_); (case side1 => repeat (first | exact (Kd.R_reads' HO454.out).2.2 | (with_reducible refine Kd.C_alloc ?_ _) | (with_reducible refine Kd.C_drewN ?_ _) | (with_reducible refine Kd.C_drew ?_))); (case side2 => exact (Kd.R_reads' HO454.out).2.1); rintro e w50 ⟨v458, rfl, ho0, hb⟩; refine ⟨_, rfl, ?_⟩; have n0_ := Aside0.mk (Kd.R_elder' (by (with_reducible repeat (first | apply Kd.R_alloc | apply Kd.R_drewN | apply Kd.R_drew)); exact HO_9.out) (Kd.R_base ho0) hb); have n1_ := Aside0.mk (Kd.R_below (by (with_reducible repeat (first | apply Kd.R_alloc | apply Kd.R_drewN | apply Kd.R_drew)); exact HO423.out) hb); have n2_ := Aside0.mk (Kd.V_elder' (by (with_reducible repeat (first | apply Kd.V_alloc | apply Kd.V_drewN | apply Kd.V_drew)); exact HO432.out) (Kd.R_base ho0) hb); have n3_ := Aside0.mk (Kd.R_below (by (with_reducible repeat (first | apply Kd.R_alloc | apply Kd.R_drewN | apply Kd.R_drew)); exact HO435.out) hb); have n4_ := Aside0.mk (Kd.R_below (by (with_reducible repeat (first | apply Kd.R_alloc | apply Kd.R_drewN | apply Kd.R_drew)); exact HO442.out) hb); have n5_ := Aside0.mk (Kd.V_elder' (by (with_reducible repeat (first | apply Kd.V_alloc | apply Kd.V_drewN | apply Kd.V_drew)); exact HO451.out) (Kd.R_base ho0) hb); have n6_ := Aside0.mk (Kd.R_below (by (with_reducible repeat (first | apply Kd.R_alloc | apply Kd.R_drewN | apply Kd.R_drew)); exact HO454.out) hb); have n7_ := Aside0.mk (Kd.R_lower (Kd.R_new' ho0 (Kd.R_lt (by (with_reducible repeat (first | apply Kd.R_alloc | apply Kd.R_drewN | apply Kd.R_drew)); exact HO_9.out))) (below_size (by repeat (first | (with_reducible first | exact HB.out | apply below_alloc | apply pw_below_drewN | apply below_drew1) | exact HB.out)))); have n8_ := Aside0.mk (below_step (by repeat (first | (with_reducible first | exact HB.out | apply below_alloc | apply pw_below_drewN | apply below_drew1) | exact HB.out)) hb); clear HO_9; clear HO423; clear HO432; clear HO435; clear HO442; clear HO451; clear HO454; clear HB; have HO_9 := n0_; have HO423 := n1_; have HO432 := n2_; have HO435 := n3_; have HO442 := n4_; have HO451 := n5_; have HO454 := n6_; have HO459 := n7_; have HB := n8_; clear n0_ n1_ n2_ n3_ n4_ n5_ n6_ n7_ n8_; (try clear hb); (try clear hb2); (try clear hk); (try clear hi); (try clear ho0)))
                  (try simp only [Act.put, List.setIfInBounds_toArray, List.set_cons_zero, List.set_cons_succ])
                  go_cut [120] (fun v120 wc => ∃ (kq : Nat) (x120_28 : Bool), v120 = .bool x120_28 ∧ Aside0 (epitomelaw15_SnapBack.j2 kq x9_8 t420 t439 t440 t455 t456 t457 x120_28 = some r) ∧ Aside0 (kq ≤ kj8) ∧ Aside0 (Kd.R (Kd.int .i64) 3 wc w.heap.size (fun k_ => some k_ ≠ (v458 : Value).ownBlock) (.slice Ao40 x9_8.length co40) x9_8) ∧ Aside0 (Kd.R (Kd.int .u8) 5 wc w.heap.size (fun k_ => some k_ ≠ ((.slice Ao45 t439.length co45) : Value).ownBlock) (.slice Ao34 t420.length co34) t420) ∧ Aside0 (Kd.R (Kd.int .u8) 5 wc w.heap.size (fun k_ => some k_ ≠ ((.slice Ao34 t420.length co34) : Value).ownBlock) (.slice Ao45 t439.length co45) t439) ∧ Aside0 (Kd.R (Kd.int .i64) 3 wc w.heap.size (fun k_ => some k_ ≠ ((.slice Ao40 x9_8.length co40) : Value).ownBlock) v458 t455) ∧ Aside0 (Below w.heap.size w wc))
                  case first =>
                    have H := HC29.out
                    clear HC29
                    by_cases c51 : t411 = true
                    · subst c51
                      have H1 : (if t421 = 0 then (if t438 = 0 then (if t436.toList = t412.toList then (if t437 = (t420.length : Int) then (epitomelaw15_SnapBack.j2 kj8 x9_8 t420 t439 t440 t455 t456 t457 ((t440 == 0) != (decide ((x9_8.length : Int) > 0)))) else (epitomelaw15_SnapBack.j2 kj8 x9_8 t420 t439 t440 t455 t456 t457 true)) else (epitomelaw15_SnapBack.j2 kj8 x9_8 t420 t439 t440 t455 t456 t457 true)) else (epitomelaw15_SnapBack.j2 kj8 x9_8 t420 t439 t440 t455 t456 t457 true)) else (epitomelaw15_SnapBack.j2 kj8 x9_8 t420 t439 t440 t455 t456 t457 true)) = some r := by rw [if_pos rfl] at H; exact H
                      clear H
                      have H := H1
                      clear H1
                      by_cases c52 : t421 = 0
                      · rw [if_pos c52] at H
                        have c52b0 : (t421 == 0) = true := beq_iff_eq.mpr c52
                        have c52b1 : (t421 != 0) = false := bne_eq_false_iff_eq.mpr c52
                        clear c52
                        (first | rw [c52b0] | (simp only [i64_w, i32_w]; rw [c52b0]) | skip)
                        by_cases c53 : t438 = 0
                        · rw [if_pos c53] at H
                          have c53b0 : (t438 == 0) = true := beq_iff_eq.mpr c53
                          have c53b1 : (t438 != 0) = false := bne_eq_false_iff_eq.mpr c53
                          clear c53
                          by_cases c54 : t436.toList = t412.toList
                          · rw [if_pos c54] at H
                            have c54b0 : (t436.toList == t412.toList) = true := beq_iff_eq.mpr c54
                            have c54b1 : (t436.toList != t412.toList) = false := bne_eq_false_iff_eq.mpr c54
                            clear c54
                            by_cases c55 : t437 = (t420.length : Int)
                            · rw [if_pos c55] at H
                              have c55b0 : (t437 == (t420.length : Int)) = true := beq_iff_eq.mpr c55
                              have c55b1 : (t437 != (t420.length : Int)) = false := bne_eq_false_iff_eq.mpr c55
                              clear c55
                              have H' := Aside0.mk H
                              clear H
                              go_wp2
                              go_meet
                              case rel => exact ⟨_, (((t440 == 0) != (decide ((x9_8.length : Int) > 0)))), (by first | rfl | (simp; done) | (simp [*]; done) | (simp [bne]; done)), H', ⟨by have := HJ8.out; first | omega | exact Nat.le_refl _⟩, ⟨by (with_reducible repeat (first | apply Kd.R_alloc | apply Kd.R_drewN | apply Kd.R_drew)); exact Kd.R_mono HO_9.out (fun _ hk => hk.2)⟩, ⟨by (with_reducible repeat (first | apply Kd.R_alloc | apply Kd.R_drewN | apply Kd.R_drew)); exact Kd.R_mono HO423.out (fun _ hk => hk.1.2)⟩, ⟨by (with_reducible repeat (first | apply Kd.R_alloc | apply Kd.R_drewN | apply Kd.R_drew)); exact Kd.R_mono HO442.out (fun _ hk => hk.1.1)⟩, ⟨by (with_reducible repeat (first | apply Kd.R_alloc | apply Kd.R_drewN | apply Kd.R_drew)); exact Kd.R_mono HO459.out (fun _ hk => hk.2)⟩, ⟨by repeat (first | (with_reducible first | exact HB.out | apply below_alloc | apply pw_below_drewN | apply below_drew1) | exact HB.out)⟩⟩
                            · rw [if_neg c55] at H
                              have c55b0 : (t437 == (t420.length : Int)) = false := beq_eq_false_iff_ne.mpr c55
                              have c55b1 : (t437 != (t420.length : Int)) = true := bne_iff_ne.mpr c55
                              have H' := Aside0.mk H
                              clear H
                              go_wp2
                              go_meet
                              case rel => exact ⟨_, (true), (by first | rfl | (simp; done) | (simp [*]; done)), H', ⟨by have := HJ8.out; first | omega | exact Nat.le_refl _⟩, ⟨by (with_reducible repeat (first | apply Kd.R_alloc | apply Kd.R_drewN | apply Kd.R_drew)); exact Kd.R_mono HO_9.out (fun _ hk => hk.2)⟩, ⟨by (with_reducible repeat (first | apply Kd.R_alloc | apply Kd.R_drewN | apply Kd.R_drew)); exact Kd.R_mono HO423.out (fun _ hk => hk.1.2)⟩, ⟨by (with_reducible repeat (first | apply Kd.R_alloc | apply Kd.R_drewN | apply Kd.R_drew)); exact Kd.R_mono HO442.out (fun _ hk => hk.1.1)⟩, ⟨by (with_reducible repeat (first | apply Kd.R_alloc | apply Kd.R_drewN | apply Kd.R_drew)); exact Kd.R_mono HO459.out (fun _ hk => hk.2)⟩, ⟨by repeat (first | (with_reducible first | exact HB.out | apply below_alloc | apply pw_below_drewN | apply below_drew1) | exact HB.out)⟩⟩
                          · rw [if_neg c54] at H
                            have c54b0 : (t436.toList == t412.toList) = false := beq_eq_false_iff_ne.mpr c54
                            have c54b1 : (t436.toList != t412.toList) = true := bne_iff_ne.mpr c54
                            have H' := Aside0.mk H
                            clear H
                            go_wp2
                            go_meet
                            case rel => exact ⟨_, (true), (by first | rfl | (simp; done) | (simp [*]; done)), H', ⟨by have := HJ8.out; first | omega | exact Nat.le_refl _⟩, ⟨by (with_reducible repeat (first | apply Kd.R_alloc | apply Kd.R_drewN | apply Kd.R_drew)); exact Kd.R_mono HO_9.out (fun _ hk => hk.2)⟩, ⟨by (with_reducible repeat (first | apply Kd.R_alloc | apply Kd.R_drewN | apply Kd.R_drew)); exact Kd.R_mono HO423.out (fun _ hk => hk.1.2)⟩, ⟨by (with_reducible repeat (first | apply Kd.R_alloc | apply Kd.R_drewN | apply Kd.R_drew)); exact Kd.R_mono HO442.out (fun _ hk => hk.1.1)⟩, ⟨by (with_reducible repeat (first | apply Kd.R_alloc | apply Kd.R_drewN | apply Kd.R_drew)); exact Kd.R_mono HO459.out (fun _ hk => hk.2)⟩, ⟨by repeat (first | (with_reducible first | exact HB.out | apply below_alloc | apply pw_below_drewN | apply below_drew1) | exact HB.out)⟩⟩
                        · rw [if_neg c53] at H
                          have c53b0 : (t438 == 0) = false := beq_eq_false_iff_ne.mpr c53
                          have c53b1 : (t438 != 0) = true := bne_iff_ne.mpr c53
                          have H' := Aside0.mk H
                          clear H
                          go_wp2
                          go_meet
                          case rel => exact ⟨_, (true), (by first | rfl | (simp; done) | (simp [*]; done)), H', ⟨by have := HJ8.out; first | omega | exact Nat.le_refl _⟩, ⟨by (with_reducible repeat (first | apply Kd.R_alloc | apply Kd.R_drewN | apply Kd.R_drew)); exact Kd.R_mono HO_9.out (fun _ hk => hk.2)⟩, ⟨by (with_reducible repeat (first | apply Kd.R_alloc | apply Kd.R_drewN | apply Kd.R_drew)); exact Kd.R_mono HO423.out (fun _ hk => hk.1.2)⟩, ⟨by (with_reducible repeat (first | apply Kd.R_alloc | apply Kd.R_drewN | apply Kd.R_drew)); exact Kd.R_mono HO442.out (fun _ hk => hk.1.1)⟩, ⟨by (with_reducible repeat (first | apply Kd.R_alloc | apply Kd.R_drewN | apply Kd.R_drew)); exact Kd.R_mono HO459.out (fun _ hk => hk.2)⟩, ⟨by repeat (first | (with_reducible first | exact HB.out | apply below_alloc | apply pw_below_drewN | apply below_drew1) | exact HB.out)⟩⟩
                      · rw [if_neg c52] at H
                        have c52b0 : (t421 == 0) = false := beq_eq_false_iff_ne.mpr c52
                        have c52b1 : (t421 != 0) = true := bne_iff_ne.mpr c52
                        (first | rw [c52b0] | (simp only [i64_w, i32_w]; rw [c52b0]) | skip)
                        have H' := Aside0.mk H
                        clear H
                        go_wp2
                        go_meet
                        case rel => exact ⟨_, (true), (by first | rfl | (simp; done) | (simp [*]; done)), H', ⟨by have := HJ8.out; first | omega | exact Nat.le_refl _⟩, ⟨by (with_reducible repeat (first | apply Kd.R_alloc | apply Kd.R_drewN | apply Kd.R_drew)); exact Kd.R_mono HO_9.out (fun _ hk => hk.2)⟩, ⟨by (with_reducible repeat (first | apply Kd.R_alloc | apply Kd.R_drewN | apply Kd.R_drew)); exact Kd.R_mono HO423.out (fun _ hk => hk.1.2)⟩, ⟨by (with_reducible repeat (first | apply Kd.R_alloc | apply Kd.R_drewN | apply Kd.R_drew)); exact Kd.R_mono HO442.out (fun _ hk => hk.1.1)⟩, ⟨by (with_reducible repeat (first | apply Kd.R_alloc | apply Kd.R_drewN | apply Kd.R_drew)); exact Kd.R_mono HO459.out (fun _ hk => hk.2)⟩, ⟨by repeat (first | (with_reducible first | exact HB.out | apply below_alloc | apply pw_below_drewN | apply below_drew1) | exact HB.out)⟩⟩
                    · replace c51 := Bool.eq_false_iff.mpr c51
                      subst c51
                      have H1 : (epitomelaw15_SnapBack.j2 kj8 x9_8 t420 t439 t440 t455 t456 t457 true) = some r := by rw [if_neg (show ¬ (false = true) by decide)] at H; exact H
                      clear H
                      have H := H1
                      clear H1
                      have H' := Aside0.mk H
                      clear H
                      go_wp2
                      go_meet
                      case rel => exact ⟨_, (true), (by first | rfl | (simp; done) | (simp [*]; done)), H', ⟨by have := HJ8.out; first | omega | exact Nat.le_refl _⟩, ⟨by (with_reducible repeat (first | apply Kd.R_alloc | apply Kd.R_drewN | apply Kd.R_drew)); exact Kd.R_mono HO_9.out (fun _ hk => hk.2)⟩, ⟨by (with_reducible repeat (first | apply Kd.R_alloc | apply Kd.R_drewN | apply Kd.R_drew)); exact Kd.R_mono HO423.out (fun _ hk => hk.1.2)⟩, ⟨by (with_reducible repeat (first | apply Kd.R_alloc | apply Kd.R_drewN | apply Kd.R_drew)); exact Kd.R_mono HO442.out (fun _ hk => hk.1.1)⟩, ⟨by (with_reducible repeat (first | apply Kd.R_alloc | apply Kd.R_drewN | apply Kd.R_drew)); exact Kd.R_mono HO459.out (fun _ hk => hk.2)⟩, ⟨by repeat (first | (with_reducible first | exact HB.out | apply below_alloc | apply pw_below_drewN | apply below_drew1) | exact HB.out)⟩⟩
                  case rest =>
                    clear HC29
                    try clear c1
                    try clear c2
                    try clear p2
                    try clear c3
                    try clear p4
                    try clear q4
                    try clear hx4
                    try clear c5
                    try clear c6
                    try clear c6b0
                    try clear c6b1
                    try clear p6
                    try clear c7
                    try clear c7b0
                    try clear c7b1
                    try clear c12
                    try clear c14
                    try clear c14b0
                    try clear c15
                    try clear c15b0
                    try clear c16
                    try clear c16b0
                    try clear c17
                    try clear c20
                    try clear c22
                    try clear c25
                    try clear c26
                    try clear c27
                    try clear c29
                    try clear c30
                    try clear c33
                    try clear c35
                    try clear p41
                    try clear q41
                    try clear hx41
                    try clear c51
                    try clear c52
                    try clear c52b0
                    try clear c52b1
                    try clear c53
                    try clear c53b0
                    try clear c53b1
                    try clear c54
                    try clear c54b0
                    try clear c54b1
                    try clear c55
                    try clear c55b0
                    try clear c55b1
                    try clear hx416_0
                    try clear p2
                    try clear p4
                    try clear p416
                    try clear p6
                    try clear q4
                    try clear q416
                    obtain ⟨kq, x120_28, rfl, HA, HJ28, HO_9, HO_12, HO_17, HO_19, HB⟩ := hcut
                    cases kq with
                    | zero => exact absurd HA.out (by simp [epitomelaw15_SnapBack.j2])
                    | succ kj28 =>
                      have H := HA.out
                      clear HA
                      simp only [epitomelaw15_SnapBack.j2] at H
                      by_cases c56 : x120_28 = true
                      · subst c56
                        have H1 : (some false) = some r := by rw [if_pos rfl] at H; exact H
                        clear H
                        have H := H1
                        clear H1
                        obtain rfl := Option.some.inj H
                        exact absurd HLAW.out (by decide)
                      · replace c56 := Bool.eq_false_iff.mpr c56
                        subst c56
                        have H1 : (epitomelaw15_SnapBack.l1 kj28 x9_8 t420 t439 t440 t455 t456 t457 0) = some r := by rw [if_neg (show ¬ (false = true) by decide)] at H; exact H
                        clear H
                        have H := H1
                        clear H1
                        have H' := Aside0.mk H
                        clear H
                        go_wp2
                        go_loopg [22] kj28 (fun kq v22 w' => ∃ (x22_3 : Int), v22 = .int .i64 x22_3 ∧ Aside0 (epitomelaw15_SnapBack.l1 kq x9_8 t420 t439 t440 t455 t456 t457 x22_3 = some r) ∧ Aside0 (kq ≤ kj28) ∧ Aside0 (Kd.R (Kd.int .i64) 3 w' w.heap.size (fun k_ => some k_ ≠ (v458 : Value).ownBlock) (.slice Ao40 x9_8.length co40) x9_8) ∧ Aside0 (Kd.R (Kd.int .u8) 5 w' w.heap.size (fun k_ => some k_ ≠ ((.slice Ao45 t439.length co45) : Value).ownBlock) (.slice Ao34 t420.length co34) t420) ∧ Aside0 (Kd.R (Kd.int .u8) 5 w' w.heap.size (fun k_ => some k_ ≠ ((.slice Ao34 t420.length co34) : Value).ownBlock) (.slice Ao45 t439.length co45) t439) ∧ Aside0 (Kd.R (Kd.int .i64) 3 w' w.heap.size (fun k_ => some k_ ≠ ((.slice Ao40 x9_8.length co40) : Value).ownBlock) v458 t455) ∧ Aside0 (Below w.heap.size w w'))
                        case atStart => exact ⟨(0), (by first | rfl | (simp; done) | (simp [*]; done)), H', ⟨Nat.le_refl _⟩, ⟨by (with_reducible repeat (first | apply Kd.R_alloc | apply Kd.R_drewN | apply Kd.R_drew)); exact HO_9.out⟩, ⟨by (with_reducible repeat (first | apply Kd.R_alloc | apply Kd.R_drewN | apply Kd.R_drew)); exact HO_12.out⟩, ⟨by (with_reducible repeat (first | apply Kd.R_alloc | apply Kd.R_drewN | apply Kd.R_drew)); exact HO_17.out⟩, ⟨by (with_reducible repeat (first | apply Kd.R_alloc | apply Kd.R_drewN | apply Kd.R_drew)); exact HO_19.out⟩, ⟨by repeat (first | (with_reducible first | exact HB.out | apply below_alloc | apply pw_below_drewN | apply below_drew1) | exact HB.out)⟩⟩
                        case round =>
                          clear H'
                          try clear c1
                          try clear c2
                          try clear p2
                          try clear c3
                          try clear p4
                          try clear q4
                          try clear hx4
                          try clear c5
                          try clear c6
                          try clear c6b0
                          try clear c6b1
                          try clear p6
                          try clear c7
                          try clear c7b0
                          try clear c7b1
                          try clear c12
                          try clear c14
                          try clear c14b0
                          try clear c15
                          try clear c15b0
                          try clear c16
                          try clear c16b0
                          try clear c17
                          try clear c20
                          try clear c22
                          try clear c25
                          try clear c26
                          try clear c27
                          try clear c29
                          try clear c30
                          try clear c33
                          try clear c35
                          try clear p41
                          try clear q41
                          try clear hx41
                          try clear c51
                          try clear c52
                          try clear c52b0
                          try clear c52b1
                          try clear c53
                          try clear c53b0
                          try clear c53b1
                          try clear c54
                          try clear c54b0
                          try clear c54b1
                          try clear c55
                          try clear c55b0
                          try clear c55b1
                          try clear c56
                          try clear hx416_0
                          try clear p2
                          try clear p4
                          try clear p41
                          try clear p416
                          try clear p6
                          try clear q4
                          try clear q41
                          try clear q416
                          obtain ⟨x22_3, rfl, HA, HK3, HO_9, HO_12, HO_17, HO_19, HB⟩ := hrel
                          cases gk with
                          | zero => exact absurd HA.out (by simp [epitomelaw15_SnapBack.l1])
                          | succ k3 =>
                            have H := HA.out
                            clear HA
                            simp only [epitomelaw15_SnapBack.l1] at H
                            by_cases c57 : x22_3 < (t420.length : Int)
                            · rw [if_pos c57] at H
                              have c57b0 : decide (x22_3 < (t420.length : Int)) = true := decide_eq_true c57
                              clear c57
                              by_cases c58 : 0 ≤ x22_3
                              · rw [if_pos c58] at H
                                have c58b0 := eq_true c58
                                have c58b1 : decide (0 ≤ x22_3) = true := decide_eq_true c58
                                clear c58
                                by_cases c59 : x22_3 ≤ (t420.length : Int)
                                · rw [if_pos c59] at H
                                  have c59b0 := eq_true c59
                                  have c59b1 : decide (x22_3 ≤ (t420.length : Int)) = true := decide_eq_true c59
                                  clear c59
                                  obtain ⟨y460, hy460⟩ : ∃ y_ : List Int, y_ = (t420.take (x22_3 : Int).toNat) := ⟨_, rfl⟩
                                  replace H : ((snap_Take.f k3 y460).bind fun bt464 => (if bt464.2.2 = 7 then (epitomelaw15_SnapBack.l1 k3 x9_8 t420 t439 t440 t455 t456 t457 (wrap64 (x22_3 + 1))) else (some false))) = some r := by first | (rw [hy460]; with_reducible exact H) | (have H2_ := (Option.bind_some _ _).symm.trans H; rw [hy460]; with_reducible exact H2_) | (have H2_ := (Option.bind_some _ _).symm.trans H; with_reducible exact H2_) | with_reducible exact H | (rw [hy460]; exact H) | exact H
                                  have Ny460 := Aside0.mk hy460
                                  clear hy460
                                  replace H := Option.bind_eq_some_iff.mp H
                                  obtain ⟨⟨t464, t465, t466⟩, A600, H⟩ := H
                                  replace H : (if t466 = 7 then (epitomelaw15_SnapBack.l1 k3 x9_8 t420 t439 t440 t455 t456 t457 (wrap64 (x22_3 + 1))) else (some false)) = some r := H
                                  have A60 := Aside0.mk A600
                                  clear A600
                                  by_cases c61 : t466 = 7
                                  · rw [if_pos c61] at H
                                    have c61b0 : (t466 == 7) = true := beq_iff_eq.mpr c61
                                    have c61b1 : (t466 != 7) = false := bne_eq_false_iff_eq.mpr c61
                                    clear c61
                                    have H' := Aside0.mk H
                                    clear H
                                    have q62 : (x22_3 : Int) ≤ ((t420.length : Int) : Int) := of_decide_eq_true (by first | (with_reducible assumption) | assumption)
                                    obtain ⟨i062, hi062, _, hsz62, _⟩ := info_parts info5
                                    have hroom62 : t420.length ≤ co34 := (Kd.R_reads' HO_12.out).2.1
                                    have hC62 : Kd.C (Kd.int .u8) _ Ao34 t420.length t420 := (Kd.R_reads' HO_12.out).2.2
                                    have hcut62 := cut_to (P := Tryd.prog) 32 5 .i64 Tryd.underlying32 hi062 Ao34 t420.length co34 x22_3 (of_decide_eq_true (by first | (with_reducible assumption) | assumption)) q62 hroom62
                                    have hr62 := Kd.C_take (m := (x22_3 : Int).toNat) hC62 (by omega)
                                    have hy62 : y460.length = (x22_3 : Int).toNat := (by rw [Ny460.out, List.length_take]; omega)
                                    rw [← Ny460.out] at hr62
                                    rw [← hy62] at hcut62
                                    have HR463 := Aside0.mk hr62
                                    have HC463 := Aside0.mk (show y460.length ≤ co34 from by omega)
                                    clear hr62 hC62 hroom62 hi062 hsz62
                                    have KY62 := Aside0.mk hy62
                                    clear hy62
                                    have KL62 := Aside0.mk (show (x22_3 : Int).toNat ≤ t420.length from by omega)
                                    replace q62 := eq_true q62
                                    go_wp2_with (first | ((with_reducible refine gate_callee (f := 35) rfl ?_); refine goesL_ (some 131) rfl rfl Tryd.func35 (by kernel_rfl) rfl #[.slice Ao34 y460.length co34] rfl (by (try simp only [List.map_toArray, List.map_cons, List.map_nil]); first | done | rfl | (simp only [List.length_drop, List.length_take]; rfl)) ?_; (with_reducible refine (snap_Take.calls k3 _ _ y460 t464 t465 t466 _ ?side1 ?side2 ?side3 A60.out).mono ?_); (case side1 => repeat (first | exact (by repeat (first | (with_reducible exact HR463.out) | (with_reducible refine Kd.C_alloc ?_ _) | (with_reducible refine Kd.C_drewN ?_ _) | (with_reducible refine Kd.C_drew ?_) | exact HR463.out)) | (with_reducible refine Kd.C_alloc ?_ _) | (with_reducible refine Kd.C_drewN ?_ _) | (with_reducible refine Kd.C_drew ?_))); (case side2 => exact HC463.out); (case side3 => exact Tabs.below HT.out (by repeat (first | (with_reducible first | exact HB.out | apply below_alloc | apply pw_below_drewN | apply below_drew1) | exact HB.out))); rintro e w63 ⟨rfl, hb⟩; refine ⟨_, rfl, ?_⟩; have n0_ := Aside0.mk (Kd.R_below (by (with_reducible repeat (first | apply Kd.R_alloc | apply Kd.R_drewN | apply Kd.R_drew)); exact HO_9.out) hb); have n1_ := Aside0.mk (Kd.R_below (by (with_reducible repeat (first | apply Kd.R_alloc | apply Kd.R_drewN | apply Kd.R_drew)); exact HO_12.out) hb); have n2_ := Aside0.mk (Kd.R_below (by (with_reducible repeat (first | apply Kd.R_alloc | apply Kd.R_drewN | apply Kd.R_drew)); exact HO_17.out) hb); have n3_ := Aside0.mk (Kd.R_below (by (with_reducible repeat (first | apply Kd.R_alloc | apply Kd.R_drewN | apply Kd.R_drew)); exact HO_19.out) hb); have n4_ := Aside0.mk (Kd.C_below (by repeat (first | (with_reducible exact HR463.out) | (with_reducible refine Kd.C_alloc ?_ _) | (with_reducible refine Kd.C_drewN ?_ _) | (with_reducible refine Kd.C_drew ?_) | exact HR463.out)) hb); have n5_ := Aside0.mk (below_step (by repeat (first | (with_reducible first | exact HB.out | apply below_alloc | apply pw_below_drewN | apply below_drew1) | exact HB.out)) hb); clear HO_9; clear HO_12; clear HO_17; clear HO_19; clear HR463; clear HB; have HO_9 := n0_; have HO_12 := n1_; have HO_17 := n2_; have HO_19 := n3_; have HR463 := n4_; have HB := n5_; clear n0_ n1_ n2_ n3_ n4_ n5_; (try clear hb); (try clear hb2); (try clear hk); (try clear hi)))
                                    go_roundg k3
                                    case measure => have := HJ8.out; have := HJ28.out; have := HK3.out; omega
                                    case rel => exact ⟨(wrap64 (x22_3 + 1)), (by first | rfl | (simp; done) | (simp [*]; done)), H', ⟨by have := HJ8.out; have := HJ28.out; have := HK3.out; omega⟩, ⟨by (with_reducible repeat (first | apply Kd.R_alloc | apply Kd.R_drewN | apply Kd.R_drew)); exact HO_9.out⟩, ⟨by (with_reducible repeat (first | apply Kd.R_alloc | apply Kd.R_drewN | apply Kd.R_drew)); exact HO_12.out⟩, ⟨by (with_reducible repeat (first | apply Kd.R_alloc | apply Kd.R_drewN | apply Kd.R_drew)); exact HO_17.out⟩, ⟨by (with_reducible repeat (first | apply Kd.R_alloc | apply Kd.R_drewN | apply Kd.R_drew)); exact HO_19.out⟩, ⟨by repeat (first | (with_reducible first | exact HB.out | apply below_alloc | apply pw_below_drewN | apply below_drew1) | exact HB.out)⟩⟩
                                  · rw [if_neg c61] at H
                                    have c61b0 : (t466 == 7) = false := beq_eq_false_iff_ne.mpr c61
                                    have c61b1 : (t466 != 7) = true := bne_iff_ne.mpr c61
                                    obtain rfl := Option.some.inj H
                                    exact absurd HLAW.out (by decide)
                                · rw [if_neg c59] at H
                                  exact absurd H (by simp)
                              · rw [if_neg c58] at H
                                exact absurd H (by simp)
                            · rw [if_neg c57] at H
                              have c57b0 : decide (x22_3 < (t420.length : Int)) = false := decide_eq_false c57
                              clear c57
                              have H' := Aside0.mk H
                              clear H
                              go_wp2
                              go_loopg [26] k3 (fun kq v26 w' => ∃ (x26_4 : Int), v26 = .int .i64 x26_4 ∧ Aside0 (epitomelaw15_SnapBack.l2 kq x9_8 t439 t440 t455 t456 t457 x26_4 = some r) ∧ Aside0 (kq ≤ k3) ∧ Aside0 (Kd.R (Kd.int .i64) 3 w' w.heap.size (fun k_ => some k_ ≠ (v458 : Value).ownBlock) (.slice Ao40 x9_8.length co40) x9_8) ∧ Aside0 (Kd.R (Kd.int .u8) 5 w' w.heap.size (fun _ => True) (.slice Ao45 t439.length co45) t439) ∧ Aside0 (Kd.R (Kd.int .i64) 3 w' w.heap.size (fun k_ => some k_ ≠ ((.slice Ao40 x9_8.length co40) : Value).ownBlock) v458 t455) ∧ Aside0 (Below w.heap.size w w'))
                              case atStart => exact ⟨(0), (by first | rfl | (simp; done) | (simp [*]; done)), H', ⟨Nat.le_refl _⟩, ⟨by (with_reducible repeat (first | apply Kd.R_alloc | apply Kd.R_drewN | apply Kd.R_drew)); exact HO_9.out⟩, ⟨by (with_reducible repeat (first | apply Kd.R_alloc | apply Kd.R_drewN | apply Kd.R_drew)); exact Kd.R_mono HO_17.out (fun _ hk => trivial)⟩, ⟨by (with_reducible repeat (first | apply Kd.R_alloc | apply Kd.R_drewN | apply Kd.R_drew)); exact HO_19.out⟩, ⟨by repeat (first | (with_reducible first | exact HB.out | apply below_alloc | apply pw_below_drewN | apply below_drew1) | exact HB.out)⟩⟩
                              case round =>
                                clear H'
                                try clear c1
                                try clear c2
                                try clear p2
                                try clear c3
                                try clear p4
                                try clear q4
                                try clear hx4
                                try clear c5
                                try clear c6
                                try clear c6b0
                                try clear c6b1
                                try clear p6
                                try clear q6
                                try clear c7
                                try clear c7b0
                                try clear c7b1
                                try clear c12
                                try clear c14
                                try clear c14b0
                                try clear c15
                                try clear c15b0
                                try clear c16
                                try clear c16b0
                                try clear c17
                                try clear c20
                                try clear c22
                                try clear c25
                                try clear c26
                                try clear c27
                                try clear c29
                                try clear c30
                                try clear c33
                                try clear c35
                                try clear p41
                                try clear q41
                                try clear hx41
                                try clear c51
                                try clear c52
                                try clear c52b0
                                try clear c52b1
                                try clear c53
                                try clear c53b0
                                try clear c53b1
                                try clear c54
                                try clear c54b0
                                try clear c54b1
                                try clear c55
                                try clear c55b0
                                try clear c55b1
                                try clear c56
                                try clear c57
                                try clear c57b0
                                try clear c58
                                try clear c58b0
                                try clear c58b1
                                try clear c59
                                try clear c59b0
                                try clear c59b1
                                try clear c61
                                try clear c61b0
                                try clear c61b1
                                try clear q62
                                try clear hx416_0
                                try clear p2
                                try clear p4
                                try clear p41
                                try clear p416
                                try clear p6
                                try clear q4
                                try clear q41
                                try clear q416
                                try clear q62
                                obtain ⟨x26_4, rfl, HA, HK4, HO_9, HO_17, HO_19, HB⟩ := hrel
                                cases gk with
                                | zero => exact absurd HA.out (by simp [epitomelaw15_SnapBack.l2])
                                | succ k4 =>
                                  have H := HA.out
                                  clear HA
                                  simp only [epitomelaw15_SnapBack.l2] at H
                                  by_cases c64 : x26_4 < (t439.length : Int)
                                  · rw [if_pos c64] at H
                                    have c64b0 : decide (x26_4 < (t439.length : Int)) = true := decide_eq_true c64
                                    clear c64
                                    by_cases c65 : 0 ≤ x26_4
                                    · rw [if_pos c65] at H
                                      have c65b0 := eq_true c65
                                      have c65b1 : decide (0 ≤ x26_4) = true := decide_eq_true c65
                                      clear c65
                                      by_cases c66 : x26_4 ≤ (t439.length : Int)
                                      · rw [if_pos c66] at H
                                        have c66b0 := eq_true c66
                                        have c66b1 : decide (x26_4 ≤ (t439.length : Int)) = true := decide_eq_true c66
                                        clear c66
                                        obtain ⟨y467, hy467⟩ : ∃ y_ : List Int, y_ = (t439.take (x26_4 : Int).toNat) := ⟨_, rfl⟩
                                        replace H : ((snap_TakeRow.f k4 y467).bind fun bt471 => (if bt471.2.2 = 7 then (epitomelaw15_SnapBack.l2 k4 x9_8 t439 t440 t455 t456 t457 (wrap64 (x26_4 + 1))) else (some false))) = some r := by first | (rw [hy467]; with_reducible exact H) | (have H2_ := (Option.bind_some _ _).symm.trans H; rw [hy467]; with_reducible exact H2_) | (have H2_ := (Option.bind_some _ _).symm.trans H; with_reducible exact H2_) | with_reducible exact H | (rw [hy467]; exact H) | exact H
                                        have Ny467 := Aside0.mk hy467
                                        clear hy467
                                        replace H := Option.bind_eq_some_iff.mp H
                                        obtain ⟨⟨t471, t472, t473⟩, A670, H⟩ := H
                                        replace H : (if t473 = 7 then (epitomelaw15_SnapBack.l2 k4 x9_8 t439 t440 t455 t456 t457 (wrap64 (x26_4 + 1))) else (some false)) = some r := H
                                        have A67 := Aside0.mk A670
                                        clear A670
                                        by_cases c68 : t473 = 7
                                        · rw [if_pos c68] at H
                                          have c68b0 : (t473 == 7) = true := beq_iff_eq.mpr c68
                                          have c68b1 : (t473 != 7) = false := bne_eq_false_iff_eq.mpr c68
                                          clear c68
                                          have H' := Aside0.mk H
                                          clear H
                                          have q69 : (x26_4 : Int) ≤ ((t439.length : Int) : Int) := of_decide_eq_true (by first | (with_reducible assumption) | assumption)
                                          obtain ⟨i069, hi069, _, hsz69, _⟩ := info_parts info5
                                          have hroom69 : t439.length ≤ co45 := (Kd.R_reads' HO_17.out).2.1
                                          have hC69 : Kd.C (Kd.int .u8) _ Ao45 t439.length t439 := (Kd.R_reads' HO_17.out).2.2
                                          have hcut69 := cut_to (P := Tryd.prog) 32 5 .i64 Tryd.underlying32 hi069 Ao45 t439.length co45 x26_4 (of_decide_eq_true (by first | (with_reducible assumption) | assumption)) q69 hroom69
                                          have hr69 := Kd.C_take (m := (x26_4 : Int).toNat) hC69 (by omega)
                                          have hy69 : y467.length = (x26_4 : Int).toNat := (by rw [Ny467.out, List.length_take]; omega)
                                          rw [← Ny467.out] at hr69
                                          rw [← hy69] at hcut69
                                          have HR470 := Aside0.mk hr69
                                          have HC470 := Aside0.mk (show y467.length ≤ co45 from by omega)
                                          clear hr69 hC69 hroom69 hi069 hsz69
                                          have KY69 := Aside0.mk hy69
                                          clear hy69
                                          have KL69 := Aside0.mk (show (x26_4 : Int).toNat ≤ t439.length from by omega)
                                          replace q69 := eq_true q69
                                          go_wp2_with (first | ((with_reducible refine gate_callee (f := 29) rfl ?_); refine goesL_ (some 147) rfl rfl Tryd.func29 (by kernel_rfl) rfl #[.slice Ao45 y467.length co45] rfl (by (try simp only [List.map_toArray, List.map_cons, List.map_nil]); first | done | rfl | (simp only [List.length_drop, List.length_take]; rfl)) ?_; (with_reducible refine (snap_TakeRow.calls k4 _ _ y467 t471 t472 t473 _ ?side1 ?side2 A67.out).mono ?_); (case side1 => repeat (first | exact (by repeat (first | (with_reducible exact HR470.out) | (with_reducible refine Kd.C_alloc ?_ _) | (with_reducible refine Kd.C_drewN ?_ _) | (with_reducible refine Kd.C_drew ?_) | exact HR470.out)) | (with_reducible refine Kd.C_alloc ?_ _) | (with_reducible refine Kd.C_drewN ?_ _) | (with_reducible refine Kd.C_drew ?_))); (case side2 => exact HC470.out); rintro e w70 ⟨v474, rfl, ho0, hb⟩; refine ⟨_, rfl, ?_⟩; have n0_ := Aside0.mk (Kd.R_elder' (by (with_reducible repeat (first | apply Kd.R_alloc | apply Kd.R_drewN | apply Kd.R_drew)); exact HO_9.out) (Kd.R_base ho0) hb); have n1_ := Aside0.mk (Kd.R_below (by (with_reducible repeat (first | apply Kd.R_alloc | apply Kd.R_drewN | apply Kd.R_drew)); exact HO_17.out) hb); have n2_ := Aside0.mk (Kd.R_elder' (by (with_reducible repeat (first | apply Kd.R_alloc | apply Kd.R_drewN | apply Kd.R_drew)); exact HO_19.out) (Kd.R_base ho0) hb); have n3_ := Aside0.mk (Kd.R_lower (Kd.R_new' (Kd.R_new' ho0 (Kd.R_lt (by (with_reducible repeat (first | apply Kd.R_alloc | apply Kd.R_drewN | apply Kd.R_drew)); exact HO_9.out))) (Kd.R_lt (by (with_reducible repeat (first | apply Kd.R_alloc | apply Kd.R_drewN | apply Kd.R_drew)); exact HO_19.out))) (below_size (by repeat (first | (with_reducible first | exact HB.out | apply below_alloc | apply pw_below_drewN | apply below_drew1) | exact HB.out)))); have n4_ := Aside0.mk (Kd.C_below (by repeat (first | (with_reducible exact HR470.out) | (with_reducible refine Kd.C_alloc ?_ _) | (with_reducible refine Kd.C_drewN ?_ _) | (with_reducible refine Kd.C_drew ?_) | exact HR470.out)) hb); have n5_ := Aside0.mk (below_step (by repeat (first | (with_reducible first | exact HB.out | apply below_alloc | apply pw_below_drewN | apply below_drew1) | exact HB.out)) hb); clear HO_9; clear HO_17; clear HO_19; clear HR470; clear HB; have HO_9 := n0_; have HO_17 := n1_; have HO_19 := n2_; have HO475 := n3_; have HR470 := n4_; have HB := n5_; clear n0_ n1_ n2_ n3_ n4_ n5_; (try clear hb); (try clear hb2); (try clear hk); (try clear hi); (try clear ho0)))
                                          go_roundg k4
                                          case measure => have := HJ8.out; have := HJ28.out; have := HK3.out; have := HK4.out; omega
                                          case rel => exact ⟨(wrap64 (x26_4 + 1)), (by first | rfl | (simp; done) | (simp [*]; done)), H', ⟨by have := HJ8.out; have := HJ28.out; have := HK3.out; have := HK4.out; omega⟩, ⟨by (with_reducible repeat (first | apply Kd.R_alloc | apply Kd.R_drewN | apply Kd.R_drew)); exact Kd.R_mono HO_9.out (fun _ hk => hk.1)⟩, ⟨by (with_reducible repeat (first | apply Kd.R_alloc | apply Kd.R_drewN | apply Kd.R_drew)); exact HO_17.out⟩, ⟨by (with_reducible repeat (first | apply Kd.R_alloc | apply Kd.R_drewN | apply Kd.R_drew)); exact Kd.R_mono HO_19.out (fun _ hk => hk.1)⟩, ⟨by repeat (first | (with_reducible first | exact HB.out | apply below_alloc | apply pw_below_drewN | apply below_drew1) | exact HB.out)⟩⟩
                                        · rw [if_neg c68] at H
                                          have c68b0 : (t473 == 7) = false := beq_eq_false_iff_ne.mpr c68
                                          have c68b1 : (t473 != 7) = true := bne_iff_ne.mpr c68
                                          obtain rfl := Option.some.inj H
                                          exact absurd HLAW.out (by decide)
                                      · rw [if_neg c66] at H
                                        exact absurd H (by simp)
                                    · rw [if_neg c65] at H
                                      exact absurd H (by simp)
                                  · rw [if_neg c64] at H
                                    have c64b0 : decide (x26_4 < (t439.length : Int)) = false := decide_eq_false c64
                                    clear c64
                                    by_cases c71 : (x9_8.length : Int) = 0
                                    · rw [if_pos c71] at H
                                      have c71b0 : ((x9_8.length : Int) == 0) = true := beq_iff_eq.mpr c71
                                      have c71b1 : ((x9_8.length : Int) != 0) = false := bne_eq_false_iff_eq.mpr c71
                                      clear c71
                                      by_cases c72 : t440 = 2
                                      · rw [if_pos c72] at H
                                        have c72b0 : (t440 == 2) = true := beq_iff_eq.mpr c72
                                        have c72b1 : (t440 != 2) = false := bne_eq_false_iff_eq.mpr c72
                                        clear c72
                                        obtain rfl := Option.some.inj H
                                        simp only [Option.some.injEq, Prod.mk.injEq] at H
                                        obtain ⟨rfl⟩ := H
                                        go_wp2
                                        go_ret
                                        exact ⟨by first | rfl | (simp [errW_none, errW_some] <;> rfl) | (simp only [← hji5]; first | rfl | (simp [errW_none, errW_some] <;> rfl)) | (simp [*, errW_none, errW_some] <;> rfl), by repeat (first | (with_reducible first | exact HB.out | apply below_alloc | apply pw_below_drewN | apply below_drew1) | exact HB.out)⟩
                                      · rw [if_neg c72] at H
                                        have c72b0 : (t440 == 2) = false := beq_eq_false_iff_ne.mpr c72
                                        have c72b1 : (t440 != 2) = true := bne_iff_ne.mpr c72
                                        by_cases c73 : t457 = 0
                                        · rw [if_pos c73] at H
                                          have c73b0 : (t457 == 0) = true := beq_iff_eq.mpr c73
                                          have c73b1 : (t457 != 0) = false := bne_eq_false_iff_eq.mpr c73
                                          clear c73
                                          replace H := Option.bind_eq_some_iff.mp H
                                          obtain ⟨t476, A740, H⟩ := H
                                          replace H : (if t476 = true then (some (t456 == (t439.length : Int))) else (some false)) = some r := H
                                          have A74 := Aside0.mk A740
                                          clear A740
                                          by_cases c75 : t476 = true
                                          · subst c75
                                            have H1 : (some (t456 == (t439.length : Int))) = some r := by rw [if_pos rfl] at H; exact H
                                            clear H
                                            have H := H1
                                            clear H1
                                            obtain rfl := Option.some.inj H
                                            simp only [Option.some.injEq, Prod.mk.injEq] at H
                                            obtain ⟨rfl⟩ := H
                                            obtain ⟨Ao76, co76, eo76⟩ := Kd.R_slice HO_19.out
                                            subst eo76
                                            go_wp2_with (first | (go_at_call 32; (with_reducible refine (epitomeref15_SameRow.calls k4 _ _ t455 _ _ x9_8 true _ ?side1 ?side2 ?side3 ?side4 A74.out).mono ?_); (case side1 => repeat (first | exact (Kd.R_reads' HO_19.out).2.2 | (with_reducible refine Kd.C_alloc ?_ _) | (with_reducible refine Kd.C_drewN ?_ _) | (with_reducible refine Kd.C_drew ?_))); (case side2 => exact (Kd.R_reads' HO_19.out).2.1); (case side3 => repeat (first | exact (Kd.R_reads' HO_9.out).2.2 | (with_reducible refine Kd.C_alloc ?_ _) | (with_reducible refine Kd.C_drewN ?_ _) | (with_reducible refine Kd.C_drew ?_))); (case side4 => exact (Kd.R_reads' HO_9.out).2.1); rintro e w' ⟨rfl, ⟨nd, rfl⟩⟩))
                                            go_ret
                                            exact ⟨by first | rfl | (simp [errW_none, errW_some] <;> rfl) | (simp only [← hji5]; first | rfl | (simp [errW_none, errW_some] <;> rfl)) | (simp [*, errW_none, errW_some] <;> rfl), by repeat (first | (with_reducible first | exact HB.out | apply below_alloc | apply pw_below_drewN | apply below_drew1) | exact HB.out)⟩
                                          · replace c75 := Bool.eq_false_iff.mpr c75
                                            subst c75
                                            have H1 : (some false) = some r := by rw [if_neg (show ¬ (false = true) by decide)] at H; exact H
                                            clear H
                                            have H := H1
                                            clear H1
                                            obtain rfl := Option.some.inj H
                                            exact absurd HLAW.out (by decide)
                                        · rw [if_neg c73] at H
                                          have c73b0 : (t457 == 0) = false := beq_eq_false_iff_ne.mpr c73
                                          have c73b1 : (t457 != 0) = true := bne_iff_ne.mpr c73
                                          obtain rfl := Option.some.inj H
                                          exact absurd HLAW.out (by decide)
                                    · rw [if_neg c71] at H
                                      have c71b0 : ((x9_8.length : Int) == 0) = false := beq_eq_false_iff_ne.mpr c71
                                      have c71b1 : ((x9_8.length : Int) != 0) = true := bne_iff_ne.mpr c71
                                      have c71b2 : ¬ (x9_8 = []) := fun h_ => c71 (by rw [h_]; rfl)
                                      by_cases c77 : t457 = 0
                                      · rw [if_pos c77] at H
                                        have c77b0 : (t457 == 0) = true := beq_iff_eq.mpr c77
                                        have c77b1 : (t457 != 0) = false := bne_eq_false_iff_eq.mpr c77
                                        clear c77
                                        replace H := Option.bind_eq_some_iff.mp H
                                        obtain ⟨t477, A780, H⟩ := H
                                        replace H : (if t477 = true then (some (t456 == (t439.length : Int))) else (some false)) = some r := H
                                        have A78 := Aside0.mk A780
                                        clear A780
                                        by_cases c79 : t477 = true
                                        · subst c79
                                          have H1 : (some (t456 == (t439.length : Int))) = some r := by rw [if_pos rfl] at H; exact H
                                          clear H
                                          have H := H1
                                          clear H1
                                          obtain rfl := Option.some.inj H
                                          simp only [Option.some.injEq, Prod.mk.injEq] at H
                                          obtain ⟨rfl⟩ := H
                                          obtain ⟨Ao80, co80, eo80⟩ := Kd.R_slice HO_19.out
                                          subst eo80
                                          go_wp2_with (first | (go_at_call 32; (with_reducible refine (epitomeref15_SameRow.calls k4 _ _ t455 _ _ x9_8 true _ ?side1 ?side2 ?side3 ?side4 A78.out).mono ?_); (case side1 => repeat (first | exact (Kd.R_reads' HO_19.out).2.2 | (with_reducible refine Kd.C_alloc ?_ _) | (with_reducible refine Kd.C_drewN ?_ _) | (with_reducible refine Kd.C_drew ?_))); (case side2 => exact (Kd.R_reads' HO_19.out).2.1); (case side3 => repeat (first | exact (Kd.R_reads' HO_9.out).2.2 | (with_reducible refine Kd.C_alloc ?_ _) | (with_reducible refine Kd.C_drewN ?_ _) | (with_reducible refine Kd.C_drew ?_))); (case side4 => exact (Kd.R_reads' HO_9.out).2.1); rintro e w' ⟨rfl, ⟨nd, rfl⟩⟩))
                                          go_ret
                                          exact ⟨by first | rfl | (simp [errW_none, errW_some] <;> rfl) | (simp only [← hji5]; first | rfl | (simp [errW_none, errW_some] <;> rfl)) | (simp [*, errW_none, errW_some] <;> rfl), by repeat (first | (with_reducible first | exact HB.out | apply below_alloc | apply pw_below_drewN | apply below_drew1) | exact HB.out)⟩
                                        · replace c79 := Bool.eq_false_iff.mpr c79
                                          subst c79
                                          have H1 : (some false) = some r := by rw [if_neg (show ¬ (false = true) by decide)] at H; exact H
                                          clear H
                                          have H := H1
                                          clear H1
                                          obtain rfl := Option.some.inj H
                                          exact absurd HLAW.out (by decide)
                                      · rw [if_neg c77] at H
                                        have c77b0 : (t457 == 0) = false := beq_eq_false_iff_ne.mpr c77
                                        have c77b1 : (t457 != 0) = true := bne_iff_ne.mpr c77
                                        obtain rfl := Option.some.inj H
                                        exact absurd HLAW.out (by decide)
                · rw [if_neg c27] at H
                  exact absurd H (by simp)
              · rw [if_neg c25] at H
                exact absurd H (by simp)
            · rw [if_neg c22] at H
              exact absurd H (by simp)
          · rw [if_neg c20] at H
            exact absurd H (by simp)
    · rw [if_neg c7] at H
      exact absurd H (by simp)
  · rw [if_neg c6] at H
    exact absurd H (by simp)

/-- THE ONE PURE STATEMENT of epitomelaw15_SnapBack: yours. -/
def epitomelaw15_SnapBack.Pure : Prop := ∀ (a0 : ByteArray) (l1 : List Int) (l2 : List Int), a0.size ≤ 140737488351232 → l1.length ≤ maxLen → l1.length * 2 ≤ 140737488351232 → (∀ x ∈ l1, (Lit.int .u16 x).wf = true) → l2.length ≤ maxLen → l2.length * 1 ≤ 140737488351232 → (∀ x ∈ l2, (Lit.int .u8 x).wf = true) → ∃ k, epitomelaw15_SnapBack.f k a0 l1 l2 = some true
theorem epitomelaw15_SnapBack.walk (P : epitomelaw15_SnapBack.Pure) (a0 : ByteArray) (a1 : Option Addr) (len1 cap1 : Nat) (z1 : List Int) (a2 : Option Addr) (len2 cap2 : Nat) (z2 : List Int) (w : World) (hT : Tabs w) (w0 : a0.size ≤ 140737488351232) (w1 : (a1 = none ∧ len1 = 0 ∧ cap1 = 0 ∧ z1 = []) ∨ ∃ x, a1 = some x ∧ len1 ≤ cap1 ∧ cap1 ≤ maxLen ∧ z1.length = cap1 ∧ (∀ i, i < z1.length → w.cell? (x.add i) = some (.int .u16 (z1.getD i 0))) ∧ ∀ n ∈ z1, (Lit.int .u16 n).wf = true) (y1 : len1 * 2 ≤ 140737488351232) (w2 : (a2 = none ∧ len2 = 0 ∧ cap2 = 0 ∧ z2 = []) ∨ ∃ x, a2 = some x ∧ len2 ≤ cap2 ∧ cap2 ≤ maxLen ∧ z2.length = cap2 ∧ (∀ i, i < z2.length → w.cell? (x.add i) = some (.int .u8 (z2.getD i 0))) ∧ ∀ n ∈ z2, (Lit.int .u8 n).wf = true) (y2 : len2 * 1 ≤ 140737488351232) :
    Calls Tryd.prog 12 #[.string a0, .slice a1 len1 cap1, .slice a2 len2 cap2] w fun e w' => e = .returned (.bool true) ∧ Below w.heap.size w w' := by
  obtain ⟨l1, rfl, hr1, hm1, hw1, hc1⟩ := ReadsInt.ofRowC w1
  obtain ⟨l2, rfl, hr2, hm2, hw2, hc2⟩ := ReadsInt.ofRowC w2
  obtain ⟨k, h⟩ := P a0 l1 l2 w0 hm1 y1 hw1 hm2 y2 hw2
  refine (epitomelaw15_SnapBack.calls k a0 _ _ l1 _ _ l2 true w (Kd.C_of_reads (d := (0 : Int)) (h1 := fun _ => rfl) hr1) hc1 (Kd.C_of_reads (d := (0 : Int)) (h1 := fun _ => rfl) hr2) hc2 hT h rfl).mono ?_
  rintro e w' ⟨rfl, hd⟩
  exact ⟨rfl, hd⟩

end Go.Proofs.YtolljobehfmffaaDoor.P
