-- WRITTEN BY A PROGRAM OF THIS SESSION (wip/pp in its repo), made after the kit's print
import Derived.Test.YtolljobehfmffaaDoorPx0
import Derived.Test.YtolljobehfmffaaDoorPx7
import Derived.Test.YtolljobehfmffaaDoorPx13
import Derived.Test.YtolljobehfmffaaDoorPx16
import Derived.Test.YtolljobehfmffaaDoorPx17
namespace Go.Proofs.YtolljobehfmffaaDoor.P
open Go.RowKit Go.Proofs.YtolljobehfmffaaDoorW.PrintWords Go.Proofs.YtolljobehfmffaaDoorW.PrintLast Go.Proofs.YtolljobehfmffaaDoorW.PrintMore
attribute [local go_sem] max2_int min2_int max_two min_two max_three min_three max_four min_four   -- for this text's walks alone
set_option linter.unusedVariables false
set_option linter.unusedSimpArgs false

/-! ### epitomelaw15_SnapSizes: function 10 -/
mutual
def epitomelaw15_SnapSizes.j0 : Nat → Int → Int → Bool → ByteArray → List Int → Int → Int → Option (Bool)
  | 0, _, _, _, _, _, _, _ => none
  | k + 1, x1, x2, x7, x8, x9, x10, x11 => epitomelaw15_SnapSizes.l0 k x1 x7 x8 x9 x10 x11 (([] : List Int)) (wrap64 (1 + (Int.tmod (wrap64 (x2)) 100))) 0
def epitomelaw15_SnapSizes.l0 : Nat → Int → Bool → ByteArray → List Int → Int → Int → List Int → Int → Int → Option (Bool)
  | 0, _, _, _, _, _, _, _, _, _ => none
  | k + 1, x1, x7, x8, x9, x10, x11, x12, x13, x14 => if x14 < x13 then (if x12.length < 17592186044416 then (epitomelaw15_SnapSizes.l0 k x1 x7 x8 x9 x10 x11 (x12 ++ [wrap64 ((wrap64 (Go.bits .and .u8 x1 127)) + x14)]) x13 (wrap64 (x14 + 1))) else (none)) else ((snap_PutRow.f x12).bind fun bt366 => (if x7 = true then (if x10 = 0 then (if bt366.2 = 0 then (if (x9.length : Int) = (wrap64 ((x8.size : Int) + x11)) then (if (bt366.1.length : Int) = (wrap64 (x13 + 1)) then (if 0 < (bt366.1.length : Int) then (if (wrap64 (rd bt366.1 0)) = x13 then (if 1 < (bt366.1.length : Int) then (epitomelaw15_SnapSizes.j2 k x8 x9 x11 bt366.1 ((rd bt366.1 1) != (Go.bits .and .u8 x1 127))) else (none)) else (epitomelaw15_SnapSizes.j2 k x8 x9 x11 bt366.1 true)) else (none)) else (epitomelaw15_SnapSizes.j2 k x8 x9 x11 bt366.1 true)) else (epitomelaw15_SnapSizes.j2 k x8 x9 x11 bt366.1 true)) else (epitomelaw15_SnapSizes.j2 k x8 x9 x11 bt366.1 true)) else (epitomelaw15_SnapSizes.j2 k x8 x9 x11 bt366.1 true)) else (epitomelaw15_SnapSizes.j2 k x8 x9 x11 bt366.1 true)))
def epitomelaw15_SnapSizes.j2 : Nat → ByteArray → List Int → Int → List Int → Bool → Option (Bool)
  | 0, _, _, _, _, _ => none
  | k + 1, x8, x9, x11, x15, x97 => if x97 = true then (some false) else (epitomelaw15_SnapSizes.l1 k x8 x9 x11 x15 2)
def epitomelaw15_SnapSizes.l1 : Nat → ByteArray → List Int → Int → List Int → Int → Option (Bool)
  | 0, _, _, _, _, _ => none
  | k + 1, x8, x9, x11, x15, x17 => if x17 < (x15.length : Int) then (if 0 ≤ x17 then (if (rd x15 x17) = 0 then (epitomelaw15_SnapSizes.l1 k x8 x9 x11 x15 (wrap64 (x17 + 1))) else (some false)) else (none)) else (if 0 ≤ x11 then (if x11 ≤ (x9.length : Int) then (some ((strOfNums (x9.drop (x11 : Int).toNat)).toList == x8.toList)) else (none)) else (none))
end
def epitomelaw15_SnapSizes.f (k : Nat) (a0 : ByteArray) (a1 : Int) (a2 : Int) : Option (Bool) := (epitomelaw15_shown.f k).bind fun t354 => (if 0 ≤ (mn (a0.size : Int) 100) then (if (mn (a0.size : Int) 100) ≤ (a0.size : Int) then ((epitomeref01_Fit.f k (a0.extract 0 ((mn (a0.size : Int) 100) : Int).toNat)).bind fun t355 => ((snap_Put.f t355).bind fun bt356 => (if (t355.size : Int) ≥ 128 then (epitomelaw15_SnapSizes.j0 k a1 a2 t354 t355 bt356.1 bt356.2 2) else (epitomelaw15_SnapSizes.j0 k a1 a2 t354 t355 bt356.1 bt356.2 1)))) else (none)) else (none))
theorem epitomelaw15_SnapSizes.mono_l : ∀ k, (∀ y0 y1 y2 y3 y4 y5 y6, LeO (epitomelaw15_SnapSizes.j0 k y0 y1 y2 y3 y4 y5 y6) (epitomelaw15_SnapSizes.j0 (k + 1) y0 y1 y2 y3 y4 y5 y6)) ∧ (∀ y0 y1 y2 y3 y4 y5 y6 y7 y8, LeO (epitomelaw15_SnapSizes.l0 k y0 y1 y2 y3 y4 y5 y6 y7 y8) (epitomelaw15_SnapSizes.l0 (k + 1) y0 y1 y2 y3 y4 y5 y6 y7 y8)) ∧ (∀ y0 y1 y2 y3 y4, LeO (epitomelaw15_SnapSizes.j2 k y0 y1 y2 y3 y4) (epitomelaw15_SnapSizes.j2 (k + 1) y0 y1 y2 y3 y4)) ∧ (∀ y0 y1 y2 y3 y4, LeO (epitomelaw15_SnapSizes.l1 k y0 y1 y2 y3 y4) (epitomelaw15_SnapSizes.l1 (k + 1) y0 y1 y2 y3 y4))
  | 0 => ⟨fun _ _ _ _ _ _ _ r h => by simp [epitomelaw15_SnapSizes.j0] at h, fun _ _ _ _ _ _ _ _ _ r h => by simp [epitomelaw15_SnapSizes.l0] at h, fun _ _ _ _ _ r h => by simp [epitomelaw15_SnapSizes.j2] at h, fun _ _ _ _ _ r h => by simp [epitomelaw15_SnapSizes.l1] at h⟩
  | k + 1 => by
    obtain ⟨ih0, ih1, ih2, ih3⟩ := epitomelaw15_SnapSizes.mono_l k
    refine ⟨?_, ?_, ?_, ?_⟩
    · intro y0 y1 y2 y3 y4 y5 y6
      unfold epitomelaw15_SnapSizes.j0
      repeat' first
      | (with_reducible exact ih0 _ _ _ _ _ _ _)
      | (with_reducible exact ih1 _ _ _ _ _ _ _ _ _)
      | (with_reducible exact ih2 _ _ _ _ _)
      | (with_reducible exact ih3 _ _ _ _ _)
      | (with_reducible exact epitomelaw15_shown.mono _)
      | (with_reducible exact epitomeref01_Fit.mono _ _)
      | (with_reducible exact LeO.refl _)
      | (with_reducible exact LeO.none _)
      | (with_reducible refine LeO.ite ?_ ?_)
      | (with_reducible refine LeO.bind ?_ (fun _ => ?_))
      | exact ih0 _ _ _ _ _ _ _
      | exact ih1 _ _ _ _ _ _ _ _ _
      | exact ih2 _ _ _ _ _
      | exact ih3 _ _ _ _ _
      | exact epitomelaw15_shown.mono _
      | exact epitomeref01_Fit.mono _ _
      | exact LeO.none _
      | refine LeO.ite ?_ ?_
      | refine LeO.bind ?_ (fun _ => ?_)
    · intro y0 y1 y2 y3 y4 y5 y6 y7 y8
      unfold epitomelaw15_SnapSizes.l0
      repeat' first
      | (with_reducible exact ih0 _ _ _ _ _ _ _)
      | (with_reducible exact ih1 _ _ _ _ _ _ _ _ _)
      | (with_reducible exact ih2 _ _ _ _ _)
      | (with_reducible exact ih3 _ _ _ _ _)
      | (with_reducible exact epitomelaw15_shown.mono _)
      | (with_reducible exact epitomeref01_Fit.mono _ _)
      | (with_reducible exact LeO.refl _)
      | (with_reducible exact LeO.none _)
      | (with_reducible refine LeO.ite ?_ ?_)
      | (with_reducible refine LeO.bind ?_ (fun _ => ?_))
      | exact ih0 _ _ _ _ _ _ _
      | exact ih1 _ _ _ _ _ _ _ _ _
      | exact ih2 _ _ _ _ _
      | exact ih3 _ _ _ _ _
      | exact epitomelaw15_shown.mono _
      | exact epitomeref01_Fit.mono _ _
      | exact LeO.none _
      | refine LeO.ite ?_ ?_
      | refine LeO.bind ?_ (fun _ => ?_)
    · intro y0 y1 y2 y3 y4
      unfold epitomelaw15_SnapSizes.j2
      repeat' first
      | (with_reducible exact ih0 _ _ _ _ _ _ _)
      | (with_reducible exact ih1 _ _ _ _ _ _ _ _ _)
      | (with_reducible exact ih2 _ _ _ _ _)
      | (with_reducible exact ih3 _ _ _ _ _)
      | (with_reducible exact epitomelaw15_shown.mono _)
      | (with_reducible exact epitomeref01_Fit.mono _ _)
      | (with_reducible exact LeO.refl _)
      | (with_reducible exact LeO.none _)
      | (with_reducible refine LeO.ite ?_ ?_)
      | (with_reducible refine LeO.bind ?_ (fun _ => ?_))
      | exact ih0 _ _ _ _ _ _ _
      | exact ih1 _ _ _ _ _ _ _ _ _
      | exact ih2 _ _ _ _ _
      | exact ih3 _ _ _ _ _
      | exact epitomelaw15_shown.mono _
      | exact epitomeref01_Fit.mono _ _
      | exact LeO.none _
      | refine LeO.ite ?_ ?_
      | refine LeO.bind ?_ (fun _ => ?_)
    · intro y0 y1 y2 y3 y4
      unfold epitomelaw15_SnapSizes.l1
      repeat' first
      | (with_reducible exact ih0 _ _ _ _ _ _ _)
      | (with_reducible exact ih1 _ _ _ _ _ _ _ _ _)
      | (with_reducible exact ih2 _ _ _ _ _)
      | (with_reducible exact ih3 _ _ _ _ _)
      | (with_reducible exact epitomelaw15_shown.mono _)
      | (with_reducible exact epitomeref01_Fit.mono _ _)
      | (with_reducible exact LeO.refl _)
      | (with_reducible exact LeO.none _)
      | (with_reducible refine LeO.ite ?_ ?_)
      | (with_reducible refine LeO.bind ?_ (fun _ => ?_))
      | exact ih0 _ _ _ _ _ _ _
      | exact ih1 _ _ _ _ _ _ _ _ _
      | exact ih2 _ _ _ _ _
      | exact ih3 _ _ _ _ _
      | exact epitomelaw15_shown.mono _
      | exact epitomeref01_Fit.mono _ _
      | exact LeO.none _
      | refine LeO.ite ?_ ?_
      | refine LeO.bind ?_ (fun _ => ?_)
theorem epitomelaw15_SnapSizes.mono : ∀ a0 a1 a2 k, LeO (epitomelaw15_SnapSizes.f k a0 a1 a2) (epitomelaw15_SnapSizes.f (k + 1) a0 a1 a2) := by
  intro a0 a1 a2 k
  obtain ⟨ih0, ih1, ih2, ih3⟩ := epitomelaw15_SnapSizes.mono_l k
  unfold epitomelaw15_SnapSizes.f
  repeat' first
      | (with_reducible exact ih0 _ _ _ _ _ _ _)
      | (with_reducible exact ih1 _ _ _ _ _ _ _ _ _)
      | (with_reducible exact ih2 _ _ _ _ _)
      | (with_reducible exact ih3 _ _ _ _ _)
      | (with_reducible exact epitomelaw15_shown.mono _)
      | (with_reducible exact epitomeref01_Fit.mono _ _)
      | (with_reducible exact LeO.refl _)
      | (with_reducible exact LeO.none _)
      | (with_reducible refine LeO.ite ?_ ?_)
      | (with_reducible refine LeO.bind ?_ (fun _ => ?_))
      | exact ih0 _ _ _ _ _ _ _
      | exact ih1 _ _ _ _ _ _ _ _ _
      | exact ih2 _ _ _ _ _
      | exact ih3 _ _ _ _ _
      | exact epitomelaw15_shown.mono _
      | exact epitomeref01_Fit.mono _ _
      | exact LeO.none _
      | refine LeO.ite ?_ ?_
      | refine LeO.bind ?_ (fun _ => ?_)
set_option maxHeartbeats 8000000 in
set_option maxRecDepth 100000 in
theorem epitomelaw15_SnapSizes.calls (k : Nat) (a0 : ByteArray) (a1 : Int) (a2 : Int) (r : Bool) (w : World) (hT : Tabs w) (h : epitomelaw15_SnapSizes.f k a0 a1 a2 = some r) (hlaw : r = true) :
    Calls Tryd.prog 10 #[.string a0, .int .u8 a1, .int .u8 a2] w fun e w' => e = .returned (.bool r) ∧ Below w.heap.size w w' := by
  have HLAW := Aside0.mk hlaw
  clear hlaw
  have HT := Aside0.mk hT
  clear hT
  have HB := Aside0.mk (Below.refl w.heap.size w)
  have H : ((epitomelaw15_shown.f k).bind fun t354 => (if 0 ≤ (mn (a0.size : Int) 100) then (if (mn (a0.size : Int) 100) ≤ (a0.size : Int) then ((epitomeref01_Fit.f k (a0.extract 0 ((mn (a0.size : Int) 100) : Int).toNat)).bind fun t355 => ((snap_Put.f t355).bind fun bt356 => (if (t355.size : Int) ≥ 128 then (epitomelaw15_SnapSizes.j0 k a1 a2 t354 t355 bt356.1 bt356.2 2) else (epitomelaw15_SnapSizes.j0 k a1 a2 t354 t355 bt356.1 bt356.2 1)))) else (none)) else (none))) = some r := h
  clear h
  replace H := Option.bind_eq_some_iff.mp H
  obtain ⟨t354, A40, H⟩ := H
  replace H : (if 0 ≤ (mn (a0.size : Int) 100) then (if (mn (a0.size : Int) 100) ≤ (a0.size : Int) then ((epitomeref01_Fit.f k (a0.extract 0 ((mn (a0.size : Int) 100) : Int).toNat)).bind fun t355 => ((snap_Put.f t355).bind fun bt356 => (if (t355.size : Int) ≥ 128 then (epitomelaw15_SnapSizes.j0 k a1 a2 t354 t355 bt356.1 bt356.2 2) else (epitomelaw15_SnapSizes.j0 k a1 a2 t354 t355 bt356.1 bt356.2 1)))) else (none)) else (none)) = some r := H
  have A4 := Aside0.mk A40
  clear A40
  obtain ⟨ji5, hji5⟩ : ∃ j_ : Int, (mn (a0.size : Int) 100) = j_ := ⟨_, rfl⟩
  replace H : (if 0 ≤ (ji5) then (if (ji5) ≤ (a0.size : Int) then ((epitomeref01_Fit.f k (a0.extract 0 ((ji5) : Int).toNat)).bind fun t355 => ((snap_Put.f t355).bind fun bt356 => (if (t355.size : Int) ≥ 128 then (epitomelaw15_SnapSizes.j0 k a1 a2 t354 t355 bt356.1 bt356.2 2) else (epitomelaw15_SnapSizes.j0 k a1 a2 t354 t355 bt356.1 bt356.2 1)))) else (none)) else (none)) = some r := by first | (rw [hji5] at H; exact H) | (simp only [hji5] at H ⊢; exact H)
  (try rw [hji5] at A4)
  (try (have hji5h : ji5 ≤ 100 := by (rw [← hji5]; unfold mn; (repeat' split) <;> omega)))
  (try (have hji5g : ji5 ≤ 64 := by omega))
  (try (have hji5l : 0 ≤ ji5 := by (rw [← hji5]; unfold mn; (repeat' split) <;> omega)))
  (try (have hji5m : 0 ≤ ji5 := by omega))
  have hji5_ : (if 100 < (a0.size : Int) then 100 else (a0.size : Int)) = ji5 := hji5
  by_cases c6 : 0 ≤ (ji5)
  · rw [if_pos c6] at H
    have c6b0 := eq_true c6
    have c6b1 : decide (0 ≤ (ji5)) = true := decide_eq_true c6
    clear c6
    by_cases c7 : (ji5) ≤ (a0.size : Int)
    · rw [if_pos c7] at H
      have c7b0 := eq_true c7
      have c7b1 : decide ((ji5) ≤ (a0.size : Int)) = true := decide_eq_true c7
      clear c7
      replace H := Option.bind_eq_some_iff.mp H
      obtain ⟨t355, A80, H⟩ := H
      replace H : ((snap_Put.f t355).bind fun bt356 => (if (t355.size : Int) ≥ 128 then (epitomelaw15_SnapSizes.j0 k a1 a2 t354 t355 bt356.1 bt356.2 2) else (epitomelaw15_SnapSizes.j0 k a1 a2 t354 t355 bt356.1 bt356.2 1))) = some r := H
      have A8 := Aside0.mk A80
      clear A80
      replace H := Option.bind_eq_some_iff.mp H
      obtain ⟨⟨t356, t357⟩, A90, H⟩ := H
      replace H : (if (t355.size : Int) ≥ 128 then (epitomelaw15_SnapSizes.j0 k a1 a2 t354 t355 t356 t357 2) else (epitomelaw15_SnapSizes.j0 k a1 a2 t354 t355 t356 t357 1)) = some r := H
      have A9 := Aside0.mk A90
      clear A90
      have HC10 := Aside0.mk H
      clear H
      go_enter Tryd.func10, Tryd.ntmps10
      go_upto_if 32 with (first | ((with_reducible refine gate_callee (f := 25) rfl ?_); refine goesL_ (some 18) rfl rfl Tryd.func25 (by kernel_rfl) rfl #[] rfl (by (try simp only [List.map_toArray, List.map_cons, List.map_nil]); first | done | rfl | (simp only [List.length_drop, List.length_take]; rfl)) ?_; (with_reducible refine (epitomelaw15_shown.calls k  t354 _ ?side1 A4.out).mono ?_); (case side1 => exact Tabs.below HT.out (by repeat (first | (with_reducible first | exact HB.out | apply below_alloc | apply pw_below_drewN | apply below_drew1) | exact HB.out))); rintro e w11 ⟨rfl, hb⟩; refine ⟨_, rfl, ?_⟩; have n0_ := Aside0.mk (below_step (by repeat (first | (with_reducible first | exact HB.out | apply below_alloc | apply pw_below_drewN | apply below_drew1) | exact HB.out)) hb); clear HB; have HB := n0_; clear n0_; (try clear hb); (try clear hb2); (try clear hk); (try clear hi)) | ((with_reducible refine gate_callee (f := 22) rfl ?_); refine goesL_ (some 24) rfl rfl Tryd.func22 (by kernel_rfl) rfl #[.string (a0.extract 0 ((ji5) : Int).toNat)] rfl (by (try simp only [List.map_toArray, List.map_cons, List.map_nil]); first | done | (simp only [hji5]; rfl) | rfl | (simp only [List.length_drop, List.length_take]; rfl)) ?_; (with_reducible refine (epitomeref01_Fit.calls k (a0.extract 0 ((ji5) : Int).toNat) t355 _ A8.out).mono ?_); rintro e w12 ⟨rfl, hb⟩; refine ⟨_, rfl, ?_⟩; have n0_ := Aside0.mk (below_step (by repeat (first | (with_reducible first | exact HB.out | apply below_alloc | apply pw_below_drewN | apply below_drew1) | exact HB.out)) hb); clear HB; have HB := n0_; clear n0_; (try clear hb); (try clear hb2); (try clear hk); (try clear hi)) | ((with_reducible refine gate_callee (f := 33) rfl ?_); refine goesL_ (some 27) rfl rfl Tryd.func33 (by kernel_rfl) rfl #[.string t355] rfl (by (try simp only [List.map_toArray, List.map_cons, List.map_nil]); first | done | rfl | (simp only [List.length_drop, List.length_take]; rfl)) ?_; (with_reducible refine (snap_Put.calls t355 t356 t357 _ ?side1 A9.out).mono ?_); (case side1 => exact Tabs.below HT.out (by repeat (first | (with_reducible first | exact HB.out | apply below_alloc | apply pw_below_drewN | apply below_drew1) | exact HB.out))); rintro e w13 ⟨v358, rfl, ho0, hb⟩; refine ⟨_, rfl, ?_⟩; have n0_ := Aside0.mk (Kd.R_lower ho0 (below_size (by repeat (first | (with_reducible first | exact HB.out | apply below_alloc | apply pw_below_drewN | apply below_drew1) | exact HB.out)))); have n1_ := Aside0.mk (below_step (by repeat (first | (with_reducible first | exact HB.out | apply below_alloc | apply pw_below_drewN | apply below_drew1) | exact HB.out)) hb); clear HB; have HO359 := n0_; have HB := n1_; clear n0_ n1_; (try clear hb); (try clear hb2); (try clear hk); (try clear hi); (try clear ho0)))
      (try simp only [Act.put, List.setIfInBounds_toArray, List.set_cons_zero, List.set_cons_succ])
      go_cut [11] (fun v11 wc => ∃ (kq : Nat) (x11_9 : Int), v11 = .int .i64 x11_9 ∧ Aside0 (epitomelaw15_SnapSizes.j0 kq a1 a2 t354 t355 t356 t357 x11_9 = some r) ∧ Aside0 (kq ≤ k) ∧ Aside0 (Kd.R (Kd.int .u8) 5 wc w.heap.size (fun _ => True) v358 t356) ∧ Aside0 (Below w.heap.size w wc))
      case first =>
        have H := HC10.out
        clear HC10
        by_cases c14 : (t355.size : Int) ≥ 128
        · rw [if_pos c14] at H
          have c14b0 : decide (128 ≤ (t355.size : Int)) = true := decide_eq_true c14
          have c14b1 : decide (128 ≤ t355.size) = true := decide_eq_true (by omega)
          clear c14
          (first | rw [c14b0] | (simp only [i64_w, i32_w]; rw [c14b0]) | skip)
          have H' := Aside0.mk H
          clear H
          go_wp2
          go_meet
          case rel => exact ⟨_, (2), (by first | rfl | (simp; done) | (simp [*]; done)), H', ⟨by first | omega | exact Nat.le_refl _⟩, ⟨by (with_reducible repeat (first | apply Kd.R_alloc | apply Kd.R_drewN | apply Kd.R_drew)); exact HO359.out⟩, ⟨by repeat (first | (with_reducible first | exact HB.out | apply below_alloc | apply pw_below_drewN | apply below_drew1) | exact HB.out)⟩⟩
        · rw [if_neg c14] at H
          have c14b0 : decide (128 ≤ (t355.size : Int)) = false := decide_eq_false c14
          have c14b1 : decide (128 ≤ t355.size) = false := decide_eq_false (by omega)
          clear c14
          (first | rw [c14b0] | (simp only [i64_w, i32_w]; rw [c14b0]) | skip)
          have H' := Aside0.mk H
          clear H
          go_wp2
          go_meet
          case rel => exact ⟨_, (1), (by first | rfl | (simp; done) | (simp [*]; done)), H', ⟨by first | omega | exact Nat.le_refl _⟩, ⟨by (with_reducible repeat (first | apply Kd.R_alloc | apply Kd.R_drewN | apply Kd.R_drew)); exact HO359.out⟩, ⟨by repeat (first | (with_reducible first | exact HB.out | apply below_alloc | apply pw_below_drewN | apply below_drew1) | exact HB.out)⟩⟩
      case rest =>
        clear HC10
        try clear c1
        try clear c2
        try clear p2
        try clear c3
        try clear c6
        try clear c6b0
        try clear c6b1
        try clear c7
        try clear c7b0
        try clear c7b1
        try clear c10
        try clear c14
        try clear c14b0
        try clear c14b1
        obtain ⟨kq, x11_9, rfl, HA, HJ9, HO_9, HB⟩ := hcut
        cases kq with
        | zero => exact absurd HA.out (by simp [epitomelaw15_SnapSizes.j0])
        | succ kj9 =>
          have H := HA.out
          clear HA
          simp only [epitomelaw15_SnapSizes.j0] at H
          obtain ⟨y360, hy360⟩ : ∃ y_ : List Int, y_ = (([] : List Int)) := ⟨_, rfl⟩
          replace H : (epitomelaw15_SnapSizes.l0 kj9 a1 t354 t355 t356 t357 x11_9 y360 (wrap64 (1 + (Int.tmod (wrap64 (a2)) 100))) 0) = some r := by first | (rw [hy360]; with_reducible exact H) | (have H2_ := (Option.bind_some _ _).symm.trans H; rw [hy360]; with_reducible exact H2_) | (have H2_ := (Option.bind_some _ _).symm.trans H; with_reducible exact H2_) | with_reducible exact H | (rw [hy360]; exact H) | exact H
          have Ny360 := Aside0.mk hy360
          clear hy360
          have H' := Aside0.mk H
          clear H
          go_wp2_with (first | ((with_reducible refine gate_dst (N := 33) rfl ?_); (try (refine gate_guard (by rfl) ?_; dsimp only)); refine Kd.R_lit (Kd.int .i64) _ 3 ?hg (N := 33) ?hd (xs := ([] : List Int)) (inner := []) (ok := fun _ => True) (okp := fun _ => True) ?hr ?hp (fun _ hk => hk) trivial (Below.refl _ _) (Nat.le_refl _) (by simp) ?_; (case hd => rfl); (case hg => rfl); (case hr => first | (go_simp; done) | (go_simp; rfl)); (case hp => exact (Reps.none _ _)); intro v361 w15 ho16 hb hg_ hnew_; clear hg_ hnew_; (first | rw [← Ny360.out] at ho16 | (simp only [Int.reduceToNat] at ho16; rw [← Ny360.out] at ho16)); have n0_ := Aside0.mk (Kd.R_below (by (with_reducible repeat (first | apply Kd.R_alloc | apply Kd.R_drewN | apply Kd.R_drew)); exact HO_9.out) hb); have n1_ := Aside0.mk (Kd.R_lower ho16 (below_size (by repeat (first | (with_reducible first | exact HB.out | apply below_alloc | apply pw_below_drewN | apply below_drew1) | exact HB.out)))); have n2_ := Aside0.mk (below_step (by repeat (first | (with_reducible first | exact HB.out | apply below_alloc | apply pw_below_drewN | apply below_drew1) | exact HB.out)) hb); clear HO_9; clear HB; have HO_9 := n0_; have HO362 := n1_; have HB := n2_; clear n0_ n1_ n2_; clear hb ho16))
          go_loopg [12, 14] kj9 (fun kq v12 v14 w' => ∃ (x12_2 : List Int) (x14_2 : Int), v14 = .int .i64 x14_2 ∧ Aside0 (epitomelaw15_SnapSizes.l0 kq a1 t354 t355 t356 t357 x11_9 x12_2 (wrap64 (1 + (Int.tmod (wrap64 (a2)) 100))) x14_2 = some r) ∧ Aside0 (kq ≤ kj9) ∧ Aside0 (Kd.R (Kd.int .u8) 5 w' w.heap.size (fun _ => True) v358 t356) ∧ Aside0 (Kd.R (Kd.int .i64) 3 w' w.heap.size (fun _ => True) v12 x12_2) ∧ Aside0 (Below w.heap.size w w'))
          case atStart => exact ⟨(y360), (0), (by first | rfl | (simp; done) | (simp [*]; done)), H', ⟨Nat.le_refl _⟩, ⟨by (with_reducible repeat (first | apply Kd.R_alloc | apply Kd.R_drewN | apply Kd.R_drew)); exact HO_9.out⟩, ⟨by (with_reducible repeat (first | apply Kd.R_alloc | apply Kd.R_drewN | apply Kd.R_drew)); exact HO362.out⟩, ⟨by repeat (first | (with_reducible first | exact HB.out | apply below_alloc | apply pw_below_drewN | apply below_drew1) | exact HB.out)⟩⟩
          case round =>
            clear H'
            try clear c1
            try clear c2
            try clear p2
            try clear c3
            try clear c6
            try clear c6b0
            try clear c6b1
            try clear p6
            try clear c7
            try clear c7b0
            try clear c7b1
            try clear c10
            try clear c14
            try clear c14b0
            try clear c14b1
            try clear p2
            obtain ⟨x12_2, x14_2, rfl, HA, HK2, HO_9, HO_12, HB⟩ := hrel
            cases gk with
            | zero => exact absurd HA.out (by simp [epitomelaw15_SnapSizes.l0])
            | succ k2 =>
              have H := HA.out
              clear HA
              simp only [epitomelaw15_SnapSizes.l0] at H
              by_cases c17 : x14_2 < (wrap64 (1 + (Int.tmod (wrap64 (a2)) 100)))
              · rw [if_pos c17] at H
                have c17b0 : decide (x14_2 < (wrap64 (1 + (Int.tmod (wrap64 (a2)) 100)))) = true := decide_eq_true c17
                clear c17
                by_cases c18 : x12_2.length < 17592186044416
                · rw [if_pos c18] at H
                  have LMc18 := Aside0.mk c18
                  clear c18
                  obtain ⟨y363, hy363⟩ : ∃ y_ : List Int, y_ = (x12_2 ++ [wrap64 ((wrap64 (Go.bits .and .u8 a1 127)) + x14_2)]) := ⟨_, rfl⟩
                  replace H : (epitomelaw15_SnapSizes.l0 k2 a1 t354 t355 t356 t357 x11_9 y363 (wrap64 (1 + (Int.tmod (wrap64 (a2)) 100))) (wrap64 (x14_2 + 1))) = some r := by first | (rw [hy363]; with_reducible exact H) | (have H2_ := (Option.bind_some _ _).symm.trans H; rw [hy363]; with_reducible exact H2_) | (have H2_ := (Option.bind_some _ _).symm.trans H; with_reducible exact H2_) | with_reducible exact H | (rw [hy363]; exact H) | exact H
                  have Ny363 := Aside0.mk hy363
                  clear hy363
                  have H' := Aside0.mk H
                  clear H
                  go_wp2_with (first | ((with_reducible refine gate_builtin (b := .append) (xs := #[.tmp 43, .tmp 49]) rfl ?_); (try (refine gate_guard (by rfl) ?_; dsimp only)); at_builtin; refine Kd.R_append (Kd.int .i64) (w0 := w) w.heap.size rfl (.tmp 43) (.tmp 49) 41 3 (.int .i64 0) 8 rfl Tryd.underlying41 info3 rfl (by decide) (by omega) u12 x12_2 (wrap64 ((wrap64 (Go.bits .and .u8 a1 127)) + x14_2)) [.int .i64 (wrap64 ((wrap64 (Go.bits .and .u8 a1 127)) + x14_2))] (fun _ => True) (fun _ => False) rfl rfl ?aP (fun _ hk => hk.elim) ?aF ?aO ?aB ?aS ?aL ?_; (case aP => exact rfl); (case aB => exact (by repeat (first | (with_reducible first | exact HB.out | apply below_alloc | apply pw_below_drewN | apply below_drew1) | exact HB.out))); (case aF => exact (fun _ _ => trivial)); (case aO => exact (by (with_reducible repeat (first | apply Kd.R_alloc | apply Kd.R_drewN | apply Kd.R_drew)); exact HO_12.out)); (case aS => exact (below_size (by repeat (first | (with_reducible first | exact HB.out | apply below_alloc | apply pw_below_drewN | apply below_drew1) | exact HB.out)))); (case aL => have := LMc18.out; omega); intro v364 w19 ho hb hg hat; rw [← Ny363.out] at ho; have n0_ := Aside0.mk (Kd.R_over' (by (with_reducible repeat (first | apply Kd.R_alloc | apply Kd.R_drewN | apply Kd.R_drew)); exact HO_9.out) (Kd.R_typed (by (with_reducible repeat (first | apply Kd.R_alloc | apply Kd.R_drewN | apply Kd.R_drew)); exact HO_12.out)) (by decide) hg); have n1_ := Aside0.mk (hb); have n2_ := Aside0.mk (ho); clear HO_9; clear HB; clear HO_12; have HO_9 := n0_; have HB := n1_; have HO365 := n2_; clear n0_ n1_ n2_; clear ho hb hg hat))
                  go_roundg k2
                  case measure => have := HJ9.out; have := HK2.out; omega
                  case rel => exact ⟨(y363), (wrap64 (x14_2 + 1)), (by first | rfl | (simp; done) | (simp [*]; done)), H', ⟨by have := HJ9.out; have := HK2.out; omega⟩, ⟨by (with_reducible repeat (first | apply Kd.R_alloc | apply Kd.R_drewN | apply Kd.R_drew)); exact HO_9.out⟩, ⟨by (with_reducible repeat (first | apply Kd.R_alloc | apply Kd.R_drewN | apply Kd.R_drew)); exact HO365.out⟩, ⟨by repeat (first | (with_reducible first | exact HB.out | apply below_alloc | apply pw_below_drewN | apply below_drew1) | exact HB.out)⟩⟩
                · rw [if_neg c18] at H
                  exact absurd H (by simp)
              · rw [if_neg c17] at H
                have c17b0 : decide (x14_2 < (wrap64 (1 + (Int.tmod (wrap64 (a2)) 100)))) = false := decide_eq_false c17
                clear c17
                replace H := Option.bind_eq_some_iff.mp H
                obtain ⟨⟨t366, t367⟩, A200, H⟩ := H
                replace H : (if t354 = true then (if t357 = 0 then (if t367 = 0 then (if (t356.length : Int) = (wrap64 ((t355.size : Int) + x11_9)) then (if (t366.length : Int) = (wrap64 ((wrap64 (1 + (Int.tmod (wrap64 (a2)) 100))) + 1)) then (if 0 < (t366.length : Int) then (if (wrap64 (rd t366 0)) = (wrap64 (1 + (Int.tmod (wrap64 (a2)) 100))) then (if 1 < (t366.length : Int) then (epitomelaw15_SnapSizes.j2 k2 t355 t356 x11_9 t366 ((rd t366 1) != (Go.bits .and .u8 a1 127))) else (none)) else (epitomelaw15_SnapSizes.j2 k2 t355 t356 x11_9 t366 true)) else (none)) else (epitomelaw15_SnapSizes.j2 k2 t355 t356 x11_9 t366 true)) else (epitomelaw15_SnapSizes.j2 k2 t355 t356 x11_9 t366 true)) else (epitomelaw15_SnapSizes.j2 k2 t355 t356 x11_9 t366 true)) else (epitomelaw15_SnapSizes.j2 k2 t355 t356 x11_9 t366 true)) else (epitomelaw15_SnapSizes.j2 k2 t355 t356 x11_9 t366 true)) = some r := H
                have A20 := Aside0.mk A200
                clear A200
                have HC21 := Aside0.mk H
                clear H
                obtain ⟨Ao22, co22, eo22⟩ := Kd.R_slice HO_12.out
                subst eo22
                go_upto_region 14 with (first | ((with_reducible refine gate_callee (f := 26) rfl ?_); refine goesL_ (some 53) rfl rfl Tryd.func26 (by kernel_rfl) rfl #[.slice Ao22 x12_2.length co22] rfl (by (try simp only [List.map_toArray, List.map_cons, List.map_nil]); first | done | rfl | (simp only [List.length_drop, List.length_take]; rfl)) ?_; (with_reducible refine (snap_PutRow.calls _ _ x12_2 t366 t367 _ ?side1 ?side2 A20.out).mono ?_); (case side1 => repeat (first | exact (Kd.R_reads' HO_12.out).2.2 | (with_reducible refine Kd.C_alloc ?_ _) | (with_reducible refine Kd.C_drewN ?_ _) | (with_reducible refine Kd.C_drew ?_))); (case side2 => exact (Kd.R_reads' HO_12.out).2.1); rintro e w23 ⟨v368, rfl, ho0, hb⟩; refine ⟨_, rfl, ?_⟩; have n0_ := Aside0.mk (Kd.R_elder' (by (with_reducible repeat (first | apply Kd.R_alloc | apply Kd.R_drewN | apply Kd.R_drew)); exact HO_9.out) (Kd.R_base ho0) hb); have n1_ := Aside0.mk (Kd.R_below (by (with_reducible repeat (first | apply Kd.R_alloc | apply Kd.R_drewN | apply Kd.R_drew)); exact HO_12.out) hb); have n2_ := Aside0.mk (Kd.R_lower (Kd.R_new' ho0 (Kd.R_lt (by (with_reducible repeat (first | apply Kd.R_alloc | apply Kd.R_drewN | apply Kd.R_drew)); exact HO_9.out))) (below_size (by repeat (first | (with_reducible first | exact HB.out | apply below_alloc | apply pw_below_drewN | apply below_drew1) | exact HB.out)))); have n3_ := Aside0.mk (below_step (by repeat (first | (with_reducible first | exact HB.out | apply below_alloc | apply pw_below_drewN | apply below_drew1) | exact HB.out)) hb); clear HO_9; clear HO_12; clear HB; have HO_9 := n0_; have HO_12 := n1_; have HO369 := n2_; have HB := n3_; clear n0_ n1_ n2_ n3_; (try clear hb); (try clear hb2); (try clear hk); (try clear hi); (try clear ho0)))
                (try simp only [Act.put, List.setIfInBounds_toArray, List.set_cons_zero, List.set_cons_succ])
                go_cut [97] (fun v97 wc => ∃ (kq : Nat) (x97_20 : Bool), v97 = .bool x97_20 ∧ Aside0 (epitomelaw15_SnapSizes.j2 kq t355 t356 x11_9 t366 x97_20 = some r) ∧ Aside0 (kq ≤ k2) ∧ Aside0 (Kd.R (Kd.int .u8) 5 wc w.heap.size (fun k_ => some k_ ≠ (v368 : Value).ownBlock) v358 t356) ∧ Aside0 (Kd.R (Kd.int .u8) 5 wc w.heap.size (fun k_ => some k_ ≠ (v358 : Value).ownBlock) v368 t366) ∧ Aside0 (Below w.heap.size w wc))
                case first =>
                  have H := HC21.out
                  clear HC21
                  by_cases c24 : t354 = true
                  · subst c24
                    have H1 : (if t357 = 0 then (if t367 = 0 then (if (t356.length : Int) = (wrap64 ((t355.size : Int) + x11_9)) then (if (t366.length : Int) = (wrap64 ((wrap64 (1 + (Int.tmod (wrap64 (a2)) 100))) + 1)) then (if 0 < (t366.length : Int) then (if (wrap64 (rd t366 0)) = (wrap64 (1 + (Int.tmod (wrap64 (a2)) 100))) then (if 1 < (t366.length : Int) then (epitomelaw15_SnapSizes.j2 k2 t355 t356 x11_9 t366 ((rd t366 1) != (Go.bits .and .u8 a1 127))) else (none)) else (epitomelaw15_SnapSizes.j2 k2 t355 t356 x11_9 t366 true)) else (none)) else (epitomelaw15_SnapSizes.j2 k2 t355 t356 x11_9 t366 true)) else (epitomelaw15_SnapSizes.j2 k2 t355 t356 x11_9 t366 true)) else (epitomelaw15_SnapSizes.j2 k2 t355 t356 x11_9 t366 true)) else (epitomelaw15_SnapSizes.j2 k2 t355 t356 x11_9 t366 true)) = some r := by rw [if_pos rfl] at H; exact H
                    clear H
                    have H := H1
                    clear H1
                    by_cases c25 : t357 = 0
                    · rw [if_pos c25] at H
                      have c25b0 : (t357 == 0) = true := beq_iff_eq.mpr c25
                      have c25b1 : (t357 != 0) = false := bne_eq_false_iff_eq.mpr c25
                      clear c25
                      (first | rw [c25b0] | (simp only [i64_w, i32_w]; rw [c25b0]) | skip)
                      by_cases c26 : t367 = 0
                      · rw [if_pos c26] at H
                        have c26b0 : (t367 == 0) = true := beq_iff_eq.mpr c26
                        have c26b1 : (t367 != 0) = false := bne_eq_false_iff_eq.mpr c26
                        clear c26
                        by_cases c27 : (t356.length : Int) = (wrap64 ((t355.size : Int) + x11_9))
                        · rw [if_pos c27] at H
                          have c27b0 : ((t356.length : Int) == (wrap64 ((t355.size : Int) + x11_9))) = true := beq_iff_eq.mpr c27
                          have c27b1 : ((t356.length : Int) != (wrap64 ((t355.size : Int) + x11_9))) = false := bne_eq_false_iff_eq.mpr c27
                          clear c27
                          by_cases c28 : (t366.length : Int) = (wrap64 ((wrap64 (1 + (Int.tmod (wrap64 (a2)) 100))) + 1))
                          · rw [if_pos c28] at H
                            have c28b0 : ((t366.length : Int) == (wrap64 ((wrap64 (1 + (Int.tmod (wrap64 (a2)) 100))) + 1))) = true := beq_iff_eq.mpr c28
                            have c28b1 : ((t366.length : Int) != (wrap64 ((wrap64 (1 + (Int.tmod (wrap64 (a2)) 100))) + 1))) = false := bne_eq_false_iff_eq.mpr c28
                            clear c28
                            by_cases c29 : 0 < (t366.length : Int)
                            · rw [if_pos c29] at H
                              have c29b0 : decide (0 < (t366.length : Int)) = true := decide_eq_true c29
                              have c29b1 : decide (0 < t366.length) = true := decide_eq_true (by omega)
                              clear c29
                              by_cases c30 : (wrap64 (rd t366 0)) = (wrap64 (1 + (Int.tmod (wrap64 (a2)) 100)))
                              · rw [if_pos c30] at H
                                have c30b0 : ((wrap64 (rd t366 0)) == (wrap64 (1 + (Int.tmod (wrap64 (a2)) 100)))) = true := beq_iff_eq.mpr c30
                                have c30b1 : ((wrap64 (rd t366 0)) != (wrap64 (1 + (Int.tmod (wrap64 (a2)) 100)))) = false := bne_eq_false_iff_eq.mpr c30
                                clear c30
                                by_cases c31 : 1 < (t366.length : Int)
                                · rw [if_pos c31] at H
                                  have c31b0 : decide (1 < (t366.length : Int)) = true := decide_eq_true c31
                                  have c31b1 : decide (1 < t366.length) = true := decide_eq_true (by omega)
                                  clear c31
                                  have H' := Aside0.mk H
                                  clear H
                                  obtain ⟨Ao32, co32, eo32⟩ := Kd.R_slice HO_9.out
                                  subst eo32
                                  obtain ⟨Ao33, co33, eo33⟩ := Kd.R_slice HO369.out
                                  subst eo33
                                  have p370 : 0 ≤ (0 : Int) := (by omega)
                                  have q370 : 0 < (t366.length : Int) := of_decide_eq_true (by first | (with_reducible assumption) | assumption)
                                  obtain ⟨ad370, e370, hx370_0⟩ := Kd.at_int (Kd.R_reads' HO369.out).2.2 0 p370 q370
                                  cases e370
                                  have qi370 : (0 < t366.length) = True := eq_true (by omega)
                                  (try rw [show ((0 : Int)).toNat = 0 from rfl] at hx370_0)
                                  (try rw [Addr.add_zero'] at hx370_0)
                                  replace p370 := eq_true p370
                                  replace q370 := eq_true q370
                                  have p371 : 0 ≤ (1 : Int) := (by omega)
                                  have q371 : 1 < (t366.length : Int) := of_decide_eq_true (by first | (with_reducible assumption) | assumption)
                                  obtain ⟨ad371, e371, hx371_0⟩ := Kd.at_int (Kd.R_reads' HO369.out).2.2 1 p371 q371
                                  obtain rfl : ad370 = ad371 := (by injection e371)
                                  (try simp only [show (1 : Int).toNat = 1 from rfl, Nat.reduceMul, Nat.reduceEqDiff, Go.Addr.add, ↓reduceIte] at hx371_0)
                                  have qi371 : (1 < t366.length) = True := eq_true (by omega)
                                  (try rw [show ((1 : Int)).toNat = 1 from rfl] at hx371_0)
                                  replace p371 := eq_true p371
                                  replace q371 := eq_true q371
                                  go_wp2
                                  go_meet
                                  case rel => exact ⟨_, (((rd t366 1) != (Go.bits .and .u8 a1 127))), (by first | rfl | (simp; done) | (simp [*]; done)), H', ⟨by have := HJ9.out; have := HK2.out; first | omega | exact Nat.le_refl _⟩, ⟨by (with_reducible repeat (first | apply Kd.R_alloc | apply Kd.R_drewN | apply Kd.R_drew)); exact Kd.R_mono HO_9.out (fun _ hk => hk.2)⟩, ⟨by (with_reducible repeat (first | apply Kd.R_alloc | apply Kd.R_drewN | apply Kd.R_drew)); exact Kd.R_mono HO369.out (fun _ hk => hk.2)⟩, ⟨by repeat (first | (with_reducible first | exact HB.out | apply below_alloc | apply pw_below_drewN | apply below_drew1) | exact HB.out)⟩⟩
                                · rw [if_neg c31] at H
                                  exact absurd H (by simp)
                              · rw [if_neg c30] at H
                                have c30b0 : ((wrap64 (rd t366 0)) == (wrap64 (1 + (Int.tmod (wrap64 (a2)) 100)))) = false := beq_eq_false_iff_ne.mpr c30
                                have c30b1 : ((wrap64 (rd t366 0)) != (wrap64 (1 + (Int.tmod (wrap64 (a2)) 100)))) = true := bne_iff_ne.mpr c30
                                have H' := Aside0.mk H
                                clear H
                                obtain ⟨Ao34, co34, eo34⟩ := Kd.R_slice HO_9.out
                                subst eo34
                                obtain ⟨Ao35, co35, eo35⟩ := Kd.R_slice HO369.out
                                subst eo35
                                have p370 : 0 ≤ (0 : Int) := (by omega)
                                have q370 : 0 < (t366.length : Int) := of_decide_eq_true (by first | (with_reducible assumption) | assumption)
                                obtain ⟨ad370, e370, hx370_0⟩ := Kd.at_int (Kd.R_reads' HO369.out).2.2 0 p370 q370
                                cases e370
                                have qi370 : (0 < t366.length) = True := eq_true (by omega)
                                (try rw [show ((0 : Int)).toNat = 0 from rfl] at hx370_0)
                                (try rw [Addr.add_zero'] at hx370_0)
                                replace p370 := eq_true p370
                                replace q370 := eq_true q370
                                go_wp2
                                go_meet
                                case rel => exact ⟨_, (true), (by first | rfl | (simp; done) | (simp [*]; done)), H', ⟨by have := HJ9.out; have := HK2.out; first | omega | exact Nat.le_refl _⟩, ⟨by (with_reducible repeat (first | apply Kd.R_alloc | apply Kd.R_drewN | apply Kd.R_drew)); exact Kd.R_mono HO_9.out (fun _ hk => hk.2)⟩, ⟨by (with_reducible repeat (first | apply Kd.R_alloc | apply Kd.R_drewN | apply Kd.R_drew)); exact Kd.R_mono HO369.out (fun _ hk => hk.2)⟩, ⟨by repeat (first | (with_reducible first | exact HB.out | apply below_alloc | apply pw_below_drewN | apply below_drew1) | exact HB.out)⟩⟩
                            · rw [if_neg c29] at H
                              exact absurd H (by simp)
                          · rw [if_neg c28] at H
                            have c28b0 : ((t366.length : Int) == (wrap64 ((wrap64 (1 + (Int.tmod (wrap64 (a2)) 100))) + 1))) = false := beq_eq_false_iff_ne.mpr c28
                            have c28b1 : ((t366.length : Int) != (wrap64 ((wrap64 (1 + (Int.tmod (wrap64 (a2)) 100))) + 1))) = true := bne_iff_ne.mpr c28
                            have H' := Aside0.mk H
                            clear H
                            obtain ⟨Ao36, co36, eo36⟩ := Kd.R_slice HO_9.out
                            subst eo36
                            obtain ⟨Ao37, co37, eo37⟩ := Kd.R_slice HO369.out
                            subst eo37
                            go_wp2
                            go_meet
                            case rel => exact ⟨_, (true), (by first | rfl | (simp; done) | (simp [*]; done)), H', ⟨by have := HJ9.out; have := HK2.out; first | omega | exact Nat.le_refl _⟩, ⟨by (with_reducible repeat (first | apply Kd.R_alloc | apply Kd.R_drewN | apply Kd.R_drew)); exact Kd.R_mono HO_9.out (fun _ hk => hk.2)⟩, ⟨by (with_reducible repeat (first | apply Kd.R_alloc | apply Kd.R_drewN | apply Kd.R_drew)); exact Kd.R_mono HO369.out (fun _ hk => hk.2)⟩, ⟨by repeat (first | (with_reducible first | exact HB.out | apply below_alloc | apply pw_below_drewN | apply below_drew1) | exact HB.out)⟩⟩
                        · rw [if_neg c27] at H
                          have c27b0 : ((t356.length : Int) == (wrap64 ((t355.size : Int) + x11_9))) = false := beq_eq_false_iff_ne.mpr c27
                          have c27b1 : ((t356.length : Int) != (wrap64 ((t355.size : Int) + x11_9))) = true := bne_iff_ne.mpr c27
                          have H' := Aside0.mk H
                          clear H
                          obtain ⟨Ao38, co38, eo38⟩ := Kd.R_slice HO_9.out
                          subst eo38
                          go_wp2
                          go_meet
                          case rel => exact ⟨_, (true), (by first | rfl | (simp; done) | (simp [*]; done)), H', ⟨by have := HJ9.out; have := HK2.out; first | omega | exact Nat.le_refl _⟩, ⟨by (with_reducible repeat (first | apply Kd.R_alloc | apply Kd.R_drewN | apply Kd.R_drew)); exact Kd.R_mono HO_9.out (fun _ hk => hk.2)⟩, ⟨by (with_reducible repeat (first | apply Kd.R_alloc | apply Kd.R_drewN | apply Kd.R_drew)); exact Kd.R_mono HO369.out (fun _ hk => hk.2)⟩, ⟨by repeat (first | (with_reducible first | exact HB.out | apply below_alloc | apply pw_below_drewN | apply below_drew1) | exact HB.out)⟩⟩
                      · rw [if_neg c26] at H
                        have c26b0 : (t367 == 0) = false := beq_eq_false_iff_ne.mpr c26
                        have c26b1 : (t367 != 0) = true := bne_iff_ne.mpr c26
                        have H' := Aside0.mk H
                        clear H
                        go_wp2
                        go_meet
                        case rel => exact ⟨_, (true), (by first | rfl | (simp; done) | (simp [*]; done)), H', ⟨by have := HJ9.out; have := HK2.out; first | omega | exact Nat.le_refl _⟩, ⟨by (with_reducible repeat (first | apply Kd.R_alloc | apply Kd.R_drewN | apply Kd.R_drew)); exact Kd.R_mono HO_9.out (fun _ hk => hk.2)⟩, ⟨by (with_reducible repeat (first | apply Kd.R_alloc | apply Kd.R_drewN | apply Kd.R_drew)); exact Kd.R_mono HO369.out (fun _ hk => hk.2)⟩, ⟨by repeat (first | (with_reducible first | exact HB.out | apply below_alloc | apply pw_below_drewN | apply below_drew1) | exact HB.out)⟩⟩
                    · rw [if_neg c25] at H
                      have c25b0 : (t357 == 0) = false := beq_eq_false_iff_ne.mpr c25
                      have c25b1 : (t357 != 0) = true := bne_iff_ne.mpr c25
                      (first | rw [c25b0] | (simp only [i64_w, i32_w]; rw [c25b0]) | skip)
                      have H' := Aside0.mk H
                      clear H
                      go_wp2
                      go_meet
                      case rel => exact ⟨_, (true), (by first | rfl | (simp; done) | (simp [*]; done)), H', ⟨by have := HJ9.out; have := HK2.out; first | omega | exact Nat.le_refl _⟩, ⟨by (with_reducible repeat (first | apply Kd.R_alloc | apply Kd.R_drewN | apply Kd.R_drew)); exact Kd.R_mono HO_9.out (fun _ hk => hk.2)⟩, ⟨by (with_reducible repeat (first | apply Kd.R_alloc | apply Kd.R_drewN | apply Kd.R_drew)); exact Kd.R_mono HO369.out (fun _ hk => hk.2)⟩, ⟨by repeat (first | (with_reducible first | exact HB.out | apply below_alloc | apply pw_below_drewN | apply below_drew1) | exact HB.out)⟩⟩
                  · replace c24 := Bool.eq_false_iff.mpr c24
                    subst c24
                    have H1 : (epitomelaw15_SnapSizes.j2 k2 t355 t356 x11_9 t366 true) = some r := by rw [if_neg (show ¬ (false = true) by decide)] at H; exact H
                    clear H
                    have H := H1
                    clear H1
                    have H' := Aside0.mk H
                    clear H
                    go_wp2
                    go_meet
                    case rel => exact ⟨_, (true), (by first | rfl | (simp; done) | (simp [*]; done)), H', ⟨by have := HJ9.out; have := HK2.out; first | omega | exact Nat.le_refl _⟩, ⟨by (with_reducible repeat (first | apply Kd.R_alloc | apply Kd.R_drewN | apply Kd.R_drew)); exact Kd.R_mono HO_9.out (fun _ hk => hk.2)⟩, ⟨by (with_reducible repeat (first | apply Kd.R_alloc | apply Kd.R_drewN | apply Kd.R_drew)); exact Kd.R_mono HO369.out (fun _ hk => hk.2)⟩, ⟨by repeat (first | (with_reducible first | exact HB.out | apply below_alloc | apply pw_below_drewN | apply below_drew1) | exact HB.out)⟩⟩
                case rest =>
                  clear HC21
                  try clear c1
                  try clear c2
                  try clear p2
                  try clear c3
                  try clear p3
                  try clear q3
                  try clear hx3
                  try clear qi3
                  try clear c6
                  try clear c6b0
                  try clear c6b1
                  try clear p6
                  try clear c7
                  try clear c7b0
                  try clear c7b1
                  try clear c10
                  try clear c14
                  try clear c14b0
                  try clear c14b1
                  try clear c17
                  try clear c17b0
                  try clear c18
                  try clear c22
                  try clear c24
                  try clear c25
                  try clear c25b0
                  try clear c25b1
                  try clear c26
                  try clear c26b0
                  try clear c26b1
                  try clear c27
                  try clear c27b0
                  try clear c27b1
                  try clear c28
                  try clear c28b0
                  try clear c28b1
                  try clear c29
                  try clear c29b0
                  try clear c29b1
                  try clear c30
                  try clear c30b0
                  try clear c30b1
                  try clear c31
                  try clear c31b0
                  try clear c31b1
                  try clear c33
                  try clear p37
                  try clear q37
                  try clear hx37
                  try clear qi37
                  try clear hx370_0
                  try clear hx371_0
                  try clear p2
                  try clear p370
                  try clear p371
                  try clear p6
                  try clear q370
                  try clear q371
                  obtain ⟨kq, x97_20, rfl, HA, HJ20, HO_9, HO_15, HB⟩ := hcut
                  cases kq with
                  | zero => exact absurd HA.out (by simp [epitomelaw15_SnapSizes.j2])
                  | succ kj20 =>
                    have H := HA.out
                    clear HA
                    simp only [epitomelaw15_SnapSizes.j2] at H
                    by_cases c39 : x97_20 = true
                    · subst c39
                      have H1 : (some false) = some r := by rw [if_pos rfl] at H; exact H
                      clear H
                      have H := H1
                      clear H1
                      obtain rfl := Option.some.inj H
                      exact absurd HLAW.out (by decide)
                    · replace c39 := Bool.eq_false_iff.mpr c39
                      subst c39
                      have H1 : (epitomelaw15_SnapSizes.l1 kj20 t355 t356 x11_9 t366 2) = some r := by rw [if_neg (show ¬ (false = true) by decide)] at H; exact H
                      clear H
                      have H := H1
                      clear H1
                      have H' := Aside0.mk H
                      clear H
                      go_wp2
                      go_loopg [17] kj20 (fun kq v17 w' => ∃ (x17_4 : Int), v17 = .int .i64 x17_4 ∧ Aside0 (epitomelaw15_SnapSizes.l1 kq t355 t356 x11_9 t366 x17_4 = some r) ∧ Aside0 (kq ≤ kj20) ∧ Aside0 (Kd.R (Kd.int .u8) 5 w' w.heap.size (fun k_ => some k_ ≠ (v368 : Value).ownBlock) v358 t356) ∧ Aside0 (Kd.R (Kd.int .u8) 5 w' w.heap.size (fun k_ => some k_ ≠ (v358 : Value).ownBlock) v368 t366) ∧ Aside0 (Below w.heap.size w w'))
                      case atStart => exact ⟨(2), (by first | rfl | (simp; done) | (simp [*]; done)), H', ⟨Nat.le_refl _⟩, ⟨by (with_reducible repeat (first | apply Kd.R_alloc | apply Kd.R_drewN | apply Kd.R_drew)); exact HO_9.out⟩, ⟨by (with_reducible repeat (first | apply Kd.R_alloc | apply Kd.R_drewN | apply Kd.R_drew)); exact HO_15.out⟩, ⟨by repeat (first | (with_reducible first | exact HB.out | apply below_alloc | apply pw_below_drewN | apply below_drew1) | exact HB.out)⟩⟩
                      case round =>
                        clear H'
                        try clear c1
                        try clear c2
                        try clear p2
                        try clear c3
                        try clear p3
                        try clear q3
                        try clear hx3
                        try clear qi3
                        try clear c6
                        try clear c6b0
                        try clear c6b1
                        try clear p6
                        try clear c7
                        try clear c7b0
                        try clear c7b1
                        try clear c10
                        try clear c14
                        try clear c14b0
                        try clear c14b1
                        try clear c17
                        try clear c17b0
                        try clear c18
                        try clear c22
                        try clear c24
                        try clear c25
                        try clear c25b0
                        try clear c25b1
                        try clear c26
                        try clear c26b0
                        try clear c26b1
                        try clear c27
                        try clear c27b0
                        try clear c27b1
                        try clear c28
                        try clear c28b0
                        try clear c28b1
                        try clear c29
                        try clear c29b0
                        try clear c29b1
                        try clear c30
                        try clear c30b0
                        try clear c30b1
                        try clear c31
                        try clear c31b0
                        try clear c31b1
                        try clear c33
                        try clear p37
                        try clear q37
                        try clear hx37
                        try clear qi37
                        try clear c39
                        try clear hx370_0
                        try clear hx371_0
                        try clear p2
                        try clear p3
                        try clear p37
                        try clear p370
                        try clear p371
                        try clear p6
                        try clear q3
                        try clear q37
                        try clear q370
                        try clear q371
                        obtain ⟨x17_4, rfl, HA, HK4, HO_9, HO_15, HB⟩ := hrel
                        cases gk with
                        | zero => exact absurd HA.out (by simp [epitomelaw15_SnapSizes.l1])
                        | succ k4 =>
                          have H := HA.out
                          clear HA
                          simp only [epitomelaw15_SnapSizes.l1] at H
                          by_cases c40 : x17_4 < (t366.length : Int)
                          · rw [if_pos c40] at H
                            have c40b0 : decide (x17_4 < (t366.length : Int)) = true := decide_eq_true c40
                            clear c40
                            by_cases c41 : 0 ≤ x17_4
                            · rw [if_pos c41] at H
                              have c41b0 : decide (0 ≤ x17_4) = true := decide_eq_true c41
                              clear c41
                              by_cases c42 : (rd t366 x17_4) = 0
                              · rw [if_pos c42] at H
                                have c42b0 : ((rd t366 x17_4) == 0) = true := beq_iff_eq.mpr c42
                                have c42b1 : ((rd t366 x17_4) != 0) = false := bne_eq_false_iff_eq.mpr c42
                                clear c42
                                have H' := Aside0.mk H
                                clear H
                                obtain ⟨Ao43, co43, eo43⟩ := Kd.R_slice HO_15.out
                                subst eo43
                                have p372 : 0 ≤ (x17_4 : Int) := of_decide_eq_true (by first | (with_reducible assumption) | assumption)
                                have q372 : x17_4 < (t366.length : Int) := of_decide_eq_true (by first | (with_reducible assumption) | assumption)
                                obtain ⟨ad372, e372, hx372_0⟩ := Kd.at_int (Kd.R_reads' HO_15.out).2.2 x17_4 p372 q372
                                cases e372
                                replace p372 := eq_true p372
                                replace q372 := eq_true q372
                                go_wp2
                                go_roundg k4
                                case measure => have := HJ9.out; have := HK2.out; have := HJ20.out; have := HK4.out; omega
                                case rel => exact ⟨(wrap64 (x17_4 + 1)), (by first | rfl | (simp; done) | (simp [*]; done)), H', ⟨by have := HJ9.out; have := HK2.out; have := HJ20.out; have := HK4.out; omega⟩, ⟨by (with_reducible repeat (first | apply Kd.R_alloc | apply Kd.R_drewN | apply Kd.R_drew)); exact HO_9.out⟩, ⟨by (with_reducible repeat (first | apply Kd.R_alloc | apply Kd.R_drewN | apply Kd.R_drew)); exact HO_15.out⟩, ⟨by repeat (first | (with_reducible first | exact HB.out | apply below_alloc | apply pw_below_drewN | apply below_drew1) | exact HB.out)⟩⟩
                              · rw [if_neg c42] at H
                                have c42b0 : ((rd t366 x17_4) == 0) = false := beq_eq_false_iff_ne.mpr c42
                                have c42b1 : ((rd t366 x17_4) != 0) = true := bne_iff_ne.mpr c42
                                obtain rfl := Option.some.inj H
                                exact absurd HLAW.out (by decide)
                            · rw [if_neg c41] at H
                              exact absurd H (by simp)
                          · rw [if_neg c40] at H
                            have c40b0 : decide (x17_4 < (t366.length : Int)) = false := decide_eq_false c40
                            clear c40
                            by_cases c44 : 0 ≤ x11_9
                            · rw [if_pos c44] at H
                              have c44b0 := eq_true c44
                              have c44b1 : decide (0 ≤ x11_9) = true := decide_eq_true c44
                              clear c44
                              by_cases c45 : x11_9 ≤ (t356.length : Int)
                              · rw [if_pos c45] at H
                                have c45b0 := eq_true c45
                                have c45b1 : decide (x11_9 ≤ (t356.length : Int)) = true := decide_eq_true c45
                                clear c45
                                obtain ⟨y373, hy373⟩ : ∃ y_ : List Int, y_ = (t356.drop (x11_9 : Int).toNat) := ⟨_, rfl⟩
                                replace H : (some ((strOfNums y373).toList == t355.toList)) = some r := by first | (rw [hy373]; with_reducible exact H) | (have H2_ := (Option.bind_some _ _).symm.trans H; rw [hy373]; with_reducible exact H2_) | (have H2_ := (Option.bind_some _ _).symm.trans H; with_reducible exact H2_) | with_reducible exact H | (rw [hy373]; exact H) | exact H
                                have Ny373 := Aside0.mk hy373
                                clear hy373
                                obtain rfl := Option.some.inj H
                                simp only [Option.some.injEq, Prod.mk.injEq] at H
                                obtain ⟨rfl⟩ := H
                                obtain ⟨Ao46, co46, eo46⟩ := Kd.R_slice HO_15.out
                                subst eo46
                                obtain ⟨Ao48, co48, eo48⟩ := Kd.R_slice HO_9.out
                                subst eo48
                                have q47 : (x11_9 : Int) ≤ ((t356.length : Int) : Int) := of_decide_eq_true (by first | (with_reducible assumption) | assumption)
                                obtain ⟨i047, hi047, _, hsz47, _⟩ := info_parts info5
                                have hroom47 : t356.length ≤ co48 := (Kd.R_reads' HO_9.out).2.1
                                have hC47 : Kd.C (Kd.int .u8) _ Ao48 t356.length t356 := (Kd.R_reads' HO_9.out).2.2
                                have q047 : (0 : Int) ≤ (x11_9 : Int) := of_decide_eq_true (by first | (with_reducible assumption) | assumption)
                                have hcut47 := cut_from (P := Tryd.prog) 32 5 .i64 Tryd.underlying32 hi047 1 hsz47 Ao48 t356.length co48 x11_9 q047 q47
                                have hr47 := Kd.C_drop (m := (x11_9 : Int).toNat) (c := co48) hC47 (by omega) hroom47
                                obtain ⟨A47, hA47⟩ : ∃ A1, A1 = (if co48 = (x11_9 : Int).toNat then Ao48 else (Ao48 : Option Addr).map (·.add ((x11_9 : Int).toNat * 1))) := ⟨_, rfl⟩
                                obtain ⟨c47, hc47⟩ : ∃ c1, c1 = co48 - (x11_9 : Int).toNat := ⟨_, rfl⟩
                                have hy47 : y373.length = t356.length - (x11_9 : Int).toNat := (by rw [Ny373.out, List.length_drop] <;> omega)
                                rw [show (t356).drop (x11_9 : Int).toNat = y373 from Ny373.out.symm] at hr47
                                replace hr47 : Kd.C (Kd.int .u8) _ A47 y373.length y373 := (by rw [hA47]; exact hr47)
                                rw [← hy47, ← hA47, ← hc47] at hcut47
                                have HR376 := Aside0.mk hr47
                                have HC376 := Aside0.mk (show y373.length ≤ c47 from by rw [hy47, hc47]; exact Nat.sub_le_sub_right hroom47 _)
                                clear hr47 hC47 hroom47 hi047 hsz47 hc47
                                have KY47 := Aside0.mk hy47
                                have KA47 := Aside0.mk hA47
                                clear hy47 hA47
                                have KL47 := Aside0.mk (show (x11_9 : Int).toNat ≤ t356.length from by omega)
                                replace q47 := eq_true q47
                                have hcv49 := Kd.C_string (P := Tryd.prog) (A := A47) (c := c47) Tryd.underlying32 Tryd.underlying5 Tryd.underlying9 (by repeat (first | (with_reducible exact HR376.out) | (with_reducible refine Kd.C_alloc ?_ _) | (with_reducible refine Kd.C_drewN ?_ _) | (with_reducible refine Kd.C_drew ?_) | exact HR376.out))
                                have hcv50 := fun (m_ : Nat) => Kd.C_string (P := Tryd.prog) (A := A47) (c := c47) Tryd.underlying32 Tryd.underlying5 Tryd.underlying9 (Kd.C_drewN (by repeat (first | (with_reducible exact HR376.out) | (with_reducible refine Kd.C_alloc ?_ _) | (with_reducible refine Kd.C_drewN ?_ _) | (with_reducible refine Kd.C_drew ?_) | exact HR376.out)) m_)
                                go_wp2
                                go_ret
                                exact ⟨by first | rfl | (simp [errW_none, errW_some] <;> rfl) | (simp only [← hji5]; first | rfl | (simp [errW_none, errW_some] <;> rfl)) | (simp [*, errW_none, errW_some] <;> rfl), by repeat (first | (with_reducible first | exact HB.out | apply below_alloc | apply pw_below_drewN | apply below_drew1) | exact HB.out)⟩
                              · rw [if_neg c45] at H
                                exact absurd H (by simp)
                            · rw [if_neg c44] at H
                              exact absurd H (by simp)
    · rw [if_neg c7] at H
      exact absurd H (by simp)
  · rw [if_neg c6] at H
    exact absurd H (by simp)

/-- THE ONE PURE STATEMENT of epitomelaw15_SnapSizes: yours. -/
def epitomelaw15_SnapSizes.Pure : Prop := ∀ (a0 : ByteArray) (a1 : Int) (a2 : Int), a0.size ≤ 140737488351232 → (Lit.int .u8 a1).wf = true → (Lit.int .u8 a2).wf = true → ∃ k, epitomelaw15_SnapSizes.f k a0 a1 a2 = some true
theorem epitomelaw15_SnapSizes.walk (P : epitomelaw15_SnapSizes.Pure) (a0 : ByteArray) (a1 : Int) (a2 : Int) (w : World) (hT : Tabs w) (w0 : a0.size ≤ 140737488351232) (w1 : (Lit.int .u8 a1).wf = true) (w2 : (Lit.int .u8 a2).wf = true) :
    Calls Tryd.prog 10 #[.string a0, .int .u8 a1, .int .u8 a2] w fun e w' => e = .returned (.bool true) ∧ Below w.heap.size w w' := by
  obtain ⟨k, h⟩ := P a0 a1 a2 w0 w1 w2
  refine (epitomelaw15_SnapSizes.calls k a0 a1 a2 true w hT h rfl).mono ?_
  rintro e w' ⟨rfl, hd⟩
  exact ⟨rfl, hd⟩

end Go.Proofs.YtolljobehfmffaaDoor.P
