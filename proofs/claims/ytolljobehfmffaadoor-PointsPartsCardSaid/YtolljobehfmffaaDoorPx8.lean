-- WRITTEN BY A PROGRAM OF THIS SESSION (wip/pp in its repo), made after the kit's print
import Derived.Test.YtolljobehfmffaaDoorPx0
import Derived.Test.YtolljobehfmffaaDoorPx1
import Derived.Test.YtolljobehfmffaaDoorPx2
import Derived.Test.YtolljobehfmffaaDoorPx7
namespace Go.Proofs.YtolljobehfmffaaDoor.P
open Go.RowKit Go.Proofs.YtolljobehfmffaaDoorW.PrintWords Go.Proofs.YtolljobehfmffaaDoorW.PrintLast Go.Proofs.YtolljobehfmffaaDoorW.PrintMore
attribute [local go_sem] max2_int min2_int max_two min_two max_three min_three max_four min_four   -- for this text's walks alone
set_option linter.unusedVariables false
set_option linter.unusedSimpArgs false

/-! ### epitomelaw01_PointsParts: function 4 -/
def epitomelaw01_PointsParts.j0 : Nat → Int → Int → ByteArray → Int → Bool → Option (Bool)
  | 0, _, _, _, _, _ => none
  | k + 1, x1, x2, x8, x9, x33 => if x33 = true then (some false) else (if (wrap64 (x9 + 1)) = 0 then (none) else (if (wrap64 ((wrap64 (x9 - (Int.tmod (wrap64 (x1)) (wrap64 (x9 + 1))))) + 1)) = 0 then (none) else ((points_Cut.f x8 0 (Int.tmod (wrap64 (x1)) (wrap64 (x9 + 1)))).bind fun bt167 => ((points_Cut.f x8 (Int.tmod (wrap64 (x1)) (wrap64 (x9 + 1))) (wrap64 ((Int.tmod (wrap64 (x1)) (wrap64 (x9 + 1))) + (Int.tmod (wrap64 (x2)) (wrap64 ((wrap64 (x9 - (Int.tmod (wrap64 (x1)) (wrap64 (x9 + 1))))) + 1)))))).bind fun bt169 => ((points_Cut.f x8 (wrap64 ((Int.tmod (wrap64 (x1)) (wrap64 (x9 + 1))) + (Int.tmod (wrap64 (x2)) (wrap64 ((wrap64 (x9 - (Int.tmod (wrap64 (x1)) (wrap64 (x9 + 1))))) + 1))))) x9).bind fun bt171 => ((points_Cut.f x8 (wrap64 ((Int.tmod (wrap64 (x1)) (wrap64 (x9 + 1))) + (Int.tmod (wrap64 (x2)) (wrap64 ((wrap64 (x9 - (Int.tmod (wrap64 (x1)) (wrap64 (x9 + 1))))) + 1))))) (wrap64 (x9 + 1))).bind fun bt173 => ((points_Cut.f x8 (wrap64 ((wrap64 ((Int.tmod (wrap64 (x1)) (wrap64 (x9 + 1))) + (Int.tmod (wrap64 (x2)) (wrap64 ((wrap64 (x9 - (Int.tmod (wrap64 (x1)) (wrap64 (x9 + 1))))) + 1))))) + 1)) (wrap64 ((Int.tmod (wrap64 (x1)) (wrap64 (x9 + 1))) + (Int.tmod (wrap64 (x2)) (wrap64 ((wrap64 (x9 - (Int.tmod (wrap64 (x1)) (wrap64 (x9 + 1))))) + 1)))))).bind fun bt175 => (if bt167.2 = 0 then (if bt169.2 = 0 then (if bt171.2 = 0 then (if bt173.2 = 6 then (if bt175.2 = 6 then (if bt167.1.size + bt169.1.size ≤ 9223372036854775807 then (if bt167.1.size + bt169.1.size + bt171.1.size ≤ 9223372036854775807 then (if ((bt167.1 ++ bt169.1) ++ bt171.1).toList = x8.toList then ((points_Count.f bt167.1).bind fun t177 => (if t177 = (Int.tmod (wrap64 (x1)) (wrap64 (x9 + 1))) then ((points_Count.f bt169.1).bind fun t178 => (if t178 = (wrap64 ((wrap64 ((Int.tmod (wrap64 (x1)) (wrap64 (x9 + 1))) + (Int.tmod (wrap64 (x2)) (wrap64 ((wrap64 (x9 - (Int.tmod (wrap64 (x1)) (wrap64 (x9 + 1))))) + 1))))) - (Int.tmod (wrap64 (x1)) (wrap64 (x9 + 1))))) then ((points_Count.f bt171.1).bind fun t179 => (some (t179 == (wrap64 (x9 - (wrap64 ((Int.tmod (wrap64 (x1)) (wrap64 (x9 + 1))) + (Int.tmod (wrap64 (x2)) (wrap64 ((wrap64 (x9 - (Int.tmod (wrap64 (x1)) (wrap64 (x9 + 1))))) + 1)))))))))) else (some false))) else (some false))) else (some false)) else (none)) else (none)) else (some false)) else (some false)) else (some false)) else (some false)) else (some false)))))))))
def epitomelaw01_PointsParts.f (k : Nat) (a0 : ByteArray) (a1 : Int) (a2 : Int) : Option (Bool) := (epitomelaw01_shown.f).bind fun t163 => ((epitomelaw01_few.f a0).bind fun t164 => ((epitomeref01_Fit.f k t164).bind fun t165 => ((points_Count.f t165).bind fun t166 => (if t163 = true then (epitomelaw01_PointsParts.j0 k a1 a2 t165 t166 (decide (t166 < 0))) else (epitomelaw01_PointsParts.j0 k a1 a2 t165 t166 true)))))
theorem epitomelaw01_PointsParts.mono_l : ∀ k, (∀ y0 y1 y2 y3 y4, LeO (epitomelaw01_PointsParts.j0 k y0 y1 y2 y3 y4) (epitomelaw01_PointsParts.j0 (k + 1) y0 y1 y2 y3 y4))
  | 0 => fun _ _ _ _ _ r h => by simp [epitomelaw01_PointsParts.j0] at h
  | k + 1 => by
    have ih0 := epitomelaw01_PointsParts.mono_l k
    · intro y0 y1 y2 y3 y4
      unfold epitomelaw01_PointsParts.j0
      repeat' first
      | (with_reducible exact ih0 _ _ _ _ _)
      | (with_reducible exact epitomeref01_Fit.mono _ _)
      | (with_reducible exact LeO.refl _)
      | (with_reducible exact LeO.none _)
      | (with_reducible refine LeO.ite ?_ ?_)
      | (with_reducible refine LeO.bind ?_ (fun _ => ?_))
      | exact ih0 _ _ _ _ _
      | exact epitomeref01_Fit.mono _ _
      | exact LeO.none _
      | refine LeO.ite ?_ ?_
      | refine LeO.bind ?_ (fun _ => ?_)
theorem epitomelaw01_PointsParts.mono : ∀ a0 a1 a2 k, LeO (epitomelaw01_PointsParts.f k a0 a1 a2) (epitomelaw01_PointsParts.f (k + 1) a0 a1 a2) := by
  intro a0 a1 a2 k
  have ih0 := epitomelaw01_PointsParts.mono_l k
  unfold epitomelaw01_PointsParts.f
  repeat' first
      | (with_reducible exact ih0 _ _ _ _ _)
      | (with_reducible exact epitomeref01_Fit.mono _ _)
      | (with_reducible exact LeO.refl _)
      | (with_reducible exact LeO.none _)
      | (with_reducible refine LeO.ite ?_ ?_)
      | (with_reducible refine LeO.bind ?_ (fun _ => ?_))
      | exact ih0 _ _ _ _ _
      | exact epitomeref01_Fit.mono _ _
      | exact LeO.none _
      | refine LeO.ite ?_ ?_
      | refine LeO.bind ?_ (fun _ => ?_)
set_option maxHeartbeats 8000000 in
set_option maxRecDepth 100000 in
theorem epitomelaw01_PointsParts.calls (k : Nat) (a0 : ByteArray) (a1 : Int) (a2 : Int) (r : Bool) (w : World) (hT : Tabs w) (h : epitomelaw01_PointsParts.f k a0 a1 a2 = some r) (hlaw : r = true) :
    Calls Tryd.prog 4 #[.string a0, .int .u16 a1, .int .u16 a2] w fun e w' => e = .returned (.bool r) ∧ Below w.heap.size w w' := by
  have HLAW := Aside0.mk hlaw
  clear hlaw
  have HT := Aside0.mk hT
  clear hT
  have HB := Aside0.mk (Below.refl w.heap.size w)
  have H : ((epitomelaw01_shown.f).bind fun t163 => ((epitomelaw01_few.f a0).bind fun t164 => ((epitomeref01_Fit.f k t164).bind fun t165 => ((points_Count.f t165).bind fun t166 => (if t163 = true then (epitomelaw01_PointsParts.j0 k a1 a2 t165 t166 (decide (t166 < 0))) else (epitomelaw01_PointsParts.j0 k a1 a2 t165 t166 true)))))) = some r := h
  clear h
  replace H := Option.bind_eq_some_iff.mp H
  obtain ⟨t163, A40, H⟩ := H
  replace H : ((epitomelaw01_few.f a0).bind fun t164 => ((epitomeref01_Fit.f k t164).bind fun t165 => ((points_Count.f t165).bind fun t166 => (if t163 = true then (epitomelaw01_PointsParts.j0 k a1 a2 t165 t166 (decide (t166 < 0))) else (epitomelaw01_PointsParts.j0 k a1 a2 t165 t166 true))))) = some r := H
  have A4 := Aside0.mk A40
  clear A40
  replace H := Option.bind_eq_some_iff.mp H
  obtain ⟨t164, A50, H⟩ := H
  replace H : ((epitomeref01_Fit.f k t164).bind fun t165 => ((points_Count.f t165).bind fun t166 => (if t163 = true then (epitomelaw01_PointsParts.j0 k a1 a2 t165 t166 (decide (t166 < 0))) else (epitomelaw01_PointsParts.j0 k a1 a2 t165 t166 true)))) = some r := H
  have A5 := Aside0.mk A50
  clear A50
  replace H := Option.bind_eq_some_iff.mp H
  obtain ⟨t165, A60, H⟩ := H
  replace H : ((points_Count.f t165).bind fun t166 => (if t163 = true then (epitomelaw01_PointsParts.j0 k a1 a2 t165 t166 (decide (t166 < 0))) else (epitomelaw01_PointsParts.j0 k a1 a2 t165 t166 true))) = some r := H
  have A6 := Aside0.mk A60
  clear A60
  replace H := Option.bind_eq_some_iff.mp H
  obtain ⟨t166, A70, H⟩ := H
  replace H : (if t163 = true then (epitomelaw01_PointsParts.j0 k a1 a2 t165 t166 (decide (t166 < 0))) else (epitomelaw01_PointsParts.j0 k a1 a2 t165 t166 true)) = some r := H
  have A7 := Aside0.mk A70
  clear A70
  have HC8 := Aside0.mk H
  clear H
  go_enter Tryd.func4, Tryd.ntmps4
  go_upto_region 4 with (first | ((with_reducible refine gate_callee (f := 14) rfl ?_); refine goesL_ (some 22) rfl rfl Tryd.func14 (by kernel_rfl) rfl #[] rfl (by (try simp only [List.map_toArray, List.map_cons, List.map_nil]); first | done | rfl | (simp only [List.length_drop, List.length_take]; rfl)) ?_; (with_reducible refine (epitomelaw01_shown.calls  t163 _ ?side1 A4.out).mono ?_); (case side1 => exact Tabs.below HT.out (by repeat (first | (with_reducible first | exact HB.out | apply below_alloc | apply pw_below_drewN | apply below_drew1) | exact HB.out))); rintro e w9 ⟨rfl, hb⟩; refine ⟨_, rfl, ?_⟩; have n0_ := Aside0.mk (below_step (by repeat (first | (with_reducible first | exact HB.out | apply below_alloc | apply pw_below_drewN | apply below_drew1) | exact HB.out)) hb); clear HB; have HB := n0_; clear n0_; (try clear hb); (try clear hb2); (try clear hk); (try clear hi)) | ((with_reducible refine gate_callee (f := 15) rfl ?_); refine goesL_ (some 24) rfl rfl Tryd.func15 (by kernel_rfl) rfl #[.string a0] rfl (by (try simp only [List.map_toArray, List.map_cons, List.map_nil]); first | done | rfl | (simp only [List.length_drop, List.length_take]; rfl)) ?_; (with_reducible refine (epitomelaw01_few.calls a0 t164 _ A5.out).mono ?_); rintro e w10 ⟨rfl, hb⟩; refine ⟨_, rfl, ?_⟩; have n0_ := Aside0.mk (below_step (by repeat (first | (with_reducible first | exact HB.out | apply below_alloc | apply pw_below_drewN | apply below_drew1) | exact HB.out)) hb); clear HB; have HB := n0_; clear n0_; (try clear hb); (try clear hb2); (try clear hk); (try clear hi)) | ((with_reducible refine gate_callee (f := 22) rfl ?_); refine goesL_ (some 25) rfl rfl Tryd.func22 (by kernel_rfl) rfl #[.string t164] rfl (by (try simp only [List.map_toArray, List.map_cons, List.map_nil]); first | done | rfl | (simp only [List.length_drop, List.length_take]; rfl)) ?_; (with_reducible refine (epitomeref01_Fit.calls k t164 t165 _ A6.out).mono ?_); rintro e w11 ⟨rfl, hb⟩; refine ⟨_, rfl, ?_⟩; have n0_ := Aside0.mk (below_step (by repeat (first | (with_reducible first | exact HB.out | apply below_alloc | apply pw_below_drewN | apply below_drew1) | exact HB.out)) hb); clear HB; have HB := n0_; clear n0_; (try clear hb); (try clear hb2); (try clear hk); (try clear hi)) | ((with_reducible refine gate_callee (f := 20) rfl ?_); refine goesL_ (some 27) rfl rfl Tryd.func20 (by kernel_rfl) rfl #[.string t165] rfl (by (try simp only [List.map_toArray, List.map_cons, List.map_nil]); first | done | rfl | (simp only [List.length_drop, List.length_take]; rfl)) ?_; (with_reducible refine (points_Count.calls t165 t166 _ ?side1 A7.out).mono ?_); (case side1 => exact Tabs.below HT.out (by repeat (first | (with_reducible first | exact HB.out | apply below_alloc | apply pw_below_drewN | apply below_drew1) | exact HB.out))); rintro e w12 ⟨rfl, hb⟩; refine ⟨_, rfl, ?_⟩; have n0_ := Aside0.mk (below_step (by repeat (first | (with_reducible first | exact HB.out | apply below_alloc | apply pw_below_drewN | apply below_drew1) | exact HB.out)) hb); clear HB; have HB := n0_; clear n0_; (try clear hb); (try clear hb2); (try clear hk); (try clear hi)))
  (try simp only [Act.put, List.setIfInBounds_toArray, List.set_cons_zero, List.set_cons_succ])
  go_cut [33] (fun v33 wc => ∃ (kq : Nat) (x33_7 : Bool), v33 = .bool x33_7 ∧ Aside0 (epitomelaw01_PointsParts.j0 kq a1 a2 t165 t166 x33_7 = some r) ∧ Aside0 (kq ≤ k) ∧ Aside0 (Below w.heap.size w wc))
  case first =>
    have H := HC8.out
    clear HC8
    by_cases c13 : t163 = true
    · subst c13
      have H1 : (epitomelaw01_PointsParts.j0 k a1 a2 t165 t166 (decide (t166 < 0))) = some r := by rw [if_pos rfl] at H; exact H
      clear H
      have H := H1
      clear H1
      have H' := Aside0.mk H
      clear H
      go_wp2
      go_meet
      case rel => exact ⟨_, (decide (t166 < 0)), (by first | rfl | (simp; done) | (simp [*]; done)), H', ⟨by first | omega | exact Nat.le_refl _⟩, ⟨by repeat (first | (with_reducible first | exact HB.out | apply below_alloc | apply pw_below_drewN | apply below_drew1) | exact HB.out)⟩⟩
    · replace c13 := Bool.eq_false_iff.mpr c13
      subst c13
      have H1 : (epitomelaw01_PointsParts.j0 k a1 a2 t165 t166 true) = some r := by rw [if_neg (show ¬ (false = true) by decide)] at H; exact H
      clear H
      have H := H1
      clear H1
      have H' := Aside0.mk H
      clear H
      go_wp2
      go_meet
      case rel => exact ⟨_, (true), (by first | rfl | (simp; done) | (simp [*]; done)), H', ⟨by first | omega | exact Nat.le_refl _⟩, ⟨by repeat (first | (with_reducible first | exact HB.out | apply below_alloc | apply pw_below_drewN | apply below_drew1) | exact HB.out)⟩⟩
  case rest =>
    clear HC8
    try clear c1
    try clear c2
    try clear p2
    try clear c4
    try clear c13
    obtain ⟨kq, x33_7, rfl, HA, HJ7, HB⟩ := hcut
    cases kq with
    | zero => exact absurd HA.out (by simp [epitomelaw01_PointsParts.j0])
    | succ kj7 =>
      have H := HA.out
      clear HA
      simp only [epitomelaw01_PointsParts.j0] at H
      by_cases c14 : x33_7 = true
      · subst c14
        have H1 : (some false) = some r := by rw [if_pos rfl] at H; exact H
        clear H
        have H := H1
        clear H1
        obtain rfl := Option.some.inj H
        exact absurd HLAW.out (by decide)
      · replace c14 := Bool.eq_false_iff.mpr c14
        subst c14
        have H1 : (if (wrap64 (t166 + 1)) = 0 then (none) else (if (wrap64 ((wrap64 (t166 - (Int.tmod (wrap64 (a1)) (wrap64 (t166 + 1))))) + 1)) = 0 then (none) else ((points_Cut.f t165 0 (Int.tmod (wrap64 (a1)) (wrap64 (t166 + 1)))).bind fun bt167 => ((points_Cut.f t165 (Int.tmod (wrap64 (a1)) (wrap64 (t166 + 1))) (wrap64 ((Int.tmod (wrap64 (a1)) (wrap64 (t166 + 1))) + (Int.tmod (wrap64 (a2)) (wrap64 ((wrap64 (t166 - (Int.tmod (wrap64 (a1)) (wrap64 (t166 + 1))))) + 1)))))).bind fun bt169 => ((points_Cut.f t165 (wrap64 ((Int.tmod (wrap64 (a1)) (wrap64 (t166 + 1))) + (Int.tmod (wrap64 (a2)) (wrap64 ((wrap64 (t166 - (Int.tmod (wrap64 (a1)) (wrap64 (t166 + 1))))) + 1))))) t166).bind fun bt171 => ((points_Cut.f t165 (wrap64 ((Int.tmod (wrap64 (a1)) (wrap64 (t166 + 1))) + (Int.tmod (wrap64 (a2)) (wrap64 ((wrap64 (t166 - (Int.tmod (wrap64 (a1)) (wrap64 (t166 + 1))))) + 1))))) (wrap64 (t166 + 1))).bind fun bt173 => ((points_Cut.f t165 (wrap64 ((wrap64 ((Int.tmod (wrap64 (a1)) (wrap64 (t166 + 1))) + (Int.tmod (wrap64 (a2)) (wrap64 ((wrap64 (t166 - (Int.tmod (wrap64 (a1)) (wrap64 (t166 + 1))))) + 1))))) + 1)) (wrap64 ((Int.tmod (wrap64 (a1)) (wrap64 (t166 + 1))) + (Int.tmod (wrap64 (a2)) (wrap64 ((wrap64 (t166 - (Int.tmod (wrap64 (a1)) (wrap64 (t166 + 1))))) + 1)))))).bind fun bt175 => (if bt167.2 = 0 then (if bt169.2 = 0 then (if bt171.2 = 0 then (if bt173.2 = 6 then (if bt175.2 = 6 then (if bt167.1.size + bt169.1.size ≤ 9223372036854775807 then (if bt167.1.size + bt169.1.size + bt171.1.size ≤ 9223372036854775807 then (if ((bt167.1 ++ bt169.1) ++ bt171.1).toList = t165.toList then ((points_Count.f bt167.1).bind fun t177 => (if t177 = (Int.tmod (wrap64 (a1)) (wrap64 (t166 + 1))) then ((points_Count.f bt169.1).bind fun t178 => (if t178 = (wrap64 ((wrap64 ((Int.tmod (wrap64 (a1)) (wrap64 (t166 + 1))) + (Int.tmod (wrap64 (a2)) (wrap64 ((wrap64 (t166 - (Int.tmod (wrap64 (a1)) (wrap64 (t166 + 1))))) + 1))))) - (Int.tmod (wrap64 (a1)) (wrap64 (t166 + 1))))) then ((points_Count.f bt171.1).bind fun t179 => (some (t179 == (wrap64 (t166 - (wrap64 ((Int.tmod (wrap64 (a1)) (wrap64 (t166 + 1))) + (Int.tmod (wrap64 (a2)) (wrap64 ((wrap64 (t166 - (Int.tmod (wrap64 (a1)) (wrap64 (t166 + 1))))) + 1)))))))))) else (some false))) else (some false))) else (some false)) else (none)) else (none)) else (some false)) else (some false)) else (some false)) else (some false)) else (some false))))))))) = some r := by rw [if_neg (show ¬ (false = true) by decide)] at H; exact H
        clear H
        have H := H1
        clear H1
        by_cases c15 : (wrap64 (t166 + 1)) = 0
        · rw [if_pos c15] at H
          exact absurd H (by simp)
        · rw [if_neg c15] at H
          have c15b0 : ((wrap64 (t166 + 1)) == 0) = false := beq_eq_false_iff_ne.mpr c15
          have c15b1 : ((wrap64 (t166 + 1)) != 0) = true := bne_iff_ne.mpr c15
          by_cases c16 : (wrap64 ((wrap64 (t166 - (Int.tmod (wrap64 (a1)) (wrap64 (t166 + 1))))) + 1)) = 0
          · rw [if_pos c16] at H
            exact absurd H (by simp)
          · rw [if_neg c16] at H
            have c16b0 : ((wrap64 ((wrap64 (t166 - (Int.tmod (wrap64 (a1)) (wrap64 (t166 + 1))))) + 1)) == 0) = false := beq_eq_false_iff_ne.mpr c16
            have c16b1 : ((wrap64 ((wrap64 (t166 - (Int.tmod (wrap64 (a1)) (wrap64 (t166 + 1))))) + 1)) != 0) = true := bne_iff_ne.mpr c16
            replace H := Option.bind_eq_some_iff.mp H
            obtain ⟨⟨t167, t168⟩, A170, H⟩ := H
            replace H : ((points_Cut.f t165 (Int.tmod (wrap64 (a1)) (wrap64 (t166 + 1))) (wrap64 ((Int.tmod (wrap64 (a1)) (wrap64 (t166 + 1))) + (Int.tmod (wrap64 (a2)) (wrap64 ((wrap64 (t166 - (Int.tmod (wrap64 (a1)) (wrap64 (t166 + 1))))) + 1)))))).bind fun bt169 => ((points_Cut.f t165 (wrap64 ((Int.tmod (wrap64 (a1)) (wrap64 (t166 + 1))) + (Int.tmod (wrap64 (a2)) (wrap64 ((wrap64 (t166 - (Int.tmod (wrap64 (a1)) (wrap64 (t166 + 1))))) + 1))))) t166).bind fun bt171 => ((points_Cut.f t165 (wrap64 ((Int.tmod (wrap64 (a1)) (wrap64 (t166 + 1))) + (Int.tmod (wrap64 (a2)) (wrap64 ((wrap64 (t166 - (Int.tmod (wrap64 (a1)) (wrap64 (t166 + 1))))) + 1))))) (wrap64 (t166 + 1))).bind fun bt173 => ((points_Cut.f t165 (wrap64 ((wrap64 ((Int.tmod (wrap64 (a1)) (wrap64 (t166 + 1))) + (Int.tmod (wrap64 (a2)) (wrap64 ((wrap64 (t166 - (Int.tmod (wrap64 (a1)) (wrap64 (t166 + 1))))) + 1))))) + 1)) (wrap64 ((Int.tmod (wrap64 (a1)) (wrap64 (t166 + 1))) + (Int.tmod (wrap64 (a2)) (wrap64 ((wrap64 (t166 - (Int.tmod (wrap64 (a1)) (wrap64 (t166 + 1))))) + 1)))))).bind fun bt175 => (if t168 = 0 then (if bt169.2 = 0 then (if bt171.2 = 0 then (if bt173.2 = 6 then (if bt175.2 = 6 then (if t167.size + bt169.1.size ≤ 9223372036854775807 then (if t167.size + bt169.1.size + bt171.1.size ≤ 9223372036854775807 then (if ((t167 ++ bt169.1) ++ bt171.1).toList = t165.toList then ((points_Count.f t167).bind fun t177 => (if t177 = (Int.tmod (wrap64 (a1)) (wrap64 (t166 + 1))) then ((points_Count.f bt169.1).bind fun t178 => (if t178 = (wrap64 ((wrap64 ((Int.tmod (wrap64 (a1)) (wrap64 (t166 + 1))) + (Int.tmod (wrap64 (a2)) (wrap64 ((wrap64 (t166 - (Int.tmod (wrap64 (a1)) (wrap64 (t166 + 1))))) + 1))))) - (Int.tmod (wrap64 (a1)) (wrap64 (t166 + 1))))) then ((points_Count.f bt171.1).bind fun t179 => (some (t179 == (wrap64 (t166 - (wrap64 ((Int.tmod (wrap64 (a1)) (wrap64 (t166 + 1))) + (Int.tmod (wrap64 (a2)) (wrap64 ((wrap64 (t166 - (Int.tmod (wrap64 (a1)) (wrap64 (t166 + 1))))) + 1)))))))))) else (some false))) else (some false))) else (some false)) else (none)) else (none)) else (some false)) else (some false)) else (some false)) else (some false)) else (some false)))))) = some r := H
            have A17 := Aside0.mk A170
            clear A170
            replace H := Option.bind_eq_some_iff.mp H
            obtain ⟨⟨t169, t170⟩, A180, H⟩ := H
            replace H : ((points_Cut.f t165 (wrap64 ((Int.tmod (wrap64 (a1)) (wrap64 (t166 + 1))) + (Int.tmod (wrap64 (a2)) (wrap64 ((wrap64 (t166 - (Int.tmod (wrap64 (a1)) (wrap64 (t166 + 1))))) + 1))))) t166).bind fun bt171 => ((points_Cut.f t165 (wrap64 ((Int.tmod (wrap64 (a1)) (wrap64 (t166 + 1))) + (Int.tmod (wrap64 (a2)) (wrap64 ((wrap64 (t166 - (Int.tmod (wrap64 (a1)) (wrap64 (t166 + 1))))) + 1))))) (wrap64 (t166 + 1))).bind fun bt173 => ((points_Cut.f t165 (wrap64 ((wrap64 ((Int.tmod (wrap64 (a1)) (wrap64 (t166 + 1))) + (Int.tmod (wrap64 (a2)) (wrap64 ((wrap64 (t166 - (Int.tmod (wrap64 (a1)) (wrap64 (t166 + 1))))) + 1))))) + 1)) (wrap64 ((Int.tmod (wrap64 (a1)) (wrap64 (t166 + 1))) + (Int.tmod (wrap64 (a2)) (wrap64 ((wrap64 (t166 - (Int.tmod (wrap64 (a1)) (wrap64 (t166 + 1))))) + 1)))))).bind fun bt175 => (if t168 = 0 then (if t170 = 0 then (if bt171.2 = 0 then (if bt173.2 = 6 then (if bt175.2 = 6 then (if t167.size + t169.size ≤ 9223372036854775807 then (if t167.size + t169.size + bt171.1.size ≤ 9223372036854775807 then (if ((t167 ++ t169) ++ bt171.1).toList = t165.toList then ((points_Count.f t167).bind fun t177 => (if t177 = (Int.tmod (wrap64 (a1)) (wrap64 (t166 + 1))) then ((points_Count.f t169).bind fun t178 => (if t178 = (wrap64 ((wrap64 ((Int.tmod (wrap64 (a1)) (wrap64 (t166 + 1))) + (Int.tmod (wrap64 (a2)) (wrap64 ((wrap64 (t166 - (Int.tmod (wrap64 (a1)) (wrap64 (t166 + 1))))) + 1))))) - (Int.tmod (wrap64 (a1)) (wrap64 (t166 + 1))))) then ((points_Count.f bt171.1).bind fun t179 => (some (t179 == (wrap64 (t166 - (wrap64 ((Int.tmod (wrap64 (a1)) (wrap64 (t166 + 1))) + (Int.tmod (wrap64 (a2)) (wrap64 ((wrap64 (t166 - (Int.tmod (wrap64 (a1)) (wrap64 (t166 + 1))))) + 1)))))))))) else (some false))) else (some false))) else (some false)) else (none)) else (none)) else (some false)) else (some false)) else (some false)) else (some false)) else (some false))))) = some r := H
            have A18 := Aside0.mk A180
            clear A180
            replace H := Option.bind_eq_some_iff.mp H
            obtain ⟨⟨t171, t172⟩, A190, H⟩ := H
            replace H : ((points_Cut.f t165 (wrap64 ((Int.tmod (wrap64 (a1)) (wrap64 (t166 + 1))) + (Int.tmod (wrap64 (a2)) (wrap64 ((wrap64 (t166 - (Int.tmod (wrap64 (a1)) (wrap64 (t166 + 1))))) + 1))))) (wrap64 (t166 + 1))).bind fun bt173 => ((points_Cut.f t165 (wrap64 ((wrap64 ((Int.tmod (wrap64 (a1)) (wrap64 (t166 + 1))) + (Int.tmod (wrap64 (a2)) (wrap64 ((wrap64 (t166 - (Int.tmod (wrap64 (a1)) (wrap64 (t166 + 1))))) + 1))))) + 1)) (wrap64 ((Int.tmod (wrap64 (a1)) (wrap64 (t166 + 1))) + (Int.tmod (wrap64 (a2)) (wrap64 ((wrap64 (t166 - (Int.tmod (wrap64 (a1)) (wrap64 (t166 + 1))))) + 1)))))).bind fun bt175 => (if t168 = 0 then (if t170 = 0 then (if t172 = 0 then (if bt173.2 = 6 then (if bt175.2 = 6 then (if t167.size + t169.size ≤ 9223372036854775807 then (if t167.size + t169.size + t171.size ≤ 9223372036854775807 then (if ((t167 ++ t169) ++ t171).toList = t165.toList then ((points_Count.f t167).bind fun t177 => (if t177 = (Int.tmod (wrap64 (a1)) (wrap64 (t166 + 1))) then ((points_Count.f t169).bind fun t178 => (if t178 = (wrap64 ((wrap64 ((Int.tmod (wrap64 (a1)) (wrap64 (t166 + 1))) + (Int.tmod (wrap64 (a2)) (wrap64 ((wrap64 (t166 - (Int.tmod (wrap64 (a1)) (wrap64 (t166 + 1))))) + 1))))) - (Int.tmod (wrap64 (a1)) (wrap64 (t166 + 1))))) then ((points_Count.f t171).bind fun t179 => (some (t179 == (wrap64 (t166 - (wrap64 ((Int.tmod (wrap64 (a1)) (wrap64 (t166 + 1))) + (Int.tmod (wrap64 (a2)) (wrap64 ((wrap64 (t166 - (Int.tmod (wrap64 (a1)) (wrap64 (t166 + 1))))) + 1)))))))))) else (some false))) else (some false))) else (some false)) else (none)) else (none)) else (some false)) else (some false)) else (some false)) else (some false)) else (some false)))) = some r := H
            have A19 := Aside0.mk A190
            clear A190
            replace H := Option.bind_eq_some_iff.mp H
            obtain ⟨⟨t173, t174⟩, A200, H⟩ := H
            replace H : ((points_Cut.f t165 (wrap64 ((wrap64 ((Int.tmod (wrap64 (a1)) (wrap64 (t166 + 1))) + (Int.tmod (wrap64 (a2)) (wrap64 ((wrap64 (t166 - (Int.tmod (wrap64 (a1)) (wrap64 (t166 + 1))))) + 1))))) + 1)) (wrap64 ((Int.tmod (wrap64 (a1)) (wrap64 (t166 + 1))) + (Int.tmod (wrap64 (a2)) (wrap64 ((wrap64 (t166 - (Int.tmod (wrap64 (a1)) (wrap64 (t166 + 1))))) + 1)))))).bind fun bt175 => (if t168 = 0 then (if t170 = 0 then (if t172 = 0 then (if t174 = 6 then (if bt175.2 = 6 then (if t167.size + t169.size ≤ 9223372036854775807 then (if t167.size + t169.size + t171.size ≤ 9223372036854775807 then (if ((t167 ++ t169) ++ t171).toList = t165.toList then ((points_Count.f t167).bind fun t177 => (if t177 = (Int.tmod (wrap64 (a1)) (wrap64 (t166 + 1))) then ((points_Count.f t169).bind fun t178 => (if t178 = (wrap64 ((wrap64 ((Int.tmod (wrap64 (a1)) (wrap64 (t166 + 1))) + (Int.tmod (wrap64 (a2)) (wrap64 ((wrap64 (t166 - (Int.tmod (wrap64 (a1)) (wrap64 (t166 + 1))))) + 1))))) - (Int.tmod (wrap64 (a1)) (wrap64 (t166 + 1))))) then ((points_Count.f t171).bind fun t179 => (some (t179 == (wrap64 (t166 - (wrap64 ((Int.tmod (wrap64 (a1)) (wrap64 (t166 + 1))) + (Int.tmod (wrap64 (a2)) (wrap64 ((wrap64 (t166 - (Int.tmod (wrap64 (a1)) (wrap64 (t166 + 1))))) + 1)))))))))) else (some false))) else (some false))) else (some false)) else (none)) else (none)) else (some false)) else (some false)) else (some false)) else (some false)) else (some false))) = some r := H
            have A20 := Aside0.mk A200
            clear A200
            replace H := Option.bind_eq_some_iff.mp H
            obtain ⟨⟨t175, t176⟩, A210, H⟩ := H
            replace H : (if t168 = 0 then (if t170 = 0 then (if t172 = 0 then (if t174 = 6 then (if t176 = 6 then (if t167.size + t169.size ≤ 9223372036854775807 then (if t167.size + t169.size + t171.size ≤ 9223372036854775807 then (if ((t167 ++ t169) ++ t171).toList = t165.toList then ((points_Count.f t167).bind fun t177 => (if t177 = (Int.tmod (wrap64 (a1)) (wrap64 (t166 + 1))) then ((points_Count.f t169).bind fun t178 => (if t178 = (wrap64 ((wrap64 ((Int.tmod (wrap64 (a1)) (wrap64 (t166 + 1))) + (Int.tmod (wrap64 (a2)) (wrap64 ((wrap64 (t166 - (Int.tmod (wrap64 (a1)) (wrap64 (t166 + 1))))) + 1))))) - (Int.tmod (wrap64 (a1)) (wrap64 (t166 + 1))))) then ((points_Count.f t171).bind fun t179 => (some (t179 == (wrap64 (t166 - (wrap64 ((Int.tmod (wrap64 (a1)) (wrap64 (t166 + 1))) + (Int.tmod (wrap64 (a2)) (wrap64 ((wrap64 (t166 - (Int.tmod (wrap64 (a1)) (wrap64 (t166 + 1))))) + 1)))))))))) else (some false))) else (some false))) else (some false)) else (none)) else (none)) else (some false)) else (some false)) else (some false)) else (some false)) else (some false)) = some r := H
            have A21 := Aside0.mk A210
            clear A210
            by_cases c22 : t168 = 0
            · rw [if_pos c22] at H
              have c22b0 : (t168 == 0) = true := beq_iff_eq.mpr c22
              have c22b1 : (t168 != 0) = false := bne_eq_false_iff_eq.mpr c22
              clear c22
              by_cases c23 : t170 = 0
              · rw [if_pos c23] at H
                have c23b0 : (t170 == 0) = true := beq_iff_eq.mpr c23
                have c23b1 : (t170 != 0) = false := bne_eq_false_iff_eq.mpr c23
                clear c23
                by_cases c24 : t172 = 0
                · rw [if_pos c24] at H
                  have c24b0 : (t172 == 0) = true := beq_iff_eq.mpr c24
                  have c24b1 : (t172 != 0) = false := bne_eq_false_iff_eq.mpr c24
                  clear c24
                  by_cases c25 : t174 = 6
                  · rw [if_pos c25] at H
                    have c25b0 : (t174 == 6) = true := beq_iff_eq.mpr c25
                    have c25b1 : (t174 != 6) = false := bne_eq_false_iff_eq.mpr c25
                    clear c25
                    by_cases c26 : t176 = 6
                    · rw [if_pos c26] at H
                      have c26b0 : (t176 == 6) = true := beq_iff_eq.mpr c26
                      have c26b1 : (t176 != 6) = false := bne_eq_false_iff_eq.mpr c26
                      clear c26
                      by_cases c27 : t167.size + t169.size ≤ 9223372036854775807
                      · rw [if_pos c27] at H
                        have c27b0 := eq_true c27
                        have c27b1 : decide (t167.size + t169.size ≤ 9223372036854775807) = true := decide_eq_true c27
                        try have c27b2 : (9223372036854775807 < t167.size + t169.size) = False := eq_false (Nat.not_lt.2 c27)
                        by_cases c28 : t167.size + t169.size + t171.size ≤ 9223372036854775807
                        · rw [if_pos c28] at H
                          have c28b0 := eq_true c28
                          have c28b1 : decide (t167.size + t169.size + t171.size ≤ 9223372036854775807) = true := decide_eq_true c28
                          try have c28b2 : (9223372036854775807 < t167.size + t169.size + t171.size) = False := eq_false (Nat.not_lt.2 c28)
                          by_cases c29 : ((t167 ++ t169) ++ t171).toList = t165.toList
                          · rw [if_pos c29] at H
                            have c29b0 : (((t167 ++ t169) ++ t171).toList == t165.toList) = true := beq_iff_eq.mpr c29
                            have c29b1 : (((t167 ++ t169) ++ t171).toList != t165.toList) = false := bne_eq_false_iff_eq.mpr c29
                            clear c29
                            replace H := Option.bind_eq_some_iff.mp H
                            obtain ⟨t177, A300, H⟩ := H
                            replace H : (if t177 = (Int.tmod (wrap64 (a1)) (wrap64 (t166 + 1))) then ((points_Count.f t169).bind fun t178 => (if t178 = (wrap64 ((wrap64 ((Int.tmod (wrap64 (a1)) (wrap64 (t166 + 1))) + (Int.tmod (wrap64 (a2)) (wrap64 ((wrap64 (t166 - (Int.tmod (wrap64 (a1)) (wrap64 (t166 + 1))))) + 1))))) - (Int.tmod (wrap64 (a1)) (wrap64 (t166 + 1))))) then ((points_Count.f t171).bind fun t179 => (some (t179 == (wrap64 (t166 - (wrap64 ((Int.tmod (wrap64 (a1)) (wrap64 (t166 + 1))) + (Int.tmod (wrap64 (a2)) (wrap64 ((wrap64 (t166 - (Int.tmod (wrap64 (a1)) (wrap64 (t166 + 1))))) + 1)))))))))) else (some false))) else (some false)) = some r := H
                            have A30 := Aside0.mk A300
                            clear A300
                            by_cases c31 : t177 = (Int.tmod (wrap64 (a1)) (wrap64 (t166 + 1)))
                            · rw [if_pos c31] at H
                              have c31b0 : (t177 == (Int.tmod (wrap64 (a1)) (wrap64 (t166 + 1)))) = true := beq_iff_eq.mpr c31
                              have c31b1 : (t177 != (Int.tmod (wrap64 (a1)) (wrap64 (t166 + 1)))) = false := bne_eq_false_iff_eq.mpr c31
                              clear c31
                              replace H := Option.bind_eq_some_iff.mp H
                              obtain ⟨t178, A320, H⟩ := H
                              replace H : (if t178 = (wrap64 ((wrap64 ((Int.tmod (wrap64 (a1)) (wrap64 (t166 + 1))) + (Int.tmod (wrap64 (a2)) (wrap64 ((wrap64 (t166 - (Int.tmod (wrap64 (a1)) (wrap64 (t166 + 1))))) + 1))))) - (Int.tmod (wrap64 (a1)) (wrap64 (t166 + 1))))) then ((points_Count.f t171).bind fun t179 => (some (t179 == (wrap64 (t166 - (wrap64 ((Int.tmod (wrap64 (a1)) (wrap64 (t166 + 1))) + (Int.tmod (wrap64 (a2)) (wrap64 ((wrap64 (t166 - (Int.tmod (wrap64 (a1)) (wrap64 (t166 + 1))))) + 1)))))))))) else (some false)) = some r := H
                              have A32 := Aside0.mk A320
                              clear A320
                              by_cases c33 : t178 = (wrap64 ((wrap64 ((Int.tmod (wrap64 (a1)) (wrap64 (t166 + 1))) + (Int.tmod (wrap64 (a2)) (wrap64 ((wrap64 (t166 - (Int.tmod (wrap64 (a1)) (wrap64 (t166 + 1))))) + 1))))) - (Int.tmod (wrap64 (a1)) (wrap64 (t166 + 1)))))
                              · rw [if_pos c33] at H
                                have c33b0 : (t178 == (wrap64 ((wrap64 ((Int.tmod (wrap64 (a1)) (wrap64 (t166 + 1))) + (Int.tmod (wrap64 (a2)) (wrap64 ((wrap64 (t166 - (Int.tmod (wrap64 (a1)) (wrap64 (t166 + 1))))) + 1))))) - (Int.tmod (wrap64 (a1)) (wrap64 (t166 + 1)))))) = true := beq_iff_eq.mpr c33
                                have c33b1 : (t178 != (wrap64 ((wrap64 ((Int.tmod (wrap64 (a1)) (wrap64 (t166 + 1))) + (Int.tmod (wrap64 (a2)) (wrap64 ((wrap64 (t166 - (Int.tmod (wrap64 (a1)) (wrap64 (t166 + 1))))) + 1))))) - (Int.tmod (wrap64 (a1)) (wrap64 (t166 + 1)))))) = false := bne_eq_false_iff_eq.mpr c33
                                clear c33
                                replace H := Option.bind_eq_some_iff.mp H
                                obtain ⟨t179, A340, H⟩ := H
                                replace H : (some (t179 == (wrap64 (t166 - (wrap64 ((Int.tmod (wrap64 (a1)) (wrap64 (t166 + 1))) + (Int.tmod (wrap64 (a2)) (wrap64 ((wrap64 (t166 - (Int.tmod (wrap64 (a1)) (wrap64 (t166 + 1))))) + 1))))))))) = some r := H
                                have A34 := Aside0.mk A340
                                clear A340
                                obtain rfl := Option.some.inj H
                                simp only [Option.some.injEq, Prod.mk.injEq] at H
                                obtain ⟨rfl⟩ := H
                                go_wp2_with (first | ((with_reducible refine gate_callee (f := 16) rfl ?_); refine goesL_ (some 51) rfl rfl Tryd.func16 (by kernel_rfl) rfl #[.string t165, .int .i64 0, .int .i64 (Int.tmod (wrap64 (a1)) (wrap64 (t166 + 1)))] rfl (by (try simp only [List.map_toArray, List.map_cons, List.map_nil]); first | done | rfl | (simp only [List.length_drop, List.length_take]; rfl)) ?_; (with_reducible refine (points_Cut.calls t165 0 (Int.tmod (wrap64 (a1)) (wrap64 (t166 + 1))) t167 t168 _ ?side1 A17.out).mono ?_); (case side1 => exact Tabs.below HT.out (by repeat (first | (with_reducible first | exact HB.out | apply below_alloc | apply pw_below_drewN | apply below_drew1) | exact HB.out))); rintro e w35 ⟨rfl, hb⟩; refine ⟨_, rfl, ?_⟩; have n0_ := Aside0.mk (below_step (by repeat (first | (with_reducible first | exact HB.out | apply below_alloc | apply pw_below_drewN | apply below_drew1) | exact HB.out)) hb); clear HB; have HB := n0_; clear n0_; (try clear hb); (try clear hb2); (try clear hk); (try clear hi)) | ((with_reducible refine gate_callee (f := 16) rfl ?_); refine goesL_ (some 58) rfl rfl Tryd.func16 (by kernel_rfl) rfl #[.string t165, .int .i64 (Int.tmod (wrap64 (a1)) (wrap64 (t166 + 1))), .int .i64 (wrap64 ((Int.tmod (wrap64 (a1)) (wrap64 (t166 + 1))) + (Int.tmod (wrap64 (a2)) (wrap64 ((wrap64 (t166 - (Int.tmod (wrap64 (a1)) (wrap64 (t166 + 1))))) + 1)))))] rfl (by (try simp only [List.map_toArray, List.map_cons, List.map_nil]); first | done | rfl | (simp only [List.length_drop, List.length_take]; rfl)) ?_; (with_reducible refine (points_Cut.calls t165 (Int.tmod (wrap64 (a1)) (wrap64 (t166 + 1))) (wrap64 ((Int.tmod (wrap64 (a1)) (wrap64 (t166 + 1))) + (Int.tmod (wrap64 (a2)) (wrap64 ((wrap64 (t166 - (Int.tmod (wrap64 (a1)) (wrap64 (t166 + 1))))) + 1))))) t169 t170 _ ?side1 A18.out).mono ?_); (case side1 => exact Tabs.below HT.out (by repeat (first | (with_reducible first | exact HB.out | apply below_alloc | apply pw_below_drewN | apply below_drew1) | exact HB.out))); rintro e w36 ⟨rfl, hb⟩; refine ⟨_, rfl, ?_⟩; have n0_ := Aside0.mk (below_step (by repeat (first | (with_reducible first | exact HB.out | apply below_alloc | apply pw_below_drewN | apply below_drew1) | exact HB.out)) hb); clear HB; have HB := n0_; clear n0_; (try clear hb); (try clear hb2); (try clear hk); (try clear hi)) | ((with_reducible refine gate_callee (f := 16) rfl ?_); refine goesL_ (some 65) rfl rfl Tryd.func16 (by kernel_rfl) rfl #[.string t165, .int .i64 (wrap64 ((Int.tmod (wrap64 (a1)) (wrap64 (t166 + 1))) + (Int.tmod (wrap64 (a2)) (wrap64 ((wrap64 (t166 - (Int.tmod (wrap64 (a1)) (wrap64 (t166 + 1))))) + 1))))), .int .i64 t166] rfl (by (try simp only [List.map_toArray, List.map_cons, List.map_nil]); first | done | rfl | (simp only [List.length_drop, List.length_take]; rfl)) ?_; (with_reducible refine (points_Cut.calls t165 (wrap64 ((Int.tmod (wrap64 (a1)) (wrap64 (t166 + 1))) + (Int.tmod (wrap64 (a2)) (wrap64 ((wrap64 (t166 - (Int.tmod (wrap64 (a1)) (wrap64 (t166 + 1))))) + 1))))) t166 t171 t172 _ ?side1 A19.out).mono ?_); (case side1 => exact Tabs.below HT.out (by repeat (first | (with_reducible first | exact HB.out | apply below_alloc | apply pw_below_drewN | apply below_drew1) | exact HB.out))); rintro e w37 ⟨rfl, hb⟩; refine ⟨_, rfl, ?_⟩; have n0_ := Aside0.mk (below_step (by repeat (first | (with_reducible first | exact HB.out | apply below_alloc | apply pw_below_drewN | apply below_drew1) | exact HB.out)) hb); clear HB; have HB := n0_; clear n0_; (try clear hb); (try clear hb2); (try clear hk); (try clear hi)) | ((with_reducible refine gate_callee (f := 16) rfl ?_); refine goesL_ (some 73) rfl rfl Tryd.func16 (by kernel_rfl) rfl #[.string t165, .int .i64 (wrap64 ((Int.tmod (wrap64 (a1)) (wrap64 (t166 + 1))) + (Int.tmod (wrap64 (a2)) (wrap64 ((wrap64 (t166 - (Int.tmod (wrap64 (a1)) (wrap64 (t166 + 1))))) + 1))))), .int .i64 (wrap64 (t166 + 1))] rfl (by (try simp only [List.map_toArray, List.map_cons, List.map_nil]); first | done | rfl | (simp only [List.length_drop, List.length_take]; rfl)) ?_; (with_reducible refine (points_Cut.calls t165 (wrap64 ((Int.tmod (wrap64 (a1)) (wrap64 (t166 + 1))) + (Int.tmod (wrap64 (a2)) (wrap64 ((wrap64 (t166 - (Int.tmod (wrap64 (a1)) (wrap64 (t166 + 1))))) + 1))))) (wrap64 (t166 + 1)) t173 t174 _ ?side1 A20.out).mono ?_); (case side1 => exact Tabs.below HT.out (by repeat (first | (with_reducible first | exact HB.out | apply below_alloc | apply pw_below_drewN | apply below_drew1) | exact HB.out))); rintro e w38 ⟨rfl, hb⟩; refine ⟨_, rfl, ?_⟩; have n0_ := Aside0.mk (below_step (by repeat (first | (with_reducible first | exact HB.out | apply below_alloc | apply pw_below_drewN | apply below_drew1) | exact HB.out)) hb); clear HB; have HB := n0_; clear n0_; (try clear hb); (try clear hb2); (try clear hk); (try clear hi)) | ((with_reducible refine gate_callee (f := 16) rfl ?_); refine goesL_ (some 81) rfl rfl Tryd.func16 (by kernel_rfl) rfl #[.string t165, .int .i64 (wrap64 ((wrap64 ((Int.tmod (wrap64 (a1)) (wrap64 (t166 + 1))) + (Int.tmod (wrap64 (a2)) (wrap64 ((wrap64 (t166 - (Int.tmod (wrap64 (a1)) (wrap64 (t166 + 1))))) + 1))))) + 1)), .int .i64 (wrap64 ((Int.tmod (wrap64 (a1)) (wrap64 (t166 + 1))) + (Int.tmod (wrap64 (a2)) (wrap64 ((wrap64 (t166 - (Int.tmod (wrap64 (a1)) (wrap64 (t166 + 1))))) + 1)))))] rfl (by (try simp only [List.map_toArray, List.map_cons, List.map_nil]); first | done | rfl | (simp only [List.length_drop, List.length_take]; rfl)) ?_; (with_reducible refine (points_Cut.calls t165 (wrap64 ((wrap64 ((Int.tmod (wrap64 (a1)) (wrap64 (t166 + 1))) + (Int.tmod (wrap64 (a2)) (wrap64 ((wrap64 (t166 - (Int.tmod (wrap64 (a1)) (wrap64 (t166 + 1))))) + 1))))) + 1)) (wrap64 ((Int.tmod (wrap64 (a1)) (wrap64 (t166 + 1))) + (Int.tmod (wrap64 (a2)) (wrap64 ((wrap64 (t166 - (Int.tmod (wrap64 (a1)) (wrap64 (t166 + 1))))) + 1))))) t175 t176 _ ?side1 A21.out).mono ?_); (case side1 => exact Tabs.below HT.out (by repeat (first | (with_reducible first | exact HB.out | apply below_alloc | apply pw_below_drewN | apply below_drew1) | exact HB.out))); rintro e w39 ⟨rfl, hb⟩; refine ⟨_, rfl, ?_⟩; have n0_ := Aside0.mk (below_step (by repeat (first | (with_reducible first | exact HB.out | apply below_alloc | apply pw_below_drewN | apply below_drew1) | exact HB.out)) hb); clear HB; have HB := n0_; clear n0_; (try clear hb); (try clear hb2); (try clear hk); (try clear hi)) | (go_at_call 20; (with_reducible refine (points_Count.calls t167 t177 _ ?side1 A30.out).mono ?_); (case side1 => exact Tabs.below HT.out (by repeat (first | (with_reducible first | exact HB.out | apply below_alloc | apply pw_below_drewN | apply below_drew1) | exact HB.out))); rintro e w40 ⟨rfl, hb⟩; have n0_ := Aside0.mk (below_step (by repeat (first | (with_reducible first | exact HB.out | apply below_alloc | apply pw_below_drewN | apply below_drew1) | exact HB.out)) hb); clear HB; have HB := n0_; clear n0_; (try clear hb); (try clear hb2); (try clear hk); (try clear hi)) | (go_at_call 20; (with_reducible refine (points_Count.calls t169 t178 _ ?side1 A32.out).mono ?_); (case side1 => exact Tabs.below HT.out (by repeat (first | (with_reducible first | exact HB.out | apply below_alloc | apply pw_below_drewN | apply below_drew1) | exact HB.out))); rintro e w41 ⟨rfl, hb⟩; have n0_ := Aside0.mk (below_step (by repeat (first | (with_reducible first | exact HB.out | apply below_alloc | apply pw_below_drewN | apply below_drew1) | exact HB.out)) hb); clear HB; have HB := n0_; clear n0_; (try clear hb); (try clear hb2); (try clear hk); (try clear hi)) | (go_at_call 20; (with_reducible refine (points_Count.calls t171 t179 _ ?side1 A34.out).mono ?_); (case side1 => exact Tabs.below HT.out (by repeat (first | (with_reducible first | exact HB.out | apply below_alloc | apply pw_below_drewN | apply below_drew1) | exact HB.out))); rintro e w42 ⟨rfl, hb⟩; have n0_ := Aside0.mk (below_step (by repeat (first | (with_reducible first | exact HB.out | apply below_alloc | apply pw_below_drewN | apply below_drew1) | exact HB.out)) hb); clear HB; have HB := n0_; clear n0_; (try clear hb); (try clear hb2); (try clear hk); (try clear hi)))
                                go_ret
                                exact ⟨by first | rfl | (simp [errW_none, errW_some] <;> rfl) | (simp [*, errW_none, errW_some] <;> rfl), by repeat (first | (with_reducible first | exact HB.out | apply below_alloc | apply pw_below_drewN | apply below_drew1) | exact HB.out)⟩
                              · rw [if_neg c33] at H
                                have c33b0 : (t178 == (wrap64 ((wrap64 ((Int.tmod (wrap64 (a1)) (wrap64 (t166 + 1))) + (Int.tmod (wrap64 (a2)) (wrap64 ((wrap64 (t166 - (Int.tmod (wrap64 (a1)) (wrap64 (t166 + 1))))) + 1))))) - (Int.tmod (wrap64 (a1)) (wrap64 (t166 + 1)))))) = false := beq_eq_false_iff_ne.mpr c33
                                have c33b1 : (t178 != (wrap64 ((wrap64 ((Int.tmod (wrap64 (a1)) (wrap64 (t166 + 1))) + (Int.tmod (wrap64 (a2)) (wrap64 ((wrap64 (t166 - (Int.tmod (wrap64 (a1)) (wrap64 (t166 + 1))))) + 1))))) - (Int.tmod (wrap64 (a1)) (wrap64 (t166 + 1)))))) = true := bne_iff_ne.mpr c33
                                obtain rfl := Option.some.inj H
                                exact absurd HLAW.out (by decide)
                            · rw [if_neg c31] at H
                              have c31b0 : (t177 == (Int.tmod (wrap64 (a1)) (wrap64 (t166 + 1)))) = false := beq_eq_false_iff_ne.mpr c31
                              have c31b1 : (t177 != (Int.tmod (wrap64 (a1)) (wrap64 (t166 + 1)))) = true := bne_iff_ne.mpr c31
                              obtain rfl := Option.some.inj H
                              exact absurd HLAW.out (by decide)
                          · rw [if_neg c29] at H
                            have c29b0 : (((t167 ++ t169) ++ t171).toList == t165.toList) = false := beq_eq_false_iff_ne.mpr c29
                            have c29b1 : (((t167 ++ t169) ++ t171).toList != t165.toList) = true := bne_iff_ne.mpr c29
                            obtain rfl := Option.some.inj H
                            exact absurd HLAW.out (by decide)
                        · rw [if_neg c28] at H
                          exact absurd H (by simp)
                      · rw [if_neg c27] at H
                        exact absurd H (by simp)
                    · rw [if_neg c26] at H
                      have c26b0 : (t176 == 6) = false := beq_eq_false_iff_ne.mpr c26
                      have c26b1 : (t176 != 6) = true := bne_iff_ne.mpr c26
                      obtain rfl := Option.some.inj H
                      exact absurd HLAW.out (by decide)
                  · rw [if_neg c25] at H
                    have c25b0 : (t174 == 6) = false := beq_eq_false_iff_ne.mpr c25
                    have c25b1 : (t174 != 6) = true := bne_iff_ne.mpr c25
                    obtain rfl := Option.some.inj H
                    exact absurd HLAW.out (by decide)
                · rw [if_neg c24] at H
                  have c24b0 : (t172 == 0) = false := beq_eq_false_iff_ne.mpr c24
                  have c24b1 : (t172 != 0) = true := bne_iff_ne.mpr c24
                  obtain rfl := Option.some.inj H
                  exact absurd HLAW.out (by decide)
              · rw [if_neg c23] at H
                have c23b0 : (t170 == 0) = false := beq_eq_false_iff_ne.mpr c23
                have c23b1 : (t170 != 0) = true := bne_iff_ne.mpr c23
                obtain rfl := Option.some.inj H
                exact absurd HLAW.out (by decide)
            · rw [if_neg c22] at H
              have c22b0 : (t168 == 0) = false := beq_eq_false_iff_ne.mpr c22
              have c22b1 : (t168 != 0) = true := bne_iff_ne.mpr c22
              obtain rfl := Option.some.inj H
              exact absurd HLAW.out (by decide)

/-- THE ONE PURE STATEMENT of epitomelaw01_PointsParts: yours. -/
def epitomelaw01_PointsParts.Pure : Prop := ∀ (a0 : ByteArray) (a1 : Int) (a2 : Int), a0.size ≤ 140737488351232 → (Lit.int .u16 a1).wf = true → (Lit.int .u16 a2).wf = true → ∃ k, epitomelaw01_PointsParts.f k a0 a1 a2 = some true
theorem epitomelaw01_PointsParts.walk (P : epitomelaw01_PointsParts.Pure) (a0 : ByteArray) (a1 : Int) (a2 : Int) (w : World) (hT : Tabs w) (w0 : a0.size ≤ 140737488351232) (w1 : (Lit.int .u16 a1).wf = true) (w2 : (Lit.int .u16 a2).wf = true) :
    Calls Tryd.prog 4 #[.string a0, .int .u16 a1, .int .u16 a2] w fun e w' => e = .returned (.bool true) ∧ Below w.heap.size w w' := by
  obtain ⟨k, h⟩ := P a0 a1 a2 w0 w1 w2
  refine (epitomelaw01_PointsParts.calls k a0 a1 a2 true w hT h rfl).mono ?_
  rintro e w' ⟨rfl, hd⟩
  exact ⟨rfl, hd⟩

end Go.Proofs.YtolljobehfmffaaDoor.P
