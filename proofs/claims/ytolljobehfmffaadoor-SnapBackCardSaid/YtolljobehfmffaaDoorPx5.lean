-- WRITTEN BY A PROGRAM OF THIS SESSION (wip/pp in its repo), made after the kit's print
import Derived.Test.YtolljobehfmffaaDoorPx0
import Derived.Test.YtolljobehfmffaaDoorPx1
import Derived.Test.YtolljobehfmffaaDoorPx2
import Derived.Test.YtolljobehfmffaaDoorPx4
namespace Go.Proofs.YtolljobehfmffaaDoor.P
open Go.RowKit Go.Proofs.YtolljobehfmffaaDoorW.PrintWords Go.Proofs.YtolljobehfmffaaDoorW.PrintLast Go.Proofs.YtolljobehfmffaaDoorW.PrintMore
attribute [local go_sem] max2_int min2_int max_two min_two max_three min_three max_four min_four   -- for this text's walks alone
set_option linter.unusedVariables false
set_option linter.unusedSimpArgs false

/-! ### epitomeref01_Valid: function 19 -/
def epitomeref01_Valid.f (k : Nat) (a0 : ByteArray) : Option (Bool) := (epitomeref01_Starts.f k a0).bind fun bt119 => (some bt119.2)
theorem epitomeref01_Valid.mono : ∀ a0 k, LeO (epitomeref01_Valid.f k a0) (epitomeref01_Valid.f (k + 1) a0) := by
  intro a0 k
  unfold epitomeref01_Valid.f
  repeat' first
      | (with_reducible exact epitomeref01_Starts.mono _ _)
      | (with_reducible exact LeO.refl _)
      | (with_reducible exact LeO.none _)
      | (with_reducible refine LeO.ite ?_ ?_)
      | (with_reducible refine LeO.bind ?_ (fun _ => ?_))
      | exact epitomeref01_Starts.mono _ _
      | exact LeO.none _
      | refine LeO.ite ?_ ?_
      | refine LeO.bind ?_ (fun _ => ?_)
set_option maxHeartbeats 8000000 in
set_option maxRecDepth 100000 in
theorem epitomeref01_Valid.calls (k : Nat) (a0 : ByteArray) (r : Bool) (w : World) (h : epitomeref01_Valid.f k a0 = some r) :
    Calls Tryd.prog 19 #[.string a0] w fun e w' => e = .returned (.bool r) ∧ Below w.heap.size w w' := by
  have HB := Aside0.mk (Below.refl w.heap.size w)
  have H : ((epitomeref01_Starts.f k a0).bind fun bt119 => (some bt119.2)) = some r := h
  clear h
  replace H := Option.bind_eq_some_iff.mp H
  obtain ⟨⟨t119, t120⟩, A20, H⟩ := H
  replace H : (some t120) = some r := H
  have A2 := Aside0.mk A20
  clear A20
  obtain rfl := Option.some.inj H
  simp only [Option.some.injEq, Prod.mk.injEq] at H
  obtain ⟨rfl⟩ := H
  go_enter Tryd.func19, Tryd.ntmps19
  go_wp2_with (first | ((with_reducible refine gate_callee (f := 37) rfl ?_); refine goesL_ (some 7) rfl rfl Tryd.func37 (by kernel_rfl) rfl #[.string a0] rfl (by (try simp only [List.map_toArray, List.map_cons, List.map_nil]); first | done | rfl | (simp only [List.length_drop, List.length_take]; rfl)) ?_; (with_reducible refine (epitomeref01_Starts.calls k a0 t119 t120 _ A2.out).mono ?_); rintro e w3 ⟨v121, rfl, ho0, hb⟩; refine ⟨_, rfl, ?_⟩; have n0_ := Aside0.mk (Kd.R_lower ho0 (below_size (by repeat (first | (with_reducible first | exact HB.out | apply below_alloc | apply pw_below_drewN | apply below_drew1) | exact HB.out)))); have n1_ := Aside0.mk (below_step (by repeat (first | (with_reducible first | exact HB.out | apply below_alloc | apply pw_below_drewN | apply below_drew1) | exact HB.out)) hb); clear HB; have HO122 := n0_; have HB := n1_; clear n0_ n1_; (try clear hb); (try clear hb2); (try clear hk); (try clear hi); (try clear ho0)))
  go_ret
  exact ⟨by first | rfl | (simp [errW_none, errW_some] <;> rfl) | (simp [*, errW_none, errW_some] <;> rfl), by repeat (first | (with_reducible first | exact HB.out | apply below_alloc | apply pw_below_drewN | apply below_drew1) | exact HB.out)⟩

/-! ### epitomeref01_Count: function 21 -/
def epitomeref01_Count.f (k : Nat) (a0 : ByteArray) : Option (Int) := (epitomeref01_Starts.f k a0).bind fun bt123 => (some (wrap64 ((bt123.1.length : Int) - 1)))
theorem epitomeref01_Count.mono : ∀ a0 k, LeO (epitomeref01_Count.f k a0) (epitomeref01_Count.f (k + 1) a0) := by
  intro a0 k
  unfold epitomeref01_Count.f
  repeat' first
      | (with_reducible exact epitomeref01_Starts.mono _ _)
      | (with_reducible exact LeO.refl _)
      | (with_reducible exact LeO.none _)
      | (with_reducible refine LeO.ite ?_ ?_)
      | (with_reducible refine LeO.bind ?_ (fun _ => ?_))
      | exact epitomeref01_Starts.mono _ _
      | exact LeO.none _
      | refine LeO.ite ?_ ?_
      | refine LeO.bind ?_ (fun _ => ?_)
set_option maxHeartbeats 8000000 in
set_option maxRecDepth 100000 in
theorem epitomeref01_Count.calls (k : Nat) (a0 : ByteArray) (r : Int) (w : World) (h : epitomeref01_Count.f k a0 = some r) :
    Calls Tryd.prog 21 #[.string a0] w fun e w' => e = .returned (.int .i64 r) ∧ Below w.heap.size w w' := by
  have HB := Aside0.mk (Below.refl w.heap.size w)
  have H : ((epitomeref01_Starts.f k a0).bind fun bt123 => (some (wrap64 ((bt123.1.length : Int) - 1)))) = some r := h
  clear h
  replace H := Option.bind_eq_some_iff.mp H
  obtain ⟨⟨t123, t124⟩, A20, H⟩ := H
  replace H : (some (wrap64 ((t123.length : Int) - 1))) = some r := H
  have A2 := Aside0.mk A20
  clear A20
  obtain rfl := Option.some.inj H
  simp only [Option.some.injEq, Prod.mk.injEq] at H
  obtain ⟨rfl⟩ := H
  go_enter Tryd.func21, Tryd.ntmps21
  go_wp2_with (first | ((with_reducible refine gate_callee (f := 37) rfl ?_); refine goesL_ (some 7) rfl rfl Tryd.func37 (by kernel_rfl) rfl #[.string a0] rfl (by (try simp only [List.map_toArray, List.map_cons, List.map_nil]); first | done | rfl | (simp only [List.length_drop, List.length_take]; rfl)) ?_; (with_reducible refine (epitomeref01_Starts.calls k a0 t123 t124 _ A2.out).mono ?_); rintro e w3 ⟨v125, rfl, ho0, hb⟩; refine ⟨_, rfl, ?_⟩; have n0_ := Aside0.mk (Kd.R_lower ho0 (below_size (by repeat (first | (with_reducible first | exact HB.out | apply below_alloc | apply pw_below_drewN | apply below_drew1) | exact HB.out)))); have n1_ := Aside0.mk (below_step (by repeat (first | (with_reducible first | exact HB.out | apply below_alloc | apply pw_below_drewN | apply below_drew1) | exact HB.out)) hb); clear HB; have HO126 := n0_; have HB := n1_; clear n0_ n1_; (try clear hb); (try clear hb2); (try clear hk); (try clear hi); (try clear ho0); obtain ⟨Ao4, co4, eo4⟩ := Kd.R_slice HO126.out; subst eo4))
  go_ret
  exact ⟨by first | rfl | (simp [errW_none, errW_some] <;> rfl) | (simp [*, errW_none, errW_some] <;> rfl), by repeat (first | (with_reducible first | exact HB.out | apply below_alloc | apply pw_below_drewN | apply below_drew1) | exact HB.out)⟩

/-! ### epitomelaw01_PointsAll: function 3 -/
def epitomelaw01_PointsAll.f (k : Nat) (a0 : ByteArray) (a1 : Int) (a2 : Int) : Option (Bool) := (epitomelaw01_shown.f).bind fun t127 => ((epitomelaw01_few.f a0).bind fun t128 => ((points_Cut.f t128 a1 a2).bind fun bt129 => ((epitomeref01_Cut.f k t128 a1 a2).bind fun bt131 => (if t127 = true then ((points_Valid.f t128).bind fun t133 => ((epitomeref01_Valid.f k t128).bind fun t134 => (if (t133 == t134) = true then ((points_Count.f t128).bind fun t135 => ((epitomeref01_Count.f k t128).bind fun t136 => (if t135 = t136 then (if bt129.1.toList = bt131.1.toList then (some (bt129.2 == bt131.2)) else (some false)) else (some false)))) else (some false)))) else (some false)))))
theorem epitomelaw01_PointsAll.mono : ∀ a0 a1 a2 k, LeO (epitomelaw01_PointsAll.f k a0 a1 a2) (epitomelaw01_PointsAll.f (k + 1) a0 a1 a2) := by
  intro a0 a1 a2 k
  unfold epitomelaw01_PointsAll.f
  repeat' first
      | (with_reducible exact epitomeref01_Count.mono _ _)
      | (with_reducible exact epitomeref01_Cut.mono _ _ _ _)
      | (with_reducible exact epitomeref01_Valid.mono _ _)
      | (with_reducible exact LeO.refl _)
      | (with_reducible exact LeO.none _)
      | (with_reducible refine LeO.ite ?_ ?_)
      | (with_reducible refine LeO.bind ?_ (fun _ => ?_))
      | exact epitomeref01_Count.mono _ _
      | exact epitomeref01_Cut.mono _ _ _ _
      | exact epitomeref01_Valid.mono _ _
      | exact LeO.none _
      | refine LeO.ite ?_ ?_
      | refine LeO.bind ?_ (fun _ => ?_)
set_option maxHeartbeats 8000000 in
set_option maxRecDepth 100000 in
theorem epitomelaw01_PointsAll.calls (k : Nat) (a0 : ByteArray) (a1 : Int) (a2 : Int) (r : Bool) (w : World) (hT : Tabs w) (h : epitomelaw01_PointsAll.f k a0 a1 a2 = some r) (hlaw : r = true) :
    Calls Tryd.prog 3 #[.string a0, .int .i64 a1, .int .i64 a2] w fun e w' => e = .returned (.bool r) ∧ Below w.heap.size w w' := by
  have HLAW := Aside0.mk hlaw
  clear hlaw
  have HT := Aside0.mk hT
  clear hT
  have HB := Aside0.mk (Below.refl w.heap.size w)
  have H : ((epitomelaw01_shown.f).bind fun t127 => ((epitomelaw01_few.f a0).bind fun t128 => ((points_Cut.f t128 a1 a2).bind fun bt129 => ((epitomeref01_Cut.f k t128 a1 a2).bind fun bt131 => (if t127 = true then ((points_Valid.f t128).bind fun t133 => ((epitomeref01_Valid.f k t128).bind fun t134 => (if (t133 == t134) = true then ((points_Count.f t128).bind fun t135 => ((epitomeref01_Count.f k t128).bind fun t136 => (if t135 = t136 then (if bt129.1.toList = bt131.1.toList then (some (bt129.2 == bt131.2)) else (some false)) else (some false)))) else (some false)))) else (some false)))))) = some r := h
  clear h
  replace H := Option.bind_eq_some_iff.mp H
  obtain ⟨t127, A40, H⟩ := H
  replace H : ((epitomelaw01_few.f a0).bind fun t128 => ((points_Cut.f t128 a1 a2).bind fun bt129 => ((epitomeref01_Cut.f k t128 a1 a2).bind fun bt131 => (if t127 = true then ((points_Valid.f t128).bind fun t133 => ((epitomeref01_Valid.f k t128).bind fun t134 => (if (t133 == t134) = true then ((points_Count.f t128).bind fun t135 => ((epitomeref01_Count.f k t128).bind fun t136 => (if t135 = t136 then (if bt129.1.toList = bt131.1.toList then (some (bt129.2 == bt131.2)) else (some false)) else (some false)))) else (some false)))) else (some false))))) = some r := H
  have A4 := Aside0.mk A40
  clear A40
  replace H := Option.bind_eq_some_iff.mp H
  obtain ⟨t128, A50, H⟩ := H
  replace H : ((points_Cut.f t128 a1 a2).bind fun bt129 => ((epitomeref01_Cut.f k t128 a1 a2).bind fun bt131 => (if t127 = true then ((points_Valid.f t128).bind fun t133 => ((epitomeref01_Valid.f k t128).bind fun t134 => (if (t133 == t134) = true then ((points_Count.f t128).bind fun t135 => ((epitomeref01_Count.f k t128).bind fun t136 => (if t135 = t136 then (if bt129.1.toList = bt131.1.toList then (some (bt129.2 == bt131.2)) else (some false)) else (some false)))) else (some false)))) else (some false)))) = some r := H
  have A5 := Aside0.mk A50
  clear A50
  replace H := Option.bind_eq_some_iff.mp H
  obtain ⟨⟨t129, t130⟩, A60, H⟩ := H
  replace H : ((epitomeref01_Cut.f k t128 a1 a2).bind fun bt131 => (if t127 = true then ((points_Valid.f t128).bind fun t133 => ((epitomeref01_Valid.f k t128).bind fun t134 => (if (t133 == t134) = true then ((points_Count.f t128).bind fun t135 => ((epitomeref01_Count.f k t128).bind fun t136 => (if t135 = t136 then (if t129.toList = bt131.1.toList then (some (t130 == bt131.2)) else (some false)) else (some false)))) else (some false)))) else (some false))) = some r := H
  have A6 := Aside0.mk A60
  clear A60
  replace H := Option.bind_eq_some_iff.mp H
  obtain ⟨⟨t131, t132⟩, A70, H⟩ := H
  replace H : (if t127 = true then ((points_Valid.f t128).bind fun t133 => ((epitomeref01_Valid.f k t128).bind fun t134 => (if (t133 == t134) = true then ((points_Count.f t128).bind fun t135 => ((epitomeref01_Count.f k t128).bind fun t136 => (if t135 = t136 then (if t129.toList = t131.toList then (some (t130 == t132)) else (some false)) else (some false)))) else (some false)))) else (some false)) = some r := H
  have A7 := Aside0.mk A70
  clear A70
  by_cases c8 : t127 = true
  · subst c8
    have H1 : ((points_Valid.f t128).bind fun t133 => ((epitomeref01_Valid.f k t128).bind fun t134 => (if (t133 == t134) = true then ((points_Count.f t128).bind fun t135 => ((epitomeref01_Count.f k t128).bind fun t136 => (if t135 = t136 then (if t129.toList = t131.toList then (some (t130 == t132)) else (some false)) else (some false)))) else (some false)))) = some r := by rw [if_pos rfl] at H; exact H
    clear H
    have H := H1
    clear H1
    replace H := Option.bind_eq_some_iff.mp H
    obtain ⟨t133, A90, H⟩ := H
    replace H : ((epitomeref01_Valid.f k t128).bind fun t134 => (if (t133 == t134) = true then ((points_Count.f t128).bind fun t135 => ((epitomeref01_Count.f k t128).bind fun t136 => (if t135 = t136 then (if t129.toList = t131.toList then (some (t130 == t132)) else (some false)) else (some false)))) else (some false))) = some r := H
    have A9 := Aside0.mk A90
    clear A90
    replace H := Option.bind_eq_some_iff.mp H
    obtain ⟨t134, A100, H⟩ := H
    replace H : (if (t133 == t134) = true then ((points_Count.f t128).bind fun t135 => ((epitomeref01_Count.f k t128).bind fun t136 => (if t135 = t136 then (if t129.toList = t131.toList then (some (t130 == t132)) else (some false)) else (some false)))) else (some false)) = some r := H
    have A10 := Aside0.mk A100
    clear A100
    by_cases c11 : (t133 == t134) = true
    · rw [if_pos c11] at H
      have c11b0 : (t133 == t134) = true := c11
      (try (have c11b1 : decide (t133 = t134) = true := by simpa using c11))
      (try (have c11b2 : (t133 == t134) = true := by simpa using c11))
      clear c11
      replace H := Option.bind_eq_some_iff.mp H
      obtain ⟨t135, A120, H⟩ := H
      replace H : ((epitomeref01_Count.f k t128).bind fun t136 => (if t135 = t136 then (if t129.toList = t131.toList then (some (t130 == t132)) else (some false)) else (some false))) = some r := H
      have A12 := Aside0.mk A120
      clear A120
      replace H := Option.bind_eq_some_iff.mp H
      obtain ⟨t136, A130, H⟩ := H
      replace H : (if t135 = t136 then (if t129.toList = t131.toList then (some (t130 == t132)) else (some false)) else (some false)) = some r := H
      have A13 := Aside0.mk A130
      clear A130
      by_cases c14 : t135 = t136
      · rw [if_pos c14] at H
        have c14b0 : (t135 == t136) = true := beq_iff_eq.mpr c14
        have c14b1 : (t135 != t136) = false := bne_eq_false_iff_eq.mpr c14
        clear c14
        by_cases c15 : t129.toList = t131.toList
        · rw [if_pos c15] at H
          have c15b0 : (t129.toList == t131.toList) = true := beq_iff_eq.mpr c15
          have c15b1 : (t129.toList != t131.toList) = false := bne_eq_false_iff_eq.mpr c15
          clear c15
          obtain rfl := Option.some.inj H
          simp only [Option.some.injEq, Prod.mk.injEq] at H
          obtain ⟨rfl⟩ := H
          go_enter Tryd.func3, Tryd.ntmps3
          go_wp2_with (first | ((with_reducible refine gate_callee (f := 14) rfl ?_); refine goesL_ (some 13) rfl rfl Tryd.func14 (by kernel_rfl) rfl #[] rfl (by (try simp only [List.map_toArray, List.map_cons, List.map_nil]); first | done | rfl | (simp only [List.length_drop, List.length_take]; rfl)) ?_; (with_reducible refine (epitomelaw01_shown.calls  true _ ?side1 A4.out).mono ?_); (case side1 => exact Tabs.below HT.out (by repeat (first | (with_reducible first | exact HB.out | apply below_alloc | apply pw_below_drewN | apply below_drew1) | exact HB.out))); rintro e w16 ⟨rfl, hb⟩; refine ⟨_, rfl, ?_⟩; have n0_ := Aside0.mk (below_step (by repeat (first | (with_reducible first | exact HB.out | apply below_alloc | apply pw_below_drewN | apply below_drew1) | exact HB.out)) hb); clear HB; have HB := n0_; clear n0_; (try clear hb); (try clear hb2); (try clear hk); (try clear hi)) | ((with_reducible refine gate_callee (f := 15) rfl ?_); refine goesL_ (some 15) rfl rfl Tryd.func15 (by kernel_rfl) rfl #[.string a0] rfl (by (try simp only [List.map_toArray, List.map_cons, List.map_nil]); first | done | rfl | (simp only [List.length_drop, List.length_take]; rfl)) ?_; (with_reducible refine (epitomelaw01_few.calls a0 t128 _ A5.out).mono ?_); rintro e w17 ⟨rfl, hb⟩; refine ⟨_, rfl, ?_⟩; have n0_ := Aside0.mk (below_step (by repeat (first | (with_reducible first | exact HB.out | apply below_alloc | apply pw_below_drewN | apply below_drew1) | exact HB.out)) hb); clear HB; have HB := n0_; clear n0_; (try clear hb); (try clear hb2); (try clear hk); (try clear hi)) | ((with_reducible refine gate_callee (f := 16) rfl ?_); refine goesL_ (some 20) rfl rfl Tryd.func16 (by kernel_rfl) rfl #[.string t128, .int .i64 a1, .int .i64 a2] rfl (by (try simp only [List.map_toArray, List.map_cons, List.map_nil]); first | done | rfl | (simp only [List.length_drop, List.length_take]; rfl)) ?_; (with_reducible refine (points_Cut.calls t128 a1 a2 t129 t130 _ ?side1 A6.out).mono ?_); (case side1 => exact Tabs.below HT.out (by repeat (first | (with_reducible first | exact HB.out | apply below_alloc | apply pw_below_drewN | apply below_drew1) | exact HB.out))); rintro e w18 ⟨rfl, hb⟩; refine ⟨_, rfl, ?_⟩; have n0_ := Aside0.mk (below_step (by repeat (first | (with_reducible first | exact HB.out | apply below_alloc | apply pw_below_drewN | apply below_drew1) | exact HB.out)) hb); clear HB; have HB := n0_; clear n0_; (try clear hb); (try clear hb2); (try clear hk); (try clear hi)) | ((with_reducible refine gate_callee (f := 17) rfl ?_); refine goesL_ (some 27) rfl rfl Tryd.func17 (by kernel_rfl) rfl #[.string t128, .int .i64 a1, .int .i64 a2] rfl (by (try simp only [List.map_toArray, List.map_cons, List.map_nil]); first | done | rfl | (simp only [List.length_drop, List.length_take]; rfl)) ?_; (with_reducible refine (epitomeref01_Cut.calls k t128 a1 a2 t131 t132 _ A7.out).mono ?_); rintro e w19 ⟨rfl, hb⟩; refine ⟨_, rfl, ?_⟩; have n0_ := Aside0.mk (below_step (by repeat (first | (with_reducible first | exact HB.out | apply below_alloc | apply pw_below_drewN | apply below_drew1) | exact HB.out)) hb); clear HB; have HB := n0_; clear n0_; (try clear hb); (try clear hb2); (try clear hk); (try clear hi)) | (go_at_call 18; (with_reducible refine (points_Valid.calls t128 t133 _ ?side1 A9.out).mono ?_); (case side1 => exact Tabs.below HT.out (by repeat (first | (with_reducible first | exact HB.out | apply below_alloc | apply pw_below_drewN | apply below_drew1) | exact HB.out))); rintro e w20 ⟨rfl, hb⟩; have n0_ := Aside0.mk (below_step (by repeat (first | (with_reducible first | exact HB.out | apply below_alloc | apply pw_below_drewN | apply below_drew1) | exact HB.out)) hb); clear HB; have HB := n0_; clear n0_; (try clear hb); (try clear hb2); (try clear hk); (try clear hi)) | (go_at_call 19; (with_reducible refine (epitomeref01_Valid.calls k t128 t134 _ A10.out).mono ?_); rintro e w21 ⟨rfl, hb⟩; have n0_ := Aside0.mk (below_step (by repeat (first | (with_reducible first | exact HB.out | apply below_alloc | apply pw_below_drewN | apply below_drew1) | exact HB.out)) hb); clear HB; have HB := n0_; clear n0_; (try clear hb); (try clear hb2); (try clear hk); (try clear hi)) | (go_at_call 20; (with_reducible refine (points_Count.calls t128 t135 _ ?side1 A12.out).mono ?_); (case side1 => exact Tabs.below HT.out (by repeat (first | (with_reducible first | exact HB.out | apply below_alloc | apply pw_below_drewN | apply below_drew1) | exact HB.out))); rintro e w22 ⟨rfl, hb⟩; have n0_ := Aside0.mk (below_step (by repeat (first | (with_reducible first | exact HB.out | apply below_alloc | apply pw_below_drewN | apply below_drew1) | exact HB.out)) hb); clear HB; have HB := n0_; clear n0_; (try clear hb); (try clear hb2); (try clear hk); (try clear hi)) | (go_at_call 21; (with_reducible refine (epitomeref01_Count.calls k t128 t136 _ A13.out).mono ?_); rintro e w23 ⟨rfl, hb⟩; have n0_ := Aside0.mk (below_step (by repeat (first | (with_reducible first | exact HB.out | apply below_alloc | apply pw_below_drewN | apply below_drew1) | exact HB.out)) hb); clear HB; have HB := n0_; clear n0_; (try clear hb); (try clear hb2); (try clear hk); (try clear hi)))
          go_ret
          exact ⟨by first | rfl | (simp [errW_none, errW_some] <;> rfl) | (simp [*, errW_none, errW_some] <;> rfl), by repeat (first | (with_reducible first | exact HB.out | apply below_alloc | apply pw_below_drewN | apply below_drew1) | exact HB.out)⟩
        · rw [if_neg c15] at H
          have c15b0 : (t129.toList == t131.toList) = false := beq_eq_false_iff_ne.mpr c15
          have c15b1 : (t129.toList != t131.toList) = true := bne_iff_ne.mpr c15
          obtain rfl := Option.some.inj H
          exact absurd HLAW.out (by decide)
      · rw [if_neg c14] at H
        have c14b0 : (t135 == t136) = false := beq_eq_false_iff_ne.mpr c14
        have c14b1 : (t135 != t136) = true := bne_iff_ne.mpr c14
        obtain rfl := Option.some.inj H
        exact absurd HLAW.out (by decide)
    · rw [if_neg c11] at H
      have c11b0 : (t133 == t134) = false := by simpa using c11
      (try (have c11b1 : decide (t133 = t134) = false := by simpa using c11))
      (try (have c11b2 : (t133 == t134) = false := by simpa using c11))
      (try (have c11b3 : ¬ (t133 = t134) := by simpa using c11))
      clear c11
      obtain rfl := Option.some.inj H
      exact absurd HLAW.out (by decide)
  · replace c8 := Bool.eq_false_iff.mpr c8
    subst c8
    have H1 : (some false) = some r := by rw [if_neg (show ¬ (false = true) by decide)] at H; exact H
    clear H
    have H := H1
    clear H1
    obtain rfl := Option.some.inj H
    exact absurd HLAW.out (by decide)

/-- THE ONE PURE STATEMENT of epitomelaw01_PointsAll: yours. -/
def epitomelaw01_PointsAll.Pure : Prop := ∀ (a0 : ByteArray) (a1 : Int) (a2 : Int), a0.size ≤ 140737488351232 → (Lit.int .i64 a1).wf = true → (Lit.int .i64 a2).wf = true → ∃ k, epitomelaw01_PointsAll.f k a0 a1 a2 = some true
theorem epitomelaw01_PointsAll.walk (P : epitomelaw01_PointsAll.Pure) (a0 : ByteArray) (a1 : Int) (a2 : Int) (w : World) (hT : Tabs w) (w0 : a0.size ≤ 140737488351232) (w1 : (Lit.int .i64 a1).wf = true) (w2 : (Lit.int .i64 a2).wf = true) :
    Calls Tryd.prog 3 #[.string a0, .int .i64 a1, .int .i64 a2] w fun e w' => e = .returned (.bool true) ∧ Below w.heap.size w w' := by
  obtain ⟨k, h⟩ := P a0 a1 a2 w0 w1 w2
  refine (epitomelaw01_PointsAll.calls k a0 a1 a2 true w hT h rfl).mono ?_
  rintro e w' ⟨rfl, hd⟩
  exact ⟨rfl, hd⟩

end Go.Proofs.YtolljobehfmffaaDoor.P
