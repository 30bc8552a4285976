-- WRITTEN BY A PROGRAM OF THIS SESSION (wip/pp in its repo), made after the kit's print
import Derived.Test.YtolljobehfmffaaDoorPx0
import Derived.Test.YtolljobehfmffaaDoorPx1
import Derived.Test.YtolljobehfmffaaDoorPx2
import Derived.Test.YtolljobehfmffaaDoorPx10
namespace Go.Proofs.YtolljobehfmffaaDoor.P
open Go.RowKit Go.Proofs.YtolljobehfmffaaDoorW.PrintWords Go.Proofs.YtolljobehfmffaaDoorW.PrintLast Go.Proofs.YtolljobehfmffaaDoorW.PrintMore
attribute [local go_sem] max2_int min2_int max_two min_two max_three min_three max_four min_four   -- for this text's walks alone
set_option linter.unusedVariables false
set_option linter.unusedSimpArgs false

/-! ### epitomelaw01_PointsOne: function 8 -/
def epitomelaw01_PointsOne.j0 : Nat → Int → Bool → ByteArray → Bool → Option (Bool)
  | 0, _, _, _, _ => none
  | k + 1, x0, x3, x4, x23 => if x23 = true then (if x3 = true then (some (x4.toList == ([] : List UInt8))) else (some false)) else (if x0 < 128 then (if x3 = true then (if (x4.size : Int) = 1 then ((points_Valid.f x4).bind fun t218 => (if t218 = true then ((points_Count.f x4).bind fun t219 => (if t219 = 1 then ((points_Of.f (([x0, x0] : List Int))).bind fun t223 => (if x4.size + x4.size ≤ 9223372036854775807 then (some (t223.toList == (x4 ++ x4).toList)) else (none))) else (some false))) else (some false))) else (some false)) else (some false)) else (if x0 < 2048 then (if x3 = true then (if (x4.size : Int) = 2 then ((points_Valid.f x4).bind fun t224 => (if t224 = true then ((points_Count.f x4).bind fun t225 => (if t225 = 1 then ((points_Of.f (([x0, x0] : List Int))).bind fun t229 => (if x4.size + x4.size ≤ 9223372036854775807 then (some (t229.toList == (x4 ++ x4).toList)) else (none))) else (some false))) else (some false))) else (some false)) else (some false)) else (if x0 < 65536 then (if x3 = true then (if (x4.size : Int) = 3 then ((points_Valid.f x4).bind fun t230 => (if t230 = true then ((points_Count.f x4).bind fun t231 => (if t231 = 1 then ((points_Of.f (([x0, x0] : List Int))).bind fun t235 => (if x4.size + x4.size ≤ 9223372036854775807 then (some (t235.toList == (x4 ++ x4).toList)) else (none))) else (some false))) else (some false))) else (some false)) else (some false)) else (if x3 = true then (if (x4.size : Int) = 4 then ((points_Valid.f x4).bind fun t236 => (if t236 = true then ((points_Count.f x4).bind fun t237 => (if t237 = 1 then ((points_Of.f (([x0, x0] : List Int))).bind fun t241 => (if x4.size + x4.size ≤ 9223372036854775807 then (some (t241.toList == (x4 ++ x4).toList)) else (none))) else (some false))) else (some false))) else (some false)) else (some false)))))
def epitomelaw01_PointsOne.f (k : Nat) (a0 : Int) : Option (Bool) := (epitomelaw01_shown.f).bind fun t213 => ((points_Of.f (([a0] : List Int))).bind fun t217 => (if a0 < 0 then (epitomelaw01_PointsOne.j0 k a0 t213 t217 true) else (if a0 > 1114111 then (epitomelaw01_PointsOne.j0 k a0 t213 t217 true) else (if a0 ≥ 55296 then (epitomelaw01_PointsOne.j0 k a0 t213 t217 (decide (a0 ≤ 57343))) else (epitomelaw01_PointsOne.j0 k a0 t213 t217 false)))))
theorem epitomelaw01_PointsOne.mono_l : ∀ k, (∀ y0 y1 y2 y3, LeO (epitomelaw01_PointsOne.j0 k y0 y1 y2 y3) (epitomelaw01_PointsOne.j0 (k + 1) y0 y1 y2 y3))
  | 0 => fun _ _ _ _ r h => by simp [epitomelaw01_PointsOne.j0] at h
  | k + 1 => by
    have ih0 := epitomelaw01_PointsOne.mono_l k
    · intro y0 y1 y2 y3
      unfold epitomelaw01_PointsOne.j0
      repeat' first
      | (with_reducible exact ih0 _ _ _ _)
      | (with_reducible exact LeO.refl _)
      | (with_reducible exact LeO.none _)
      | (with_reducible refine LeO.ite ?_ ?_)
      | (with_reducible refine LeO.bind ?_ (fun _ => ?_))
      | exact ih0 _ _ _ _
      | exact LeO.none _
      | refine LeO.ite ?_ ?_
      | refine LeO.bind ?_ (fun _ => ?_)
theorem epitomelaw01_PointsOne.mono : ∀ a0 k, LeO (epitomelaw01_PointsOne.f k a0) (epitomelaw01_PointsOne.f (k + 1) a0) := by
  intro a0 k
  have ih0 := epitomelaw01_PointsOne.mono_l k
  unfold epitomelaw01_PointsOne.f
  repeat' first
      | (with_reducible exact ih0 _ _ _ _)
      | (with_reducible exact LeO.refl _)
      | (with_reducible exact LeO.none _)
      | (with_reducible refine LeO.ite ?_ ?_)
      | (with_reducible refine LeO.bind ?_ (fun _ => ?_))
      | exact ih0 _ _ _ _
      | exact LeO.none _
      | refine LeO.ite ?_ ?_
      | refine LeO.bind ?_ (fun _ => ?_)
set_option maxHeartbeats 8000000 in
set_option maxRecDepth 100000 in
theorem epitomelaw01_PointsOne.calls (k : Nat) (a0 : Int) (r : Bool) (w : World) (hT : Tabs w) (h : epitomelaw01_PointsOne.f k a0 = some r) (hlaw : r = true) :
    Calls Tryd.prog 8 #[.int .i32 a0] w fun e w' => e = .returned (.bool r) ∧ Below w.heap.size w w' := by
  have HLAW := Aside0.mk hlaw
  clear hlaw
  have HT := Aside0.mk hT
  clear hT
  have HB := Aside0.mk (Below.refl w.heap.size w)
  have H : ((epitomelaw01_shown.f).bind fun t213 => ((points_Of.f (([a0] : List Int))).bind fun t217 => (if a0 < 0 then (epitomelaw01_PointsOne.j0 k a0 t213 t217 true) else (if a0 > 1114111 then (epitomelaw01_PointsOne.j0 k a0 t213 t217 true) else (if a0 ≥ 55296 then (epitomelaw01_PointsOne.j0 k a0 t213 t217 (decide (a0 ≤ 57343))) else (epitomelaw01_PointsOne.j0 k a0 t213 t217 false)))))) = some r := h
  clear h
  replace H := Option.bind_eq_some_iff.mp H
  obtain ⟨t213, A20, H⟩ := H
  replace H : ((points_Of.f (([a0] : List Int))).bind fun t217 => (if a0 < 0 then (epitomelaw01_PointsOne.j0 k a0 t213 t217 true) else (if a0 > 1114111 then (epitomelaw01_PointsOne.j0 k a0 t213 t217 true) else (if a0 ≥ 55296 then (epitomelaw01_PointsOne.j0 k a0 t213 t217 (decide (a0 ≤ 57343))) else (epitomelaw01_PointsOne.j0 k a0 t213 t217 false))))) = some r := H
  have A2 := Aside0.mk A20
  clear A20
  obtain ⟨y214, hy214⟩ : ∃ y_ : List Int, y_ = (([a0] : List Int)) := ⟨_, rfl⟩
  replace H : ((points_Of.f y214).bind fun t217 => (if a0 < 0 then (epitomelaw01_PointsOne.j0 k a0 t213 t217 true) else (if a0 > 1114111 then (epitomelaw01_PointsOne.j0 k a0 t213 t217 true) else (if a0 ≥ 55296 then (epitomelaw01_PointsOne.j0 k a0 t213 t217 (decide (a0 ≤ 57343))) else (epitomelaw01_PointsOne.j0 k a0 t213 t217 false))))) = some r := by first | (rw [hy214]; with_reducible exact H) | (have H2_ := (Option.bind_some _ _).symm.trans H; rw [hy214]; with_reducible exact H2_) | (have H2_ := (Option.bind_some _ _).symm.trans H; with_reducible exact H2_) | with_reducible exact H | (rw [hy214]; exact H) | exact H
  have Ny214 := Aside0.mk hy214
  clear hy214
  replace H := Option.bind_eq_some_iff.mp H
  obtain ⟨t217, A30, H⟩ := H
  replace H : (if a0 < 0 then (epitomelaw01_PointsOne.j0 k a0 t213 t217 true) else (if a0 > 1114111 then (epitomelaw01_PointsOne.j0 k a0 t213 t217 true) else (if a0 ≥ 55296 then (epitomelaw01_PointsOne.j0 k a0 t213 t217 (decide (a0 ≤ 57343))) else (epitomelaw01_PointsOne.j0 k a0 t213 t217 false)))) = some r := H
  have A3 := Aside0.mk A30
  clear A30
  have HC4 := Aside0.mk H
  clear H
  go_enter Tryd.func8, Tryd.ntmps8
  go_upto_region 3 with (first | ((with_reducible refine gate_callee (f := 14) rfl ?_); refine goesL_ (some 6) rfl rfl Tryd.func14 (by kernel_rfl) rfl #[] rfl (by (try simp only [List.map_toArray, List.map_cons, List.map_nil]); first | done | rfl | (simp only [List.length_drop, List.length_take]; rfl)) ?_; (with_reducible refine (epitomelaw01_shown.calls  t213 _ ?side1 A2.out).mono ?_); (case side1 => exact Tabs.below HT.out (by repeat (first | (with_reducible first | exact HB.out | apply below_alloc | apply pw_below_drewN | apply below_drew1) | exact HB.out))); rintro e w5 ⟨rfl, hb⟩; refine ⟨_, rfl, ?_⟩; have n0_ := Aside0.mk (below_step (by repeat (first | (with_reducible first | exact HB.out | apply below_alloc | apply pw_below_drewN | apply below_drew1) | exact HB.out)) hb); clear HB; have HB := n0_; clear n0_; (try clear hb); (try clear hb2); (try clear hk); (try clear hi)) | ((with_reducible refine gate_dst (N := 8) rfl ?_); (try (refine gate_guard (by rfl) ?_; dsimp only)); refine Kd.R_lit (Kd.int .i32) _ 21 ?hg (N := 8) ?hd (xs := ([a0] : List Int)) (inner := [.int .i32 a0]) (ok := fun _ => True) (okp := fun _ => True) ?hr ?hp (fun _ hk => hk) trivial (Below.refl _ _) (Nat.le_refl _) (by simp) ?_; (case hd => rfl); (case hg => rfl); (case hr => first | (go_simp; done) | (go_simp; rfl)); (case hp => exact (Reps.one (show Kd.M (Kd.int .i32) _ _ _ a0 [.int .i32 a0] from rfl) (Reps.none _ _))); intro v215 w6 ho7 hb hg_ hnew_; clear hg_ hnew_; (first | rw [← Ny214.out] at ho7 | (simp only [Int.reduceToNat] at ho7; rw [← Ny214.out] at ho7)); have n0_ := Aside0.mk (Kd.R_lower ho7 (below_size (by repeat (first | (with_reducible first | exact HB.out | apply below_alloc | apply pw_below_drewN | apply below_drew1) | exact HB.out)))); have n1_ := Aside0.mk (below_step (by repeat (first | (with_reducible first | exact HB.out | apply below_alloc | apply pw_below_drewN | apply below_drew1) | exact HB.out)) hb); clear HB; have HO216 := n0_; have HB := n1_; clear n0_ n1_; clear hb ho7; obtain ⟨Ao8, co8, eo8⟩ := Kd.R_slice HO216.out; subst eo8) | ((with_reducible refine gate_callee (f := 23) rfl ?_); refine goesL_ (some 9) rfl rfl Tryd.func23 (by kernel_rfl) rfl #[.slice Ao8 y214.length co8] rfl (by (try simp only [List.map_toArray, List.map_cons, List.map_nil]); first | done | rfl | (simp only [List.length_drop, List.length_take]; rfl)) ?_; (with_reducible refine (points_Of.calls _ _ y214 t217 _ ?side1 ?side2 A3.out).mono ?_); (case side1 => repeat (first | exact (Kd.R_reads' HO216.out).2.2 | (with_reducible refine Kd.C_alloc ?_ _) | (with_reducible refine Kd.C_drewN ?_ _) | (with_reducible refine Kd.C_drew ?_))); (case side2 => exact (Kd.R_reads' HO216.out).2.1); rintro e w9 ⟨rfl, hb⟩; refine ⟨_, rfl, ?_⟩; have n0_ := Aside0.mk (Kd.R_below (by (with_reducible repeat (first | apply Kd.R_alloc | apply Kd.R_drewN | apply Kd.R_drew)); exact HO216.out) hb); have n1_ := Aside0.mk (below_step (by repeat (first | (with_reducible first | exact HB.out | apply below_alloc | apply pw_below_drewN | apply below_drew1) | exact HB.out)) hb); clear HO216; clear HB; have HO216 := n0_; have HB := n1_; clear n0_ n1_; (try clear hb); (try clear hb2); (try clear hk); (try clear hi)))
  (try simp only [Act.put, List.setIfInBounds_toArray, List.set_cons_zero, List.set_cons_succ])
  go_cut [23] (fun v23 wc => ∃ (kq : Nat) (x23_3 : Bool), v23 = .bool x23_3 ∧ Aside0 (epitomelaw01_PointsOne.j0 kq a0 t213 t217 x23_3 = some r) ∧ Aside0 (kq ≤ k) ∧ Aside0 (Below w.heap.size w wc))
  case first =>
    have H := HC4.out
    clear HC4
    by_cases c10 : a0 < 0
    · rw [if_pos c10] at H
      have c10b0 : decide (a0 < 0) = true := decide_eq_true c10
      clear c10
      (first | rw [c10b0] | (simp only [i64_w, i32_w]; rw [c10b0]) | skip)
      have H' := Aside0.mk H
      clear H
      go_wp2
      go_meet
      case rel => exact ⟨_, (true), (by first | rfl | (simp; done) | (simp [*]; done)), H', ⟨by first | omega | exact Nat.le_refl _⟩, ⟨by repeat (first | (with_reducible first | exact HB.out | apply below_alloc | apply pw_below_drewN | apply below_drew1) | exact HB.out)⟩⟩
    · rw [if_neg c10] at H
      have c10b0 : decide (a0 < 0) = false := decide_eq_false c10
      clear c10
      (first | rw [c10b0] | (simp only [i64_w, i32_w]; rw [c10b0]) | skip)
      by_cases c11 : a0 > 1114111
      · rw [if_pos c11] at H
        have c11b0 : decide (1114111 < a0) = true := decide_eq_true c11
        clear c11
        have H' := Aside0.mk H
        clear H
        go_wp2
        go_meet
        case rel => exact ⟨_, (true), (by first | rfl | (simp; done) | (simp [*]; done)), H', ⟨by first | omega | exact Nat.le_refl _⟩, ⟨by repeat (first | (with_reducible first | exact HB.out | apply below_alloc | apply pw_below_drewN | apply below_drew1) | exact HB.out)⟩⟩
      · rw [if_neg c11] at H
        have c11b0 : decide (1114111 < a0) = false := decide_eq_false c11
        clear c11
        by_cases c12 : a0 ≥ 55296
        · rw [if_pos c12] at H
          have c12b0 : decide (55296 ≤ a0) = true := decide_eq_true c12
          clear c12
          have H' := Aside0.mk H
          clear H
          go_wp2
          go_meet
          case rel => exact ⟨_, (decide (a0 ≤ 57343)), (by first | rfl | (simp; done) | (simp [*]; done)), H', ⟨by first | omega | exact Nat.le_refl _⟩, ⟨by repeat (first | (with_reducible first | exact HB.out | apply below_alloc | apply pw_below_drewN | apply below_drew1) | exact HB.out)⟩⟩
        · rw [if_neg c12] at H
          have c12b0 : decide (55296 ≤ a0) = false := decide_eq_false c12
          clear c12
          have H' := Aside0.mk H
          clear H
          go_wp2
          go_meet
          case rel => exact ⟨_, (false), (by first | rfl | (simp; done) | (simp [*]; done)), H', ⟨by first | omega | exact Nat.le_refl _⟩, ⟨by repeat (first | (with_reducible first | exact HB.out | apply below_alloc | apply pw_below_drewN | apply below_drew1) | exact HB.out)⟩⟩
  case rest =>
    clear HC4
    try clear c1
    try clear c2
    try clear p2
    try clear c8
    try clear c10
    try clear c10b0
    try clear c11
    try clear c11b0
    try clear c12
    try clear c12b0
    obtain ⟨kq, x23_3, rfl, HA, HJ3, HB⟩ := hcut
    cases kq with
    | zero => exact absurd HA.out (by simp [epitomelaw01_PointsOne.j0])
    | succ kj3 =>
      have H := HA.out
      clear HA
      simp only [epitomelaw01_PointsOne.j0] at H
      by_cases c13 : x23_3 = true
      · subst c13
        have H1 : (if t213 = true then (some (t217.toList == ([] : List UInt8))) else (some false)) = some r := by rw [if_pos rfl] at H; exact H
        clear H
        have H := H1
        clear H1
        by_cases c14 : t213 = true
        · subst c14
          have H1 : (some (t217.toList == ([] : List UInt8))) = some r := by rw [if_pos rfl] at H; exact H
          clear H
          have H := H1
          clear H1
          obtain rfl := Option.some.inj H
          simp only [Option.some.injEq, Prod.mk.injEq] at H
          obtain ⟨rfl⟩ := H
          go_wp2
          go_ret
          exact ⟨by first | rfl | (simp [errW_none, errW_some] <;> rfl) | (simp [*, errW_none, errW_some] <;> rfl), by repeat (first | (with_reducible first | exact HB.out | apply below_alloc | apply pw_below_drewN | apply below_drew1) | exact HB.out)⟩
        · replace c14 := Bool.eq_false_iff.mpr c14
          subst c14
          have H1 : (some false) = some r := by rw [if_neg (show ¬ (false = true) by decide)] at H; exact H
          clear H
          have H := H1
          clear H1
          obtain rfl := Option.some.inj H
          exact absurd HLAW.out (by decide)
      · replace c13 := Bool.eq_false_iff.mpr c13
        subst c13
        have H1 : (if a0 < 128 then (if t213 = true then (if (t217.size : Int) = 1 then ((points_Valid.f t217).bind fun t218 => (if t218 = true then ((points_Count.f t217).bind fun t219 => (if t219 = 1 then ((points_Of.f (([a0, a0] : List Int))).bind fun t223 => (if t217.size + t217.size ≤ 9223372036854775807 then (some (t223.toList == (t217 ++ t217).toList)) else (none))) else (some false))) else (some false))) else (some false)) else (some false)) else (if a0 < 2048 then (if t213 = true then (if (t217.size : Int) = 2 then ((points_Valid.f t217).bind fun t224 => (if t224 = true then ((points_Count.f t217).bind fun t225 => (if t225 = 1 then ((points_Of.f (([a0, a0] : List Int))).bind fun t229 => (if t217.size + t217.size ≤ 9223372036854775807 then (some (t229.toList == (t217 ++ t217).toList)) else (none))) else (some false))) else (some false))) else (some false)) else (some false)) else (if a0 < 65536 then (if t213 = true then (if (t217.size : Int) = 3 then ((points_Valid.f t217).bind fun t230 => (if t230 = true then ((points_Count.f t217).bind fun t231 => (if t231 = 1 then ((points_Of.f (([a0, a0] : List Int))).bind fun t235 => (if t217.size + t217.size ≤ 9223372036854775807 then (some (t235.toList == (t217 ++ t217).toList)) else (none))) else (some false))) else (some false))) else (some false)) else (some false)) else (if t213 = true then (if (t217.size : Int) = 4 then ((points_Valid.f t217).bind fun t236 => (if t236 = true then ((points_Count.f t217).bind fun t237 => (if t237 = 1 then ((points_Of.f (([a0, a0] : List Int))).bind fun t241 => (if t217.size + t217.size ≤ 9223372036854775807 then (some (t241.toList == (t217 ++ t217).toList)) else (none))) else (some false))) else (some false))) else (some false)) else (some false))))) = some r := by rw [if_neg (show ¬ (false = true) by decide)] at H; exact H
        clear H
        have H := H1
        clear H1
        by_cases c15 : a0 < 128
        · rw [if_pos c15] at H
          have c15b0 : decide (a0 < 128) = true := decide_eq_true c15
          clear c15
          by_cases c16 : t213 = true
          · subst c16
            have H1 : (if (t217.size : Int) = 1 then ((points_Valid.f t217).bind fun t218 => (if t218 = true then ((points_Count.f t217).bind fun t219 => (if t219 = 1 then ((points_Of.f (([a0, a0] : List Int))).bind fun t223 => (if t217.size + t217.size ≤ 9223372036854775807 then (some (t223.toList == (t217 ++ t217).toList)) else (none))) else (some false))) else (some false))) else (some false)) = some r := by rw [if_pos rfl] at H; exact H
            clear H
            have H := H1
            clear H1
            by_cases c17 : (t217.size : Int) = 1
            · rw [if_pos c17] at H
              have c17b0 : ((t217.size : Int) == 1) = true := beq_iff_eq.mpr c17
              have c17b1 : ((t217.size : Int) != 1) = false := bne_eq_false_iff_eq.mpr c17
              clear c17
              replace H := Option.bind_eq_some_iff.mp H
              obtain ⟨t218, A180, H⟩ := H
              replace H : (if t218 = true then ((points_Count.f t217).bind fun t219 => (if t219 = 1 then ((points_Of.f (([a0, a0] : List Int))).bind fun t223 => (if t217.size + t217.size ≤ 9223372036854775807 then (some (t223.toList == (t217 ++ t217).toList)) else (none))) else (some false))) else (some false)) = some r := H
              have A18 := Aside0.mk A180
              clear A180
              by_cases c19 : t218 = true
              · subst c19
                have H1 : ((points_Count.f t217).bind fun t219 => (if t219 = 1 then ((points_Of.f (([a0, a0] : List Int))).bind fun t223 => (if t217.size + t217.size ≤ 9223372036854775807 then (some (t223.toList == (t217 ++ t217).toList)) else (none))) else (some false))) = some r := by rw [if_pos rfl] at H; exact H
                clear H
                have H := H1
                clear H1
                replace H := Option.bind_eq_some_iff.mp H
                obtain ⟨t219, A200, H⟩ := H
                replace H : (if t219 = 1 then ((points_Of.f (([a0, a0] : List Int))).bind fun t223 => (if t217.size + t217.size ≤ 9223372036854775807 then (some (t223.toList == (t217 ++ t217).toList)) else (none))) else (some false)) = some r := H
                have A20 := Aside0.mk A200
                clear A200
                by_cases c21 : t219 = 1
                · rw [if_pos c21] at H
                  have c21b0 : (t219 == 1) = true := beq_iff_eq.mpr c21
                  have c21b1 : (t219 != 1) = false := bne_eq_false_iff_eq.mpr c21
                  clear c21
                  obtain ⟨y220, hy220⟩ : ∃ y_ : List Int, y_ = (([a0, a0] : List Int)) := ⟨_, rfl⟩
                  replace H : ((points_Of.f y220).bind fun t223 => (if t217.size + t217.size ≤ 9223372036854775807 then (some (t223.toList == (t217 ++ t217).toList)) else (none))) = some r := by first | (rw [hy220]; with_reducible exact H) | (have H2_ := (Option.bind_some _ _).symm.trans H; rw [hy220]; with_reducible exact H2_) | (have H2_ := (Option.bind_some _ _).symm.trans H; with_reducible exact H2_) | with_reducible exact H | (rw [hy220]; exact H) | exact H
                  have Ny220 := Aside0.mk hy220
                  clear hy220
                  replace H := Option.bind_eq_some_iff.mp H
                  obtain ⟨t223, A220, H⟩ := H
                  replace H : (if t217.size + t217.size ≤ 9223372036854775807 then (some (t223.toList == (t217 ++ t217).toList)) else (none)) = some r := H
                  have A22 := Aside0.mk A220
                  clear A220
                  by_cases c23 : t217.size + t217.size ≤ 9223372036854775807
                  · rw [if_pos c23] at H
                    have c23b0 := eq_true c23
                    have c23b1 : decide (t217.size + t217.size ≤ 9223372036854775807) = true := decide_eq_true c23
                    try have c23b2 : (9223372036854775807 < t217.size + t217.size) = False := eq_false (Nat.not_lt.2 c23)
                    obtain rfl := Option.some.inj H
                    simp only [Option.some.injEq, Prod.mk.injEq] at H
                    obtain ⟨rfl⟩ := H
                    go_wp2_with (first | (go_at_call 18; (with_reducible refine (points_Valid.calls t217 true _ ?side1 A18.out).mono ?_); (case side1 => exact Tabs.below HT.out (by repeat (first | (with_reducible first | exact HB.out | apply below_alloc | apply pw_below_drewN | apply below_drew1) | exact HB.out))); rintro e w24 ⟨rfl, hb⟩; have n0_ := Aside0.mk (below_step (by repeat (first | (with_reducible first | exact HB.out | apply below_alloc | apply pw_below_drewN | apply below_drew1) | exact HB.out)) hb); clear HB; have HB := n0_; clear n0_; (try clear hb); (try clear hb2); (try clear hk); (try clear hi)) | (go_at_call 20; (with_reducible refine (points_Count.calls t217 t219 _ ?side1 A20.out).mono ?_); (case side1 => exact Tabs.below HT.out (by repeat (first | (with_reducible first | exact HB.out | apply below_alloc | apply pw_below_drewN | apply below_drew1) | exact HB.out))); rintro e w25 ⟨rfl, hb⟩; have n0_ := Aside0.mk (below_step (by repeat (first | (with_reducible first | exact HB.out | apply below_alloc | apply pw_below_drewN | apply below_drew1) | exact HB.out)) hb); clear HB; have HB := n0_; clear n0_; (try clear hb); (try clear hb2); (try clear hk); (try clear hi)) | ((with_reducible refine gate_dst (N := 54) rfl ?_); (try (refine gate_guard (by rfl) ?_; dsimp only)); refine Kd.R_lit (Kd.int .i32) _ 21 ?hg (N := 54) ?hd (xs := ([a0, a0] : List Int)) (inner := [.int .i32 a0, .int .i32 a0]) (ok := fun _ => True) (okp := fun _ => True) ?hr ?hp (fun _ hk => hk) trivial (Below.refl _ _) (Nat.le_refl _) (by simp) ?_; (case hd => rfl); (case hg => rfl); (case hr => first | (go_simp; done) | (go_simp; rfl)); (case hp => exact (Reps.one (show Kd.M (Kd.int .i32) _ _ _ a0 [.int .i32 a0] from rfl) (Reps.one (show Kd.M (Kd.int .i32) _ _ _ a0 [.int .i32 a0] from rfl) (Reps.none _ _)))); intro v221 w26 ho27 hb hg_ hnew_; clear hg_ hnew_; (first | rw [← Ny220.out] at ho27 | (simp only [Int.reduceToNat] at ho27; rw [← Ny220.out] at ho27)); have n0_ := Aside0.mk (Kd.R_lower ho27 (below_size (by repeat (first | (with_reducible first | exact HB.out | apply below_alloc | apply pw_below_drewN | apply below_drew1) | exact HB.out)))); have n1_ := Aside0.mk (below_step (by repeat (first | (with_reducible first | exact HB.out | apply below_alloc | apply pw_below_drewN | apply below_drew1) | exact HB.out)) hb); clear HB; have HO222 := n0_; have HB := n1_; clear n0_ n1_; clear hb ho27; obtain ⟨Ao28, co28, eo28⟩ := Kd.R_slice HO222.out; subst eo28) | (go_at_call 23; (with_reducible refine (points_Of.calls _ _ y220 t223 _ ?side1 ?side2 A22.out).mono ?_); (case side1 => repeat (first | exact (Kd.R_reads' HO222.out).2.2 | (with_reducible refine Kd.C_alloc ?_ _) | (with_reducible refine Kd.C_drewN ?_ _) | (with_reducible refine Kd.C_drew ?_))); (case side2 => exact (Kd.R_reads' HO222.out).2.1); rintro e w29 ⟨rfl, hb⟩; have n0_ := Aside0.mk (Kd.R_below (by (with_reducible repeat (first | apply Kd.R_alloc | apply Kd.R_drewN | apply Kd.R_drew)); exact HO222.out) hb); have n1_ := Aside0.mk (below_step (by repeat (first | (with_reducible first | exact HB.out | apply below_alloc | apply pw_below_drewN | apply below_drew1) | exact HB.out)) hb); clear HO222; clear HB; have HO222 := n0_; have HB := n1_; clear n0_ n1_; (try clear hb); (try clear hb2); (try clear hk); (try clear hi)))
                    go_ret
                    exact ⟨by first | rfl | (simp [errW_none, errW_some] <;> rfl) | (simp [*, errW_none, errW_some] <;> rfl), by repeat (first | (with_reducible first | exact HB.out | apply below_alloc | apply pw_below_drewN | apply below_drew1) | exact HB.out)⟩
                  · rw [if_neg c23] at H
                    exact absurd H (by simp)
                · rw [if_neg c21] at H
                  have c21b0 : (t219 == 1) = false := beq_eq_false_iff_ne.mpr c21
                  have c21b1 : (t219 != 1) = true := bne_iff_ne.mpr c21
                  obtain rfl := Option.some.inj H
                  exact absurd HLAW.out (by decide)
              · replace c19 := Bool.eq_false_iff.mpr c19
                subst c19
                have H1 : (some false) = some r := by rw [if_neg (show ¬ (false = true) by decide)] at H; exact H
                clear H
                have H := H1
                clear H1
                obtain rfl := Option.some.inj H
                exact absurd HLAW.out (by decide)
            · rw [if_neg c17] at H
              have c17b0 : ((t217.size : Int) == 1) = false := beq_eq_false_iff_ne.mpr c17
              have c17b1 : ((t217.size : Int) != 1) = true := bne_iff_ne.mpr c17
              obtain rfl := Option.some.inj H
              exact absurd HLAW.out (by decide)
          · replace c16 := Bool.eq_false_iff.mpr c16
            subst c16
            have H1 : (some false) = some r := by rw [if_neg (show ¬ (false = true) by decide)] at H; exact H
            clear H
            have H := H1
            clear H1
            obtain rfl := Option.some.inj H
            exact absurd HLAW.out (by decide)
        · rw [if_neg c15] at H
          have c15b0 : decide (a0 < 128) = false := decide_eq_false c15
          clear c15
          by_cases c30 : a0 < 2048
          · rw [if_pos c30] at H
            have c30b0 : decide (a0 < 2048) = true := decide_eq_true c30
            clear c30
            by_cases c31 : t213 = true
            · subst c31
              have H1 : (if (t217.size : Int) = 2 then ((points_Valid.f t217).bind fun t224 => (if t224 = true then ((points_Count.f t217).bind fun t225 => (if t225 = 1 then ((points_Of.f (([a0, a0] : List Int))).bind fun t229 => (if t217.size + t217.size ≤ 9223372036854775807 then (some (t229.toList == (t217 ++ t217).toList)) else (none))) else (some false))) else (some false))) else (some false)) = some r := by rw [if_pos rfl] at H; exact H
              clear H
              have H := H1
              clear H1
              by_cases c32 : (t217.size : Int) = 2
              · rw [if_pos c32] at H
                have c32b0 : ((t217.size : Int) == 2) = true := beq_iff_eq.mpr c32
                have c32b1 : ((t217.size : Int) != 2) = false := bne_eq_false_iff_eq.mpr c32
                clear c32
                replace H := Option.bind_eq_some_iff.mp H
                obtain ⟨t224, A330, H⟩ := H
                replace H : (if t224 = true then ((points_Count.f t217).bind fun t225 => (if t225 = 1 then ((points_Of.f (([a0, a0] : List Int))).bind fun t229 => (if t217.size + t217.size ≤ 9223372036854775807 then (some (t229.toList == (t217 ++ t217).toList)) else (none))) else (some false))) else (some false)) = some r := H
                have A33 := Aside0.mk A330
                clear A330
                by_cases c34 : t224 = true
                · subst c34
                  have H1 : ((points_Count.f t217).bind fun t225 => (if t225 = 1 then ((points_Of.f (([a0, a0] : List Int))).bind fun t229 => (if t217.size + t217.size ≤ 9223372036854775807 then (some (t229.toList == (t217 ++ t217).toList)) else (none))) else (some false))) = some r := by rw [if_pos rfl] at H; exact H
                  clear H
                  have H := H1
                  clear H1
                  replace H := Option.bind_eq_some_iff.mp H
                  obtain ⟨t225, A350, H⟩ := H
                  replace H : (if t225 = 1 then ((points_Of.f (([a0, a0] : List Int))).bind fun t229 => (if t217.size + t217.size ≤ 9223372036854775807 then (some (t229.toList == (t217 ++ t217).toList)) else (none))) else (some false)) = some r := H
                  have A35 := Aside0.mk A350
                  clear A350
                  by_cases c36 : t225 = 1
                  · rw [if_pos c36] at H
                    have c36b0 : (t225 == 1) = true := beq_iff_eq.mpr c36
                    have c36b1 : (t225 != 1) = false := bne_eq_false_iff_eq.mpr c36
                    clear c36
                    obtain ⟨y226, hy226⟩ : ∃ y_ : List Int, y_ = (([a0, a0] : List Int)) := ⟨_, rfl⟩
                    replace H : ((points_Of.f y226).bind fun t229 => (if t217.size + t217.size ≤ 9223372036854775807 then (some (t229.toList == (t217 ++ t217).toList)) else (none))) = some r := by first | (rw [hy226]; with_reducible exact H) | (have H2_ := (Option.bind_some _ _).symm.trans H; rw [hy226]; with_reducible exact H2_) | (have H2_ := (Option.bind_some _ _).symm.trans H; with_reducible exact H2_) | with_reducible exact H | (rw [hy226]; exact H) | exact H
                    have Ny226 := Aside0.mk hy226
                    clear hy226
                    replace H := Option.bind_eq_some_iff.mp H
                    obtain ⟨t229, A370, H⟩ := H
                    replace H : (if t217.size + t217.size ≤ 9223372036854775807 then (some (t229.toList == (t217 ++ t217).toList)) else (none)) = some r := H
                    have A37 := Aside0.mk A370
                    clear A370
                    by_cases c38 : t217.size + t217.size ≤ 9223372036854775807
                    · rw [if_pos c38] at H
                      have c38b0 := eq_true c38
                      have c38b1 : decide (t217.size + t217.size ≤ 9223372036854775807) = true := decide_eq_true c38
                      try have c38b2 : (9223372036854775807 < t217.size + t217.size) = False := eq_false (Nat.not_lt.2 c38)
                      obtain rfl := Option.some.inj H
                      simp only [Option.some.injEq, Prod.mk.injEq] at H
                      obtain ⟨rfl⟩ := H
                      go_wp2_with (first | (go_at_call 18; (with_reducible refine (points_Valid.calls t217 true _ ?side1 A33.out).mono ?_); (case side1 => exact Tabs.below HT.out (by repeat (first | (with_reducible first | exact HB.out | apply below_alloc | apply pw_below_drewN | apply below_drew1) | exact HB.out))); rintro e w39 ⟨rfl, hb⟩; have n0_ := Aside0.mk (below_step (by repeat (first | (with_reducible first | exact HB.out | apply below_alloc | apply pw_below_drewN | apply below_drew1) | exact HB.out)) hb); clear HB; have HB := n0_; clear n0_; (try clear hb); (try clear hb2); (try clear hk); (try clear hi)) | (go_at_call 20; (with_reducible refine (points_Count.calls t217 t225 _ ?side1 A35.out).mono ?_); (case side1 => exact Tabs.below HT.out (by repeat (first | (with_reducible first | exact HB.out | apply below_alloc | apply pw_below_drewN | apply below_drew1) | exact HB.out))); rintro e w40 ⟨rfl, hb⟩; have n0_ := Aside0.mk (below_step (by repeat (first | (with_reducible first | exact HB.out | apply below_alloc | apply pw_below_drewN | apply below_drew1) | exact HB.out)) hb); clear HB; have HB := n0_; clear n0_; (try clear hb); (try clear hb2); (try clear hk); (try clear hi)) | ((with_reducible refine gate_dst (N := 54) rfl ?_); (try (refine gate_guard (by rfl) ?_; dsimp only)); refine Kd.R_lit (Kd.int .i32) _ 21 ?hg (N := 54) ?hd (xs := ([a0, a0] : List Int)) (inner := [.int .i32 a0, .int .i32 a0]) (ok := fun _ => True) (okp := fun _ => True) ?hr ?hp (fun _ hk => hk) trivial (Below.refl _ _) (Nat.le_refl _) (by simp) ?_; (case hd => rfl); (case hg => rfl); (case hr => first | (go_simp; done) | (go_simp; rfl)); (case hp => exact (Reps.one (show Kd.M (Kd.int .i32) _ _ _ a0 [.int .i32 a0] from rfl) (Reps.one (show Kd.M (Kd.int .i32) _ _ _ a0 [.int .i32 a0] from rfl) (Reps.none _ _)))); intro v227 w41 ho42 hb hg_ hnew_; clear hg_ hnew_; (first | rw [← Ny226.out] at ho42 | (simp only [Int.reduceToNat] at ho42; rw [← Ny226.out] at ho42)); have n0_ := Aside0.mk (Kd.R_lower ho42 (below_size (by repeat (first | (with_reducible first | exact HB.out | apply below_alloc | apply pw_below_drewN | apply below_drew1) | exact HB.out)))); have n1_ := Aside0.mk (below_step (by repeat (first | (with_reducible first | exact HB.out | apply below_alloc | apply pw_below_drewN | apply below_drew1) | exact HB.out)) hb); clear HB; have HO228 := n0_; have HB := n1_; clear n0_ n1_; clear hb ho42; obtain ⟨Ao43, co43, eo43⟩ := Kd.R_slice HO228.out; subst eo43) | (go_at_call 23; (with_reducible refine (points_Of.calls _ _ y226 t229 _ ?side1 ?side2 A37.out).mono ?_); (case side1 => repeat (first | exact (Kd.R_reads' HO228.out).2.2 | (with_reducible refine Kd.C_alloc ?_ _) | (with_reducible refine Kd.C_drewN ?_ _) | (with_reducible refine Kd.C_drew ?_))); (case side2 => exact (Kd.R_reads' HO228.out).2.1); rintro e w44 ⟨rfl, hb⟩; have n0_ := Aside0.mk (Kd.R_below (by (with_reducible repeat (first | apply Kd.R_alloc | apply Kd.R_drewN | apply Kd.R_drew)); exact HO228.out) hb); have n1_ := Aside0.mk (below_step (by repeat (first | (with_reducible first | exact HB.out | apply below_alloc | apply pw_below_drewN | apply below_drew1) | exact HB.out)) hb); clear HO228; clear HB; have HO228 := n0_; have HB := n1_; clear n0_ n1_; (try clear hb); (try clear hb2); (try clear hk); (try clear hi)))
                      go_ret
                      exact ⟨by first | rfl | (simp [errW_none, errW_some] <;> rfl) | (simp [*, errW_none, errW_some] <;> rfl), by repeat (first | (with_reducible first | exact HB.out | apply below_alloc | apply pw_below_drewN | apply below_drew1) | exact HB.out)⟩
                    · rw [if_neg c38] at H
                      exact absurd H (by simp)
                  · rw [if_neg c36] at H
                    have c36b0 : (t225 == 1) = false := beq_eq_false_iff_ne.mpr c36
                    have c36b1 : (t225 != 1) = true := bne_iff_ne.mpr c36
                    obtain rfl := Option.some.inj H
                    exact absurd HLAW.out (by decide)
                · replace c34 := Bool.eq_false_iff.mpr c34
                  subst c34
                  have H1 : (some false) = some r := by rw [if_neg (show ¬ (false = true) by decide)] at H; exact H
                  clear H
                  have H := H1
                  clear H1
                  obtain rfl := Option.some.inj H
                  exact absurd HLAW.out (by decide)
              · rw [if_neg c32] at H
                have c32b0 : ((t217.size : Int) == 2) = false := beq_eq_false_iff_ne.mpr c32
                have c32b1 : ((t217.size : Int) != 2) = true := bne_iff_ne.mpr c32
                obtain rfl := Option.some.inj H
                exact absurd HLAW.out (by decide)
            · replace c31 := Bool.eq_false_iff.mpr c31
              subst c31
              have H1 : (some false) = some r := by rw [if_neg (show ¬ (false = true) by decide)] at H; exact H
              clear H
              have H := H1
              clear H1
              obtain rfl := Option.some.inj H
              exact absurd HLAW.out (by decide)
          · rw [if_neg c30] at H
            have c30b0 : decide (a0 < 2048) = false := decide_eq_false c30
            clear c30
            by_cases c45 : a0 < 65536
            · rw [if_pos c45] at H
              have c45b0 : decide (a0 < 65536) = true := decide_eq_true c45
              clear c45
              by_cases c46 : t213 = true
              · subst c46
                have H1 : (if (t217.size : Int) = 3 then ((points_Valid.f t217).bind fun t230 => (if t230 = true then ((points_Count.f t217).bind fun t231 => (if t231 = 1 then ((points_Of.f (([a0, a0] : List Int))).bind fun t235 => (if t217.size + t217.size ≤ 9223372036854775807 then (some (t235.toList == (t217 ++ t217).toList)) else (none))) else (some false))) else (some false))) else (some false)) = some r := by rw [if_pos rfl] at H; exact H
                clear H
                have H := H1
                clear H1
                by_cases c47 : (t217.size : Int) = 3
                · rw [if_pos c47] at H
                  have c47b0 : ((t217.size : Int) == 3) = true := beq_iff_eq.mpr c47
                  have c47b1 : ((t217.size : Int) != 3) = false := bne_eq_false_iff_eq.mpr c47
                  clear c47
                  replace H := Option.bind_eq_some_iff.mp H
                  obtain ⟨t230, A480, H⟩ := H
                  replace H : (if t230 = true then ((points_Count.f t217).bind fun t231 => (if t231 = 1 then ((points_Of.f (([a0, a0] : List Int))).bind fun t235 => (if t217.size + t217.size ≤ 9223372036854775807 then (some (t235.toList == (t217 ++ t217).toList)) else (none))) else (some false))) else (some false)) = some r := H
                  have A48 := Aside0.mk A480
                  clear A480
                  by_cases c49 : t230 = true
                  · subst c49
                    have H1 : ((points_Count.f t217).bind fun t231 => (if t231 = 1 then ((points_Of.f (([a0, a0] : List Int))).bind fun t235 => (if t217.size + t217.size ≤ 9223372036854775807 then (some (t235.toList == (t217 ++ t217).toList)) else (none))) else (some false))) = some r := by rw [if_pos rfl] at H; exact H
                    clear H
                    have H := H1
                    clear H1
                    replace H := Option.bind_eq_some_iff.mp H
                    obtain ⟨t231, A500, H⟩ := H
                    replace H : (if t231 = 1 then ((points_Of.f (([a0, a0] : List Int))).bind fun t235 => (if t217.size + t217.size ≤ 9223372036854775807 then (some (t235.toList == (t217 ++ t217).toList)) else (none))) else (some false)) = some r := H
                    have A50 := Aside0.mk A500
                    clear A500
                    by_cases c51 : t231 = 1
                    · rw [if_pos c51] at H
                      have c51b0 : (t231 == 1) = true := beq_iff_eq.mpr c51
                      have c51b1 : (t231 != 1) = false := bne_eq_false_iff_eq.mpr c51
                      clear c51
                      obtain ⟨y232, hy232⟩ : ∃ y_ : List Int, y_ = (([a0, a0] : List Int)) := ⟨_, rfl⟩
                      replace H : ((points_Of.f y232).bind fun t235 => (if t217.size + t217.size ≤ 9223372036854775807 then (some (t235.toList == (t217 ++ t217).toList)) else (none))) = some r := by first | (rw [hy232]; with_reducible exact H) | (have H2_ := (Option.bind_some _ _).symm.trans H; rw [hy232]; with_reducible exact H2_) | (have H2_ := (Option.bind_some _ _).symm.trans H; with_reducible exact H2_) | with_reducible exact H | (rw [hy232]; exact H) | exact H
                      have Ny232 := Aside0.mk hy232
                      clear hy232
                      replace H := Option.bind_eq_some_iff.mp H
                      obtain ⟨t235, A520, H⟩ := H
                      replace H : (if t217.size + t217.size ≤ 9223372036854775807 then (some (t235.toList == (t217 ++ t217).toList)) else (none)) = some r := H
                      have A52 := Aside0.mk A520
                      clear A520
                      by_cases c53 : t217.size + t217.size ≤ 9223372036854775807
                      · rw [if_pos c53] at H
                        have c53b0 := eq_true c53
                        have c53b1 : decide (t217.size + t217.size ≤ 9223372036854775807) = true := decide_eq_true c53
                        try have c53b2 : (9223372036854775807 < t217.size + t217.size) = False := eq_false (Nat.not_lt.2 c53)
                        obtain rfl := Option.some.inj H
                        simp only [Option.some.injEq, Prod.mk.injEq] at H
                        obtain ⟨rfl⟩ := H
                        go_wp2_with (first | (go_at_call 18; (with_reducible refine (points_Valid.calls t217 true _ ?side1 A48.out).mono ?_); (case side1 => exact Tabs.below HT.out (by repeat (first | (with_reducible first | exact HB.out | apply below_alloc | apply pw_below_drewN | apply below_drew1) | exact HB.out))); rintro e w54 ⟨rfl, hb⟩; have n0_ := Aside0.mk (below_step (by repeat (first | (with_reducible first | exact HB.out | apply below_alloc | apply pw_below_drewN | apply below_drew1) | exact HB.out)) hb); clear HB; have HB := n0_; clear n0_; (try clear hb); (try clear hb2); (try clear hk); (try clear hi)) | (go_at_call 20; (with_reducible refine (points_Count.calls t217 t231 _ ?side1 A50.out).mono ?_); (case side1 => exact Tabs.below HT.out (by repeat (first | (with_reducible first | exact HB.out | apply below_alloc | apply pw_below_drewN | apply below_drew1) | exact HB.out))); rintro e w55 ⟨rfl, hb⟩; have n0_ := Aside0.mk (below_step (by repeat (first | (with_reducible first | exact HB.out | apply below_alloc | apply pw_below_drewN | apply below_drew1) | exact HB.out)) hb); clear HB; have HB := n0_; clear n0_; (try clear hb); (try clear hb2); (try clear hk); (try clear hi)) | ((with_reducible refine gate_dst (N := 54) rfl ?_); (try (refine gate_guard (by rfl) ?_; dsimp only)); refine Kd.R_lit (Kd.int .i32) _ 21 ?hg (N := 54) ?hd (xs := ([a0, a0] : List Int)) (inner := [.int .i32 a0, .int .i32 a0]) (ok := fun _ => True) (okp := fun _ => True) ?hr ?hp (fun _ hk => hk) trivial (Below.refl _ _) (Nat.le_refl _) (by simp) ?_; (case hd => rfl); (case hg => rfl); (case hr => first | (go_simp; done) | (go_simp; rfl)); (case hp => exact (Reps.one (show Kd.M (Kd.int .i32) _ _ _ a0 [.int .i32 a0] from rfl) (Reps.one (show Kd.M (Kd.int .i32) _ _ _ a0 [.int .i32 a0] from rfl) (Reps.none _ _)))); intro v233 w56 ho57 hb hg_ hnew_; clear hg_ hnew_; (first | rw [← Ny232.out] at ho57 | (simp only [Int.reduceToNat] at ho57; rw [← Ny232.out] at ho57)); have n0_ := Aside0.mk (Kd.R_lower ho57 (below_size (by repeat (first | (with_reducible first | exact HB.out | apply below_alloc | apply pw_below_drewN | apply below_drew1) | exact HB.out)))); have n1_ := Aside0.mk (below_step (by repeat (first | (with_reducible first | exact HB.out | apply below_alloc | apply pw_below_drewN | apply below_drew1) | exact HB.out)) hb); clear HB; have HO234 := n0_; have HB := n1_; clear n0_ n1_; clear hb ho57; obtain ⟨Ao58, co58, eo58⟩ := Kd.R_slice HO234.out; subst eo58) | (go_at_call 23; (with_reducible refine (points_Of.calls _ _ y232 t235 _ ?side1 ?side2 A52.out).mono ?_); (case side1 => repeat (first | exact (Kd.R_reads' HO234.out).2.2 | (with_reducible refine Kd.C_alloc ?_ _) | (with_reducible refine Kd.C_drewN ?_ _) | (with_reducible refine Kd.C_drew ?_))); (case side2 => exact (Kd.R_reads' HO234.out).2.1); rintro e w59 ⟨rfl, hb⟩; have n0_ := Aside0.mk (Kd.R_below (by (with_reducible repeat (first | apply Kd.R_alloc | apply Kd.R_drewN | apply Kd.R_drew)); exact HO234.out) hb); have n1_ := Aside0.mk (below_step (by repeat (first | (with_reducible first | exact HB.out | apply below_alloc | apply pw_below_drewN | apply below_drew1) | exact HB.out)) hb); clear HO234; clear HB; have HO234 := n0_; have HB := n1_; clear n0_ n1_; (try clear hb); (try clear hb2); (try clear hk); (try clear hi)))
                        go_ret
                        exact ⟨by first | rfl | (simp [errW_none, errW_some] <;> rfl) | (simp [*, errW_none, errW_some] <;> rfl), by repeat (first | (with_reducible first | exact HB.out | apply below_alloc | apply pw_below_drewN | apply below_drew1) | exact HB.out)⟩
                      · rw [if_neg c53] at H
                        exact absurd H (by simp)
                    · rw [if_neg c51] at H
                      have c51b0 : (t231 == 1) = false := beq_eq_false_iff_ne.mpr c51
                      have c51b1 : (t231 != 1) = true := bne_iff_ne.mpr c51
                      obtain rfl := Option.some.inj H
                      exact absurd HLAW.out (by decide)
                  · replace c49 := Bool.eq_false_iff.mpr c49
                    subst c49
                    have H1 : (some false) = some r := by rw [if_neg (show ¬ (false = true) by decide)] at H; exact H
                    clear H
                    have H := H1
                    clear H1
                    obtain rfl := Option.some.inj H
                    exact absurd HLAW.out (by decide)
                · rw [if_neg c47] at H
                  have c47b0 : ((t217.size : Int) == 3) = false := beq_eq_false_iff_ne.mpr c47
                  have c47b1 : ((t217.size : Int) != 3) = true := bne_iff_ne.mpr c47
                  obtain rfl := Option.some.inj H
                  exact absurd HLAW.out (by decide)
              · replace c46 := Bool.eq_false_iff.mpr c46
                subst c46
                have H1 : (some false) = some r := by rw [if_neg (show ¬ (false = true) by decide)] at H; exact H
                clear H
                have H := H1
                clear H1
                obtain rfl := Option.some.inj H
                exact absurd HLAW.out (by decide)
            · rw [if_neg c45] at H
              have c45b0 : decide (a0 < 65536) = false := decide_eq_false c45
              clear c45
              by_cases c60 : t213 = true
              · subst c60
                have H1 : (if (t217.size : Int) = 4 then ((points_Valid.f t217).bind fun t236 => (if t236 = true then ((points_Count.f t217).bind fun t237 => (if t237 = 1 then ((points_Of.f (([a0, a0] : List Int))).bind fun t241 => (if t217.size + t217.size ≤ 9223372036854775807 then (some (t241.toList == (t217 ++ t217).toList)) else (none))) else (some false))) else (some false))) else (some false)) = some r := by rw [if_pos rfl] at H; exact H
                clear H
                have H := H1
                clear H1
                by_cases c61 : (t217.size : Int) = 4
                · rw [if_pos c61] at H
                  have c61b0 : ((t217.size : Int) == 4) = true := beq_iff_eq.mpr c61
                  have c61b1 : ((t217.size : Int) != 4) = false := bne_eq_false_iff_eq.mpr c61
                  clear c61
                  replace H := Option.bind_eq_some_iff.mp H
                  obtain ⟨t236, A620, H⟩ := H
                  replace H : (if t236 = true then ((points_Count.f t217).bind fun t237 => (if t237 = 1 then ((points_Of.f (([a0, a0] : List Int))).bind fun t241 => (if t217.size + t217.size ≤ 9223372036854775807 then (some (t241.toList == (t217 ++ t217).toList)) else (none))) else (some false))) else (some false)) = some r := H
                  have A62 := Aside0.mk A620
                  clear A620
                  by_cases c63 : t236 = true
                  · subst c63
                    have H1 : ((points_Count.f t217).bind fun t237 => (if t237 = 1 then ((points_Of.f (([a0, a0] : List Int))).bind fun t241 => (if t217.size + t217.size ≤ 9223372036854775807 then (some (t241.toList == (t217 ++ t217).toList)) else (none))) else (some false))) = some r := by rw [if_pos rfl] at H; exact H
                    clear H
                    have H := H1
                    clear H1
                    replace H := Option.bind_eq_some_iff.mp H
                    obtain ⟨t237, A640, H⟩ := H
                    replace H : (if t237 = 1 then ((points_Of.f (([a0, a0] : List Int))).bind fun t241 => (if t217.size + t217.size ≤ 9223372036854775807 then (some (t241.toList == (t217 ++ t217).toList)) else (none))) else (some false)) = some r := H
                    have A64 := Aside0.mk A640
                    clear A640
                    by_cases c65 : t237 = 1
                    · rw [if_pos c65] at H
                      have c65b0 : (t237 == 1) = true := beq_iff_eq.mpr c65
                      have c65b1 : (t237 != 1) = false := bne_eq_false_iff_eq.mpr c65
                      clear c65
                      obtain ⟨y238, hy238⟩ : ∃ y_ : List Int, y_ = (([a0, a0] : List Int)) := ⟨_, rfl⟩
                      replace H : ((points_Of.f y238).bind fun t241 => (if t217.size + t217.size ≤ 9223372036854775807 then (some (t241.toList == (t217 ++ t217).toList)) else (none))) = some r := by first | (rw [hy238]; with_reducible exact H) | (have H2_ := (Option.bind_some _ _).symm.trans H; rw [hy238]; with_reducible exact H2_) | (have H2_ := (Option.bind_some _ _).symm.trans H; with_reducible exact H2_) | with_reducible exact H | (rw [hy238]; exact H) | exact H
                      have Ny238 := Aside0.mk hy238
                      clear hy238
                      replace H := Option.bind_eq_some_iff.mp H
                      obtain ⟨t241, A660, H⟩ := H
                      replace H : (if t217.size + t217.size ≤ 9223372036854775807 then (some (t241.toList == (t217 ++ t217).toList)) else (none)) = some r := H
                      have A66 := Aside0.mk A660
                      clear A660
                      by_cases c67 : t217.size + t217.size ≤ 9223372036854775807
                      · rw [if_pos c67] at H
                        have c67b0 := eq_true c67
                        have c67b1 : decide (t217.size + t217.size ≤ 9223372036854775807) = true := decide_eq_true c67
                        try have c67b2 : (9223372036854775807 < t217.size + t217.size) = False := eq_false (Nat.not_lt.2 c67)
                        obtain rfl := Option.some.inj H
                        simp only [Option.some.injEq, Prod.mk.injEq] at H
                        obtain ⟨rfl⟩ := H
                        go_wp2_with (first | (go_at_call 18; (with_reducible refine (points_Valid.calls t217 true _ ?side1 A62.out).mono ?_); (case side1 => exact Tabs.below HT.out (by repeat (first | (with_reducible first | exact HB.out | apply below_alloc | apply pw_below_drewN | apply below_drew1) | exact HB.out))); rintro e w68 ⟨rfl, hb⟩; have n0_ := Aside0.mk (below_step (by repeat (first | (with_reducible first | exact HB.out | apply below_alloc | apply pw_below_drewN | apply below_drew1) | exact HB.out)) hb); clear HB; have HB := n0_; clear n0_; (try clear hb); (try clear hb2); (try clear hk); (try clear hi)) | (go_at_call 20; (with_reducible refine (points_Count.calls t217 t237 _ ?side1 A64.out).mono ?_); (case side1 => exact Tabs.below HT.out (by repeat (first | (with_reducible first | exact HB.out | apply below_alloc | apply pw_below_drewN | apply below_drew1) | exact HB.out))); rintro e w69 ⟨rfl, hb⟩; have n0_ := Aside0.mk (below_step (by repeat (first | (with_reducible first | exact HB.out | apply below_alloc | apply pw_below_drewN | apply below_drew1) | exact HB.out)) hb); clear HB; have HB := n0_; clear n0_; (try clear hb); (try clear hb2); (try clear hk); (try clear hi)) | ((with_reducible refine gate_dst (N := 54) rfl ?_); (try (refine gate_guard (by rfl) ?_; dsimp only)); refine Kd.R_lit (Kd.int .i32) _ 21 ?hg (N := 54) ?hd (xs := ([a0, a0] : List Int)) (inner := [.int .i32 a0, .int .i32 a0]) (ok := fun _ => True) (okp := fun _ => True) ?hr ?hp (fun _ hk => hk) trivial (Below.refl _ _) (Nat.le_refl _) (by simp) ?_; (case hd => rfl); (case hg => rfl); (case hr => first | (go_simp; done) | (go_simp; rfl)); (case hp => exact (Reps.one (show Kd.M (Kd.int .i32) _ _ _ a0 [.int .i32 a0] from rfl) (Reps.one (show Kd.M (Kd.int .i32) _ _ _ a0 [.int .i32 a0] from rfl) (Reps.none _ _)))); intro v239 w70 ho71 hb hg_ hnew_; clear hg_ hnew_; (first | rw [← Ny238.out] at ho71 | (simp only [Int.reduceToNat] at ho71; rw [← Ny238.out] at ho71)); have n0_ := Aside0.mk (Kd.R_lower ho71 (below_size (by repeat (first | (with_reducible first | exact HB.out | apply below_alloc | apply pw_below_drewN | apply below_drew1) | exact HB.out)))); have n1_ := Aside0.mk (below_step (by repeat (first | (with_reducible first | exact HB.out | apply below_alloc | apply pw_below_drewN | apply below_drew1) | exact HB.out)) hb); clear HB; have HO240 := n0_; have HB := n1_; clear n0_ n1_; clear hb ho71; obtain ⟨Ao72, co72, eo72⟩ := Kd.R_slice HO240.out; subst eo72) | (go_at_call 23; (with_reducible refine (points_Of.calls _ _ y238 t241 _ ?side1 ?side2 A66.out).mono ?_); (case side1 => repeat (first | exact (Kd.R_reads' HO240.out).2.2 | (with_reducible refine Kd.C_alloc ?_ _) | (with_reducible refine Kd.C_drewN ?_ _) | (with_reducible refine Kd.C_drew ?_))); (case side2 => exact (Kd.R_reads' HO240.out).2.1); rintro e w73 ⟨rfl, hb⟩; have n0_ := Aside0.mk (Kd.R_below (by (with_reducible repeat (first | apply Kd.R_alloc | apply Kd.R_drewN | apply Kd.R_drew)); exact HO240.out) hb); have n1_ := Aside0.mk (below_step (by repeat (first | (with_reducible first | exact HB.out | apply below_alloc | apply pw_below_drewN | apply below_drew1) | exact HB.out)) hb); clear HO240; clear HB; have HO240 := n0_; have HB := n1_; clear n0_ n1_; (try clear hb); (try clear hb2); (try clear hk); (try clear hi)))
                        go_ret
                        exact ⟨by first | rfl | (simp [errW_none, errW_some] <;> rfl) | (simp [*, errW_none, errW_some] <;> rfl), by repeat (first | (with_reducible first | exact HB.out | apply below_alloc | apply pw_below_drewN | apply below_drew1) | exact HB.out)⟩
                      · rw [if_neg c67] at H
                        exact absurd H (by simp)
                    · rw [if_neg c65] at H
                      have c65b0 : (t237 == 1) = false := beq_eq_false_iff_ne.mpr c65
                      have c65b1 : (t237 != 1) = true := bne_iff_ne.mpr c65
                      obtain rfl := Option.some.inj H
                      exact absurd HLAW.out (by decide)
                  · replace c63 := Bool.eq_false_iff.mpr c63
                    subst c63
                    have H1 : (some false) = some r := by rw [if_neg (show ¬ (false = true) by decide)] at H; exact H
                    clear H
                    have H := H1
                    clear H1
                    obtain rfl := Option.some.inj H
                    exact absurd HLAW.out (by decide)
                · rw [if_neg c61] at H
                  have c61b0 : ((t217.size : Int) == 4) = false := beq_eq_false_iff_ne.mpr c61
                  have c61b1 : ((t217.size : Int) != 4) = true := bne_iff_ne.mpr c61
                  obtain rfl := Option.some.inj H
                  exact absurd HLAW.out (by decide)
              · replace c60 := Bool.eq_false_iff.mpr c60
                subst c60
                have H1 : (some false) = some r := by rw [if_neg (show ¬ (false = true) by decide)] at H; exact H
                clear H
                have H := H1
                clear H1
                obtain rfl := Option.some.inj H
                exact absurd HLAW.out (by decide)

/-- THE ONE PURE STATEMENT of epitomelaw01_PointsOne: yours. -/
def epitomelaw01_PointsOne.Pure : Prop := ∀ (a0 : Int), (Lit.int .i32 a0).wf = true → ∃ k, epitomelaw01_PointsOne.f k a0 = some true
theorem epitomelaw01_PointsOne.walk (P : epitomelaw01_PointsOne.Pure) (a0 : Int) (w : World) (hT : Tabs w) (w0 : (Lit.int .i32 a0).wf = true) :
    Calls Tryd.prog 8 #[.int .i32 a0] w fun e w' => e = .returned (.bool true) ∧ Below w.heap.size w w' := by
  obtain ⟨k, h⟩ := P a0 w0
  refine (epitomelaw01_PointsOne.calls k a0 true w hT h rfl).mono ?_
  rintro e w' ⟨rfl, hd⟩
  exact ⟨rfl, hd⟩

end Go.Proofs.YtolljobehfmffaaDoor.P
