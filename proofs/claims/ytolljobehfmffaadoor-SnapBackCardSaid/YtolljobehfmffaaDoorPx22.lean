-- WRITTEN BY A PROGRAM OF THIS SESSION (wip/pp in its repo), made after the kit's print
import Derived.Test.YtolljobehfmffaaDoorPx0
import Derived.Test.YtolljobehfmffaaDoorPx21
namespace Go.Proofs.YtolljobehfmffaaDoor.P
open Go.RowKit Go.Proofs.YtolljobehfmffaaDoorW.PrintWords Go.Proofs.YtolljobehfmffaaDoorW.PrintLast Go.Proofs.YtolljobehfmffaaDoorW.PrintMore
attribute [local go_sem] max2_int min2_int max_two min_two max_three min_three max_four min_four   -- for this text's walks alone
set_option linter.unusedVariables false
set_option linter.unusedSimpArgs false

/-! ### epitomeref15_TakeRow: function 31 -/
mutual
def epitomeref15_TakeRow.j0 : Nat → List Int → Int → Int → Bool → Option (List Int × Int × Int)
  | 0, _, _, _, _ => none
  | k + 1, x0, x5, x6, x28 => if x28 = true then (some (([] : List Int), 0, 8)) else (epitomeref15_TakeRow.l0 k x0 x5 x6 (([] : List Int)) (-1) 0)
def epitomeref15_TakeRow.l0 : Nat → List Int → Int → Int → List Int → Int → Int → Option (List Int × Int × Int)
  | 0, _, _, _, _, _, _ => none
  | k + 1, x0, x5, x6, x8, x9, x10 => if x10 < x5 then (if 0 ≤ x6 then (if x6 ≤ (x0.length : Int) then ((epitomeref02_Take.f k (x0.drop (x6 : Int).toNat)).bind fun bt316 => (if bt316.2.2 = 0 then (if (wrap64 ((wrap64 (x9 + 1)) + bt316.1)) > 268435455 then (some (([] : List Int), 0, 8)) else (if x8.length < 17592186044416 then (epitomeref15_TakeRow.l0 k x0 x5 (wrap64 (x6 + bt316.2.1)) (x8 ++ [wrap64 ((wrap64 (x9 + 1)) + bt316.1)]) (wrap64 ((wrap64 (x9 + 1)) + bt316.1)) (wrap64 (x10 + 1))) else (none))) else (some (([] : List Int), 0, bt316.2.2)))) else (none)) else (none)) else (some (x8, x6, 0))
end
def epitomeref15_TakeRow.f (k : Nat) (l0 : List Int) : Option (List Int × Int × Int) := (epitomeref02_Take.f k l0).bind fun bt309 => (if bt309.2.2 = 0 then (if bt309.1 = 0 then (epitomeref15_TakeRow.j0 k l0 bt309.1 bt309.2.1 true) else (epitomeref15_TakeRow.j0 k l0 bt309.1 bt309.2.1 (decide (bt309.1 > 65536)))) else (some (([] : List Int), 0, bt309.2.2)))
theorem epitomeref15_TakeRow.mono_l : ∀ k, (∀ y0 y1 y2 y3, LeO (epitomeref15_TakeRow.j0 k y0 y1 y2 y3) (epitomeref15_TakeRow.j0 (k + 1) y0 y1 y2 y3)) ∧ (∀ y0 y1 y2 y3 y4 y5, LeO (epitomeref15_TakeRow.l0 k y0 y1 y2 y3 y4 y5) (epitomeref15_TakeRow.l0 (k + 1) y0 y1 y2 y3 y4 y5))
  | 0 => ⟨fun _ _ _ _ r h => by simp [epitomeref15_TakeRow.j0] at h, fun _ _ _ _ _ _ r h => by simp [epitomeref15_TakeRow.l0] at h⟩
  | k + 1 => by
    obtain ⟨ih0, ih1⟩ := epitomeref15_TakeRow.mono_l k
    refine ⟨?_, ?_⟩
    · intro y0 y1 y2 y3
      unfold epitomeref15_TakeRow.j0
      repeat' first
      | (with_reducible exact ih0 _ _ _ _)
      | (with_reducible exact ih1 _ _ _ _ _ _)
      | (with_reducible exact epitomeref02_Take.mono _ _)
      | (with_reducible exact LeO.refl _)
      | (with_reducible exact LeO.none _)
      | (with_reducible refine LeO.ite ?_ ?_)
      | (with_reducible refine LeO.bind ?_ (fun _ => ?_))
      | exact ih0 _ _ _ _
      | exact ih1 _ _ _ _ _ _
      | exact epitomeref02_Take.mono _ _
      | exact LeO.none _
      | refine LeO.ite ?_ ?_
      | refine LeO.bind ?_ (fun _ => ?_)
    · intro y0 y1 y2 y3 y4 y5
      unfold epitomeref15_TakeRow.l0
      repeat' first
      | (with_reducible exact ih0 _ _ _ _)
      | (with_reducible exact ih1 _ _ _ _ _ _)
      | (with_reducible exact epitomeref02_Take.mono _ _)
      | (with_reducible exact LeO.refl _)
      | (with_reducible exact LeO.none _)
      | (with_reducible refine LeO.ite ?_ ?_)
      | (with_reducible refine LeO.bind ?_ (fun _ => ?_))
      | exact ih0 _ _ _ _
      | exact ih1 _ _ _ _ _ _
      | exact epitomeref02_Take.mono _ _
      | exact LeO.none _
      | refine LeO.ite ?_ ?_
      | refine LeO.bind ?_ (fun _ => ?_)
theorem epitomeref15_TakeRow.mono : ∀ a0 k, LeO (epitomeref15_TakeRow.f k a0) (epitomeref15_TakeRow.f (k + 1) a0) := by
  intro a0 k
  obtain ⟨ih0, ih1⟩ := epitomeref15_TakeRow.mono_l k
  unfold epitomeref15_TakeRow.f
  repeat' first
      | (with_reducible exact ih0 _ _ _ _)
      | (with_reducible exact ih1 _ _ _ _ _ _)
      | (with_reducible exact epitomeref02_Take.mono _ _)
      | (with_reducible exact LeO.refl _)
      | (with_reducible exact LeO.none _)
      | (with_reducible refine LeO.ite ?_ ?_)
      | (with_reducible refine LeO.bind ?_ (fun _ => ?_))
      | exact ih0 _ _ _ _
      | exact ih1 _ _ _ _ _ _
      | exact epitomeref02_Take.mono _ _
      | exact LeO.none _
      | refine LeO.ite ?_ ?_
      | refine LeO.bind ?_ (fun _ => ?_)
set_option maxHeartbeats 8000000 in
set_option maxRecDepth 100000 in
theorem epitomeref15_TakeRow.calls (k : Nat) (A0 : Option Addr) (c0 : Nat) (l0 : List Int) (r1 : List Int) (r2 : Int) (r3 : Int) (w : World) (hr0 : Kd.C (Kd.int .u8) w A0 l0.length l0) (hc0 : l0.length ≤ c0) (h : epitomeref15_TakeRow.f k l0 = some (r1, r2, r3)) :
    Calls Tryd.prog 31 #[.slice A0 l0.length c0] w fun e w' => ∃ v0_ : Value, e = .returned (.tuple #[v0_, .int .i64 r2, .int .i64 r3]) ∧ Kd.R (Kd.int .i64) 3 w' w.heap.size (fun _ => True) v0_ r1 ∧ Below w.heap.size w w' := by
  have HR0 := Aside0.mk hr0
  have HC0 := Aside0.mk hc0
  clear hr0 hc0
  have HB := Aside0.mk (Below.refl w.heap.size w)
  have H : ((epitomeref02_Take.f k l0).bind fun bt309 => (if bt309.2.2 = 0 then (if bt309.1 = 0 then (epitomeref15_TakeRow.j0 k l0 bt309.1 bt309.2.1 true) else (epitomeref15_TakeRow.j0 k l0 bt309.1 bt309.2.1 (decide (bt309.1 > 65536)))) else (some (([] : List Int), 0, bt309.2.2)))) = some (r1, r2, r3) := h
  clear h
  replace H := Option.bind_eq_some_iff.mp H
  obtain ⟨⟨t309, t310, t311⟩, A20, H⟩ := H
  replace H : (if t311 = 0 then (if t309 = 0 then (epitomeref15_TakeRow.j0 k l0 t309 t310 true) else (epitomeref15_TakeRow.j0 k l0 t309 t310 (decide (t309 > 65536)))) else (some (([] : List Int), 0, t311))) = some (r1, r2, r3) := H
  have A2 := Aside0.mk A20
  clear A20
  by_cases c3 : t311 = 0
  · rw [if_pos c3] at H
    have c3b0 : (t311 == 0) = true := beq_iff_eq.mpr c3
    have c3b1 : (t311 != 0) = false := bne_eq_false_iff_eq.mpr c3
    clear c3
    have HC4 := Aside0.mk H
    clear H
    go_enter Tryd.func31, Tryd.ntmps31
    go_upto_region 4 with (first | ((with_reducible refine gate_callee (f := 46) rfl ?_); refine goesL_ (some 16) rfl rfl Tryd.func46 (by kernel_rfl) rfl #[.slice A0 l0.length c0] rfl (by (try simp only [List.map_toArray, List.map_cons, List.map_nil]); first | done | rfl | (simp only [List.length_drop, List.length_take]; rfl)) ?_; (with_reducible refine (epitomeref02_Take.calls k _ _ l0 t309 t310 t311 _ ?side1 ?side2 A2.out).mono ?_); (case side1 => repeat (first | exact HR0.out | (with_reducible refine Kd.C_alloc ?_ _) | (with_reducible refine Kd.C_drewN ?_ _) | (with_reducible refine Kd.C_drew ?_))); (case side2 => exact HC0.out); rintro e w' ⟨rfl, ⟨nd, rfl⟩⟩; refine ⟨_, rfl, ?_⟩))
    (try simp only [Act.put, List.setIfInBounds_toArray, List.set_cons_zero, List.set_cons_succ])
    go_cut [28] (fun v28 wc => ∃ (kq : Nat) (x28_3 : Bool), v28 = .bool x28_3 ∧ Aside0 (epitomeref15_TakeRow.j0 kq l0 t309 t310 x28_3 = some (r1, r2, r3)) ∧ Aside0 (kq ≤ k) ∧ Aside0 (Below w.heap.size w wc))
    case first =>
      have H := HC4.out
      clear HC4
      by_cases c5 : t309 = 0
      · rw [if_pos c5] at H
        have c5b0 : (t309 == 0) = true := beq_iff_eq.mpr c5
        have c5b1 : (t309 != 0) = false := bne_eq_false_iff_eq.mpr c5
        clear c5
        (first | rw [c5b0] | (simp only [i64_w, i32_w]; rw [c5b0]) | skip)
        have H' := Aside0.mk H
        clear H
        go_wp2
        go_meet
        case rel => exact ⟨_, (true), (by first | rfl | (simp; done) | (simp [*]; done)), H', ⟨by first | omega | exact Nat.le_refl _⟩, ⟨by repeat (first | (with_reducible first | exact HB.out | apply below_alloc | apply pw_below_drewN | apply below_drew1) | exact HB.out)⟩⟩
      · rw [if_neg c5] at H
        have c5b0 : (t309 == 0) = false := beq_eq_false_iff_ne.mpr c5
        have c5b1 : (t309 != 0) = true := bne_iff_ne.mpr c5
        (first | rw [c5b0] | (simp only [i64_w, i32_w]; rw [c5b0]) | skip)
        have H' := Aside0.mk H
        clear H
        go_wp2
        go_meet
        case rel => exact ⟨_, (decide (t309 > 65536)), (by first | rfl | (simp; done) | (simp [*]; done)), H', ⟨by first | omega | exact Nat.le_refl _⟩, ⟨by repeat (first | (with_reducible first | exact HB.out | apply below_alloc | apply pw_below_drewN | apply below_drew1) | exact HB.out)⟩⟩
    case rest =>
      clear HC4
      try clear p2
      try clear c3
      try clear c3b0
      try clear c3b1
      try clear c4
      try clear c5
      try clear c5b0
      try clear c5b1
      obtain ⟨kq, x28_3, rfl, HA, HJ3, HB⟩ := hcut
      cases kq with
      | zero => exact absurd HA.out (by simp [epitomeref15_TakeRow.j0])
      | succ kj3 =>
        have H := HA.out
        clear HA
        simp only [epitomeref15_TakeRow.j0] at H
        by_cases c6 : x28_3 = true
        · subst c6
          have H1 : (some (([] : List Int), 0, 8)) = some (r1, r2, r3) := by rw [if_pos rfl] at H; exact H
          clear H
          have H := H1
          clear H1
          simp only [Option.some.injEq, Prod.mk.injEq] at H
          obtain ⟨rfl, rfl, rfl⟩ := H
          go_wp2
          go_ret3
          exact ⟨_, by first | rfl | (simp [errW_none, errW_some] <;> rfl) | (simp [*, errW_none, errW_some] <;> rfl), by first | exact Kd.R_nil _ _ _ _ _ | exact Kd.N_nil _ _ _ _ _ | exact Kd.V_nil _ _ _ _ _ | exact Kd.Q_nil _ _ _ _ _ | exact Kd.S_nil _ _ _ _ _, by repeat (first | (with_reducible first | exact HB.out | apply below_alloc | apply pw_below_drewN | apply below_drew1) | exact HB.out)⟩
        · replace c6 := Bool.eq_false_iff.mpr c6
          subst c6
          have H1 : (epitomeref15_TakeRow.l0 kj3 l0 t309 t310 (([] : List Int)) (-1) 0) = some (r1, r2, r3) := by rw [if_neg (show ¬ (false = true) by decide)] at H; exact H
          clear H
          have H := H1
          clear H1
          obtain ⟨y312, hy312⟩ : ∃ y_ : List Int, y_ = (([] : List Int)) := ⟨_, rfl⟩
          replace H : (epitomeref15_TakeRow.l0 kj3 l0 t309 t310 y312 (-1) 0) = some (r1, r2, r3) := by first | (rw [hy312]; with_reducible exact H) | (have H2_ := (Option.bind_some _ _).symm.trans H; rw [hy312]; with_reducible exact H2_) | (have H2_ := (Option.bind_some _ _).symm.trans H; with_reducible exact H2_) | with_reducible exact H | (rw [hy312]; exact H) | exact H
          have Ny312 := Aside0.mk hy312
          clear hy312
          have H' := Aside0.mk H
          clear H
          go_wp2_with (first | ((with_reducible refine gate_dst (N := 29) rfl ?_); refine Kd.R_lit (Kd.int .i64) _ 3 ?hg (N := 29) ?hd (xs := ([] : List Int)) (inner := []) (ok := fun _ => True) (okp := fun _ => True) ?hr ?hp (fun _ hk => hk) trivial (Below.refl _ _) (Nat.le_refl _) (by simp) ?_; (case hd => rfl); (case hg => rfl); (case hr => first | (go_simp; done) | (go_simp; rfl)); (case hp => exact (Reps.none _ _)); intro v313 w7 ho8 hb hg_ hnew_; clear hg_ hnew_; (first | rw [← Ny312.out] at ho8 | (simp only [Int.reduceToNat] at ho8; rw [← Ny312.out] at ho8)); have n0_ := Aside0.mk (Kd.R_lower ho8 (below_size (by repeat (first | (with_reducible first | exact HB.out | apply below_alloc | apply pw_below_drewN | apply below_drew1) | exact HB.out)))); have n1_ := Aside0.mk (below_step (by repeat (first | (with_reducible first | exact HB.out | apply below_alloc | apply pw_below_drewN | apply below_drew1) | exact HB.out)) hb); clear HB; have HO314 := n0_; have HB := n1_; clear n0_ n1_; clear hb ho8))
          go_loopg [6, 8, 9, 10] kj3 (fun kq v6 v8 v9 v10 w' => ∃ (x6_2 : Int) (x8_2 : List Int) (x9_2 : Int) (x10_2 : Int), v6 = .int .i64 x6_2 ∧ v9 = .int .i64 x9_2 ∧ v10 = .int .i64 x10_2 ∧ Aside0 (epitomeref15_TakeRow.l0 kq l0 t309 x6_2 x8_2 x9_2 x10_2 = some (r1, r2, r3)) ∧ Aside0 (kq ≤ kj3) ∧ Aside0 (Kd.R (Kd.int .i64) 3 w' w.heap.size (fun _ => True) v8 x8_2) ∧ Aside0 (Below w.heap.size w w'))
          case atStart => exact ⟨(t310), (y312), ((-1)), (0), (by first | rfl | (simp; done) | (simp [*]; done)), (by first | rfl | (simp; done) | (simp [*]; done)), (by first | rfl | (simp; done) | (simp [*]; done)), H', ⟨Nat.le_refl _⟩, ⟨by (with_reducible repeat (first | apply Kd.R_alloc | apply Kd.R_drewN | apply Kd.R_drew)); exact HO314.out⟩, ⟨by repeat (first | (with_reducible first | exact HB.out | apply below_alloc | apply pw_below_drewN | apply below_drew1) | exact HB.out)⟩⟩
          case round =>
            clear H'
            try clear p2
            try clear c3
            try clear c3b0
            try clear c3b1
            try clear c4
            try clear c5
            try clear c5b0
            try clear c5b1
            try clear c6
            try clear p2
            obtain ⟨x6_2, x8_2, x9_2, x10_2, rfl, rfl, rfl, HA, HK2, HO_8, HB⟩ := hrel
            cases gk with
            | zero => exact absurd HA.out (by simp [epitomeref15_TakeRow.l0])
            | succ k2 =>
              have H := HA.out
              clear HA
              simp only [epitomeref15_TakeRow.l0] at H
              by_cases c9 : x10_2 < t309
              · rw [if_pos c9] at H
                have c9b0 : decide (x10_2 < t309) = true := decide_eq_true c9
                clear c9
                by_cases c10 : 0 ≤ x6_2
                · rw [if_pos c10] at H
                  have c10b0 := eq_true c10
                  have c10b1 : decide (0 ≤ x6_2) = true := decide_eq_true c10
                  clear c10
                  by_cases c11 : x6_2 ≤ (l0.length : Int)
                  · rw [if_pos c11] at H
                    have c11b0 := eq_true c11
                    have c11b1 : decide (x6_2 ≤ (l0.length : Int)) = true := decide_eq_true c11
                    clear c11
                    replace H := Option.bind_eq_some_iff.mp H
                    obtain ⟨⟨t316, t317, t318⟩, A120, H⟩ := H
                    replace H : (if t318 = 0 then (if (wrap64 ((wrap64 (x9_2 + 1)) + t316)) > 268435455 then (some (([] : List Int), 0, 8)) else (if x8_2.length < 17592186044416 then (epitomeref15_TakeRow.l0 k2 l0 t309 (wrap64 (x6_2 + t317)) (x8_2 ++ [wrap64 ((wrap64 (x9_2 + 1)) + t316)]) (wrap64 ((wrap64 (x9_2 + 1)) + t316)) (wrap64 (x10_2 + 1))) else (none))) else (some (([] : List Int), 0, t318))) = some (r1, r2, r3) := H
                    have A12 := Aside0.mk A120
                    clear A120
                    by_cases c13 : t318 = 0
                    · rw [if_pos c13] at H
                      have c13b0 : (t318 == 0) = true := beq_iff_eq.mpr c13
                      have c13b1 : (t318 != 0) = false := bne_eq_false_iff_eq.mpr c13
                      clear c13
                      by_cases c14 : (wrap64 ((wrap64 (x9_2 + 1)) + t316)) > 268435455
                      · rw [if_pos c14] at H
                        have c14b0 : decide (268435455 < (wrap64 ((wrap64 (x9_2 + 1)) + t316))) = true := decide_eq_true c14
                        clear c14
                        simp only [Option.some.injEq, Prod.mk.injEq] at H
                        obtain ⟨rfl, rfl, rfl⟩ := H
                        obtain ⟨i015, hi015, _, hsz15, _⟩ := info_parts info5
                        obtain ⟨A15, hcut15, hA15, hC15⟩ := print_drop_of (P := Tryd.prog) (Value.int .u8) 0 32 5 .i64 Tryd.underlying32 hi015 hsz15 A0 c0 l0 x6_2 (of_decide_eq_true (by first | (with_reducible assumption) | assumption)) (of_decide_eq_true (by first | (with_reducible assumption) | assumption)) HC0.out
                        have HR315 := Aside0.mk (Kd.C_of_reads (h1 := fun _ => rfl) (hA15 _ (Kd.reads_of_C HR0.out)))
                        have HC315 := Aside0.mk hC15
                        clear hA15 hC15 hi015 hsz15
                        go_wp2_with (first | ((with_reducible refine gate_callee (f := 46) rfl ?_); refine goesL_ (some 39) rfl rfl Tryd.func46 (by kernel_rfl) rfl #[.slice A15 (l0.drop (x6_2 : Int).toNat).length (c0 - x6_2.toNat)] rfl (by (try simp only [List.map_toArray, List.map_cons, List.map_nil]); first | done | (rw [show (l0.drop (x6_2 : Int).toNat).length = (l0.length - x6_2.toNat) from List.length_drop] <;> rfl) | rfl | (simp only [List.length_drop, List.length_take]; rfl)) ?_; (with_reducible refine (epitomeref02_Take.calls k2 _ _ (l0.drop (x6_2 : Int).toNat) t316 t317 t318 _ ?side1 ?side2 A12.out).mono ?_); (case side1 => repeat (first | exact (Kd.C_below HR315.out HB.out) | (with_reducible refine Kd.C_alloc ?_ _) | (with_reducible refine Kd.C_drewN ?_ _) | (with_reducible refine Kd.C_drew ?_))); (case side2 => exact HC315.out); rintro e w' ⟨rfl, ⟨nd, rfl⟩⟩; refine ⟨_, rfl, ?_⟩))
                        go_ret3
                        exact ⟨_, by first | rfl | (simp [errW_none, errW_some] <;> rfl) | (simp [*, errW_none, errW_some] <;> rfl), by first | exact Kd.R_nil _ _ _ _ _ | exact Kd.N_nil _ _ _ _ _ | exact Kd.V_nil _ _ _ _ _ | exact Kd.Q_nil _ _ _ _ _ | exact Kd.S_nil _ _ _ _ _, by repeat (first | (with_reducible first | exact HB.out | apply below_alloc | apply pw_below_drewN | apply below_drew1) | exact HB.out)⟩
                      · rw [if_neg c14] at H
                        have c14b0 : decide (268435455 < (wrap64 ((wrap64 (x9_2 + 1)) + t316))) = false := decide_eq_false c14
                        clear c14
                        by_cases c16 : x8_2.length < 17592186044416
                        · rw [if_pos c16] at H
                          have LMc16 := Aside0.mk c16
                          clear c16
                          obtain ⟨y319, hy319⟩ : ∃ y_ : List Int, y_ = (x8_2 ++ [wrap64 ((wrap64 (x9_2 + 1)) + t316)]) := ⟨_, rfl⟩
                          replace H : (epitomeref15_TakeRow.l0 k2 l0 t309 (wrap64 (x6_2 + t317)) y319 (wrap64 ((wrap64 (x9_2 + 1)) + t316)) (wrap64 (x10_2 + 1))) = some (r1, r2, r3) := by first | (rw [hy319]; with_reducible exact H) | (have H2_ := (Option.bind_some _ _).symm.trans H; rw [hy319]; with_reducible exact H2_) | (have H2_ := (Option.bind_some _ _).symm.trans H; with_reducible exact H2_) | with_reducible exact H | (rw [hy319]; exact H) | exact H
                          have Ny319 := Aside0.mk hy319
                          clear hy319
                          have H' := Aside0.mk H
                          clear H
                          obtain ⟨i017, hi017, _, hsz17, _⟩ := info_parts info5
                          obtain ⟨A17, hcut17, hA17, hC17⟩ := print_drop_of (P := Tryd.prog) (Value.int .u8) 0 32 5 .i64 Tryd.underlying32 hi017 hsz17 A0 c0 l0 x6_2 (of_decide_eq_true (by first | (with_reducible assumption) | assumption)) (of_decide_eq_true (by first | (with_reducible assumption) | assumption)) HC0.out
                          have HR315 := Aside0.mk (Kd.C_of_reads (h1 := fun _ => rfl) (hA17 _ (Kd.reads_of_C HR0.out)))
                          have HC315 := Aside0.mk hC17
                          clear hA17 hC17 hi017 hsz17
                          go_wp2_with (first | ((with_reducible refine gate_callee (f := 46) rfl ?_); refine goesL_ (some 39) rfl rfl Tryd.func46 (by kernel_rfl) rfl #[.slice A17 (l0.drop (x6_2 : Int).toNat).length (c0 - x6_2.toNat)] rfl (by (try simp only [List.map_toArray, List.map_cons, List.map_nil]); first | done | (rw [show (l0.drop (x6_2 : Int).toNat).length = (l0.length - x6_2.toNat) from List.length_drop] <;> rfl) | rfl | (simp only [List.length_drop, List.length_take]; rfl)) ?_; (with_reducible refine (epitomeref02_Take.calls k2 _ _ (l0.drop (x6_2 : Int).toNat) t316 t317 t318 _ ?side1 ?side2 A12.out).mono ?_); (case side1 => repeat (first | exact (Kd.C_below HR315.out HB.out) | (with_reducible refine Kd.C_alloc ?_ _) | (with_reducible refine Kd.C_drewN ?_ _) | (with_reducible refine Kd.C_drew ?_))); (case side2 => exact HC315.out); rintro e w' ⟨rfl, ⟨nd, rfl⟩⟩; refine ⟨_, rfl, ?_⟩) | ((with_reducible refine gate_builtin (b := .append) (xs := #[.tmp 52, .tmp 54]) rfl ?_); at_builtin; refine Kd.R_append (Kd.int .i64) (w0 := w) w.heap.size rfl (.tmp 52) (.tmp 54) 41 3 (.int .i64 0) 8 rfl Tryd.underlying41 info3 rfl (by decide) (by omega) u8 x8_2 (wrap64 ((wrap64 (x9_2 + 1)) + t316)) [.int .i64 (wrap64 ((wrap64 (x9_2 + 1)) + t316))] (fun _ => True) (fun _ => False) rfl rfl ?aP (fun _ hk => hk.elim) ?aF ?aO ?aB ?aS ?aL ?_; (case aP => exact rfl); (case aB => exact (by repeat (first | (with_reducible first | exact HB.out | apply below_alloc | apply pw_below_drewN | apply below_drew1) | exact HB.out))); (case aF => exact (fun _ _ => trivial)); (case aO => exact (by (with_reducible repeat (first | apply Kd.R_alloc | apply Kd.R_drewN | apply Kd.R_drew)); exact HO_8.out)); (case aS => exact (below_size (by repeat (first | (with_reducible first | exact HB.out | apply below_alloc | apply pw_below_drewN | apply below_drew1) | exact HB.out)))); (case aL => have := LMc16.out; omega); intro v320 w18 ho hb hg hat; rw [← Ny319.out] at ho; have n0_ := Aside0.mk (hb); have n1_ := Aside0.mk (ho); clear HB; clear HO_8; have HB := n0_; have HO321 := n1_; clear n0_ n1_; clear ho hb hg hat))
                          go_roundg k2
                          case measure => have := HJ3.out; have := HK2.out; omega
                          case rel => exact ⟨(wrap64 (x6_2 + t317)), (y319), (wrap64 ((wrap64 (x9_2 + 1)) + t316)), (wrap64 (x10_2 + 1)), (by first | rfl | (simp; done) | (simp [*]; done)), (by first | rfl | (simp; done) | (simp [*]; done)), (by first | rfl | (simp; done) | (simp [*]; done)), H', ⟨by have := HJ3.out; have := HK2.out; omega⟩, ⟨by (with_reducible repeat (first | apply Kd.R_alloc | apply Kd.R_drewN | apply Kd.R_drew)); exact HO321.out⟩, ⟨by repeat (first | (with_reducible first | exact HB.out | apply below_alloc | apply pw_below_drewN | apply below_drew1) | exact HB.out)⟩⟩
                        · rw [if_neg c16] at H
                          exact absurd H (by simp)
                    · rw [if_neg c13] at H
                      have c13b0 : (t318 == 0) = false := beq_eq_false_iff_ne.mpr c13
                      have c13b1 : (t318 != 0) = true := bne_iff_ne.mpr c13
                      simp only [Option.some.injEq, Prod.mk.injEq] at H
                      obtain ⟨rfl, rfl, rfl⟩ := H
                      obtain ⟨i019, hi019, _, hsz19, _⟩ := info_parts info5
                      obtain ⟨A19, hcut19, hA19, hC19⟩ := print_drop_of (P := Tryd.prog) (Value.int .u8) 0 32 5 .i64 Tryd.underlying32 hi019 hsz19 A0 c0 l0 x6_2 (of_decide_eq_true (by first | (with_reducible assumption) | assumption)) (of_decide_eq_true (by first | (with_reducible assumption) | assumption)) HC0.out
                      have HR315 := Aside0.mk (Kd.C_of_reads (h1 := fun _ => rfl) (hA19 _ (Kd.reads_of_C HR0.out)))
                      have HC315 := Aside0.mk hC19
                      clear hA19 hC19 hi019 hsz19
                      go_wp2_with (first | ((with_reducible refine gate_callee (f := 46) rfl ?_); refine goesL_ (some 39) rfl rfl Tryd.func46 (by kernel_rfl) rfl #[.slice A19 (l0.drop (x6_2 : Int).toNat).length (c0 - x6_2.toNat)] rfl (by (try simp only [List.map_toArray, List.map_cons, List.map_nil]); first | done | (rw [show (l0.drop (x6_2 : Int).toNat).length = (l0.length - x6_2.toNat) from List.length_drop] <;> rfl) | rfl | (simp only [List.length_drop, List.length_take]; rfl)) ?_; (with_reducible refine (epitomeref02_Take.calls k2 _ _ (l0.drop (x6_2 : Int).toNat) t316 t317 t318 _ ?side1 ?side2 A12.out).mono ?_); (case side1 => repeat (first | exact (Kd.C_below HR315.out HB.out) | (with_reducible refine Kd.C_alloc ?_ _) | (with_reducible refine Kd.C_drewN ?_ _) | (with_reducible refine Kd.C_drew ?_))); (case side2 => exact HC315.out); rintro e w' ⟨rfl, ⟨nd, rfl⟩⟩; refine ⟨_, rfl, ?_⟩))
                      go_ret3
                      exact ⟨_, by first | rfl | (simp [errW_none, errW_some] <;> rfl) | (simp [*, errW_none, errW_some] <;> rfl), by first | exact Kd.R_nil _ _ _ _ _ | exact Kd.N_nil _ _ _ _ _ | exact Kd.V_nil _ _ _ _ _ | exact Kd.Q_nil _ _ _ _ _ | exact Kd.S_nil _ _ _ _ _, by repeat (first | (with_reducible first | exact HB.out | apply below_alloc | apply pw_below_drewN | apply below_drew1) | exact HB.out)⟩
                  · rw [if_neg c11] at H
                    exact absurd H (by simp)
                · rw [if_neg c10] at H
                  exact absurd H (by simp)
              · rw [if_neg c9] at H
                have c9b0 : decide (x10_2 < t309) = false := decide_eq_false c9
                clear c9
                simp only [Option.some.injEq, Prod.mk.injEq] at H
                obtain ⟨rfl, rfl, rfl⟩ := H
                go_wp2
                go_ret3
                exact ⟨_, by first | rfl | (simp [errW_none, errW_some] <;> rfl) | (simp [*, errW_none, errW_some] <;> rfl), by (with_reducible repeat (first | apply Kd.R_alloc | apply Kd.R_drewN | apply Kd.R_drew)); exact HO_8.out, by repeat (first | (with_reducible first | exact HB.out | apply below_alloc | apply pw_below_drewN | apply below_drew1) | exact HB.out)⟩
  · rw [if_neg c3] at H
    have c3b0 : (t311 == 0) = false := beq_eq_false_iff_ne.mpr c3
    have c3b1 : (t311 != 0) = true := bne_iff_ne.mpr c3
    simp only [Option.some.injEq, Prod.mk.injEq] at H
    obtain ⟨rfl, rfl, rfl⟩ := H
    go_enter Tryd.func31, Tryd.ntmps31
    go_wp2_with (first | ((with_reducible refine gate_callee (f := 46) rfl ?_); refine goesL_ (some 16) rfl rfl Tryd.func46 (by kernel_rfl) rfl #[.slice A0 l0.length c0] rfl (by (try simp only [List.map_toArray, List.map_cons, List.map_nil]); first | done | rfl | (simp only [List.length_drop, List.length_take]; rfl)) ?_; (with_reducible refine (epitomeref02_Take.calls k _ _ l0 t309 t310 t311 _ ?side1 ?side2 A2.out).mono ?_); (case side1 => repeat (first | exact HR0.out | (with_reducible refine Kd.C_alloc ?_ _) | (with_reducible refine Kd.C_drewN ?_ _) | (with_reducible refine Kd.C_drew ?_))); (case side2 => exact HC0.out); rintro e w' ⟨rfl, ⟨nd, rfl⟩⟩; refine ⟨_, rfl, ?_⟩))
    go_ret3
    exact ⟨_, by first | rfl | (simp [errW_none, errW_some] <;> rfl) | (simp [*, errW_none, errW_some] <;> rfl), by first | exact Kd.R_nil _ _ _ _ _ | exact Kd.N_nil _ _ _ _ _ | exact Kd.V_nil _ _ _ _ _ | exact Kd.Q_nil _ _ _ _ _ | exact Kd.S_nil _ _ _ _ _, by repeat (first | (with_reducible first | exact HB.out | apply below_alloc | apply pw_below_drewN | apply below_drew1) | exact HB.out)⟩

end Go.Proofs.YtolljobehfmffaaDoor.P
