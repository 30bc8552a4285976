-- WRITTEN BY A PROGRAM OF THIS SESSION (wip/pp in its repo), made after the kit's print
import Derived.Test.YtolljobehfmffaaDoorPx0
import Derived.Test.YtolljobehfmffaaDoorPx1
import Derived.Test.YtolljobehfmffaaDoorPx2
import Derived.Test.YtolljobehfmffaaDoorPx6
import Derived.Test.YtolljobehfmffaaDoorPx10
namespace Go.Proofs.YtolljobehfmffaaDoor.P
open Go.RowKit Go.Proofs.YtolljobehfmffaaDoorW.PrintWords Go.Proofs.YtolljobehfmffaaDoorW.PrintLast Go.Proofs.YtolljobehfmffaaDoorW.PrintMore
attribute [local go_sem] max2_int min2_int max_two min_two max_three min_three max_four min_four   -- for this text's walks alone
set_option linter.unusedVariables false
set_option linter.unusedSimpArgs false

/-! ### epitomelaw01_PointsOf: function 7 -/
mutual
def epitomelaw01_PointsOf.l0 : Nat → Bool → List Int → ByteArray → Int → Int → Option (Bool)
  | 0, _, _, _, _, _ => none
  | k + 1, x3, x4, x5, x6, x7 => if x7 < (x4.length : Int) then (if 0 ≤ x7 then (if (rd x4 x7) ≥ 0 then (if (rd x4 x7) ≤ 1114111 then (if (rd x4 x7) < 55296 then (epitomelaw01_PointsOf.j1 k x3 x4 x5 x6 x7 true) else (epitomelaw01_PointsOf.j1 k x3 x4 x5 x6 x7 (decide ((rd x4 x7) > 57343)))) else (epitomelaw01_PointsOf.j1 k x3 x4 x5 x6 x7 false)) else (epitomelaw01_PointsOf.j1 k x3 x4 x5 x6 x7 false)) else (none)) else (if x3 = true then ((epitomeref01_Of.f k x4).bind fun t199 => (if x5.toList = t199.toList then ((points_Valid.f x5).bind fun t200 => (if t200 = true then ((points_Count.f x5).bind fun t201 => (some (t201 == x6))) else (some false))) else (some false))) else (some false))
def epitomelaw01_PointsOf.j1 : Nat → Bool → List Int → ByteArray → Int → Int → Bool → Option (Bool)
  | 0, _, _, _, _, _, _ => none
  | k + 1, x3, x4, x5, x6, x7, x49 => if x49 = true then ((points_Cut.f x5 (wrap64 ((wrap64 (x6 + 1)) - 1)) (wrap64 (x6 + 1))).bind fun bt206 => (if bt206.2 = 0 then (if 0 ≤ x7 then (if x7 < (x4.length : Int) then ((points_Of.f (([rd x4 x7] : List Int))).bind fun t212 => (if bt206.1.toList = t212.toList then (epitomelaw01_PointsOf.l0 k x3 x4 x5 (wrap64 (x6 + 1)) (wrap64 (x7 + 1))) else (some false))) else (none)) else (none)) else (some false))) else (epitomelaw01_PointsOf.l0 k x3 x4 x5 x6 (wrap64 (x7 + 1)))
end
def epitomelaw01_PointsOf.f (k : Nat) (l0 : List Int) : Option (Bool) := (epitomelaw01_shown.f).bind fun t196 => (if 0 ≤ (mn (l0.length : Int) 40) then (if (mn (l0.length : Int) 40) ≤ (l0.length : Int) then ((points_Of.f (l0.take ((mn (l0.length : Int) 40) : Int).toNat)).bind fun t198 => (epitomelaw01_PointsOf.l0 k t196 (l0.take ((mn (l0.length : Int) 40) : Int).toNat) t198 0 0)) else (none)) else (none))
theorem epitomelaw01_PointsOf.mono_l : ∀ k, (∀ y0 y1 y2 y3 y4, LeO (epitomelaw01_PointsOf.l0 k y0 y1 y2 y3 y4) (epitomelaw01_PointsOf.l0 (k + 1) y0 y1 y2 y3 y4)) ∧ (∀ y0 y1 y2 y3 y4 y5, LeO (epitomelaw01_PointsOf.j1 k y0 y1 y2 y3 y4 y5) (epitomelaw01_PointsOf.j1 (k + 1) y0 y1 y2 y3 y4 y5))
  | 0 => ⟨fun _ _ _ _ _ r h => by simp [epitomelaw01_PointsOf.l0] at h, fun _ _ _ _ _ _ r h => by simp [epitomelaw01_PointsOf.j1] at h⟩
  | k + 1 => by
    obtain ⟨ih0, ih1⟩ := epitomelaw01_PointsOf.mono_l k
    refine ⟨?_, ?_⟩
    · intro y0 y1 y2 y3 y4
      unfold epitomelaw01_PointsOf.l0
      repeat' first
      | (with_reducible exact ih0 _ _ _ _ _)
      | (with_reducible exact ih1 _ _ _ _ _ _)
      | (with_reducible exact epitomeref01_Of.mono _ _)
      | (with_reducible exact LeO.refl _)
      | (with_reducible exact LeO.none _)
      | (with_reducible refine LeO.ite ?_ ?_)
      | (with_reducible refine LeO.bind ?_ (fun _ => ?_))
      | exact ih0 _ _ _ _ _
      | exact ih1 _ _ _ _ _ _
      | exact epitomeref01_Of.mono _ _
      | exact LeO.none _
      | refine LeO.ite ?_ ?_
      | refine LeO.bind ?_ (fun _ => ?_)
    · intro y0 y1 y2 y3 y4 y5
      unfold epitomelaw01_PointsOf.j1
      repeat' first
      | (with_reducible exact ih0 _ _ _ _ _)
      | (with_reducible exact ih1 _ _ _ _ _ _)
      | (with_reducible exact epitomeref01_Of.mono _ _)
      | (with_reducible exact LeO.refl _)
      | (with_reducible exact LeO.none _)
      | (with_reducible refine LeO.ite ?_ ?_)
      | (with_reducible refine LeO.bind ?_ (fun _ => ?_))
      | exact ih0 _ _ _ _ _
      | exact ih1 _ _ _ _ _ _
      | exact epitomeref01_Of.mono _ _
      | exact LeO.none _
      | refine LeO.ite ?_ ?_
      | refine LeO.bind ?_ (fun _ => ?_)
theorem epitomelaw01_PointsOf.mono : ∀ a0 k, LeO (epitomelaw01_PointsOf.f k a0) (epitomelaw01_PointsOf.f (k + 1) a0) := by
  intro a0 k
  obtain ⟨ih0, ih1⟩ := epitomelaw01_PointsOf.mono_l k
  unfold epitomelaw01_PointsOf.f
  repeat' first
      | (with_reducible exact ih0 _ _ _ _ _)
      | (with_reducible exact ih1 _ _ _ _ _ _)
      | (with_reducible exact epitomeref01_Of.mono _ _)
      | (with_reducible exact LeO.refl _)
      | (with_reducible exact LeO.none _)
      | (with_reducible refine LeO.ite ?_ ?_)
      | (with_reducible refine LeO.bind ?_ (fun _ => ?_))
      | exact ih0 _ _ _ _ _
      | exact ih1 _ _ _ _ _ _
      | exact epitomeref01_Of.mono _ _
      | exact LeO.none _
      | refine LeO.ite ?_ ?_
      | refine LeO.bind ?_ (fun _ => ?_)
set_option maxHeartbeats 8000000 in
set_option maxRecDepth 100000 in
theorem epitomelaw01_PointsOf.calls (k : Nat) (A0 : Option Addr) (c0 : Nat) (l0 : List Int) (r : Bool) (w : World) (hr0 : Kd.C (Kd.int .i32) w A0 l0.length l0) (hc0 : l0.length ≤ c0) (hT : Tabs w) (h : epitomelaw01_PointsOf.f k l0 = some r) (hlaw : r = true) :
    Calls Tryd.prog 7 #[.slice A0 l0.length c0] w fun e w' => e = .returned (.bool r) ∧ Below w.heap.size w w' := by
  have HLAW := Aside0.mk hlaw
  clear hlaw
  have HT := Aside0.mk hT
  clear hT
  have HR0 := Aside0.mk hr0
  have HC0 := Aside0.mk hc0
  clear hr0 hc0
  have HB := Aside0.mk (Below.refl w.heap.size w)
  have H : ((epitomelaw01_shown.f).bind fun t196 => (if 0 ≤ (mn (l0.length : Int) 40) then (if (mn (l0.length : Int) 40) ≤ (l0.length : Int) then ((points_Of.f (l0.take ((mn (l0.length : Int) 40) : Int).toNat)).bind fun t198 => (epitomelaw01_PointsOf.l0 k t196 (l0.take ((mn (l0.length : Int) 40) : Int).toNat) t198 0 0)) else (none)) else (none))) = some r := h
  clear h
  replace H := Option.bind_eq_some_iff.mp H
  obtain ⟨t196, A20, H⟩ := H
  replace H : (if 0 ≤ (mn (l0.length : Int) 40) then (if (mn (l0.length : Int) 40) ≤ (l0.length : Int) then ((points_Of.f (l0.take ((mn (l0.length : Int) 40) : Int).toNat)).bind fun t198 => (epitomelaw01_PointsOf.l0 k t196 (l0.take ((mn (l0.length : Int) 40) : Int).toNat) t198 0 0)) else (none)) else (none)) = some r := H
  have A2 := Aside0.mk A20
  clear A20
  obtain ⟨ji3, hji3⟩ : ∃ j_ : Int, (mn (l0.length : Int) 40) = j_ := ⟨_, rfl⟩
  replace H : (if 0 ≤ (ji3) then (if (ji3) ≤ (l0.length : Int) then ((points_Of.f (l0.take ((ji3) : Int).toNat)).bind fun t198 => (epitomelaw01_PointsOf.l0 k t196 (l0.take ((ji3) : Int).toNat) t198 0 0)) else (none)) else (none)) = some r := by first | (rw [hji3] at H; exact H) | (simp only [hji3] at H ⊢; exact H)
  (try rw [hji3] at A2)
  (try (have hji3h : ji3 ≤ 40 := by (rw [← hji3]; unfold mn; (repeat' split) <;> omega)))
  (try (have hji3g : ji3 ≤ 64 := by omega))
  (try (have hji3l : 0 ≤ ji3 := by (rw [← hji3]; unfold mn; (repeat' split) <;> omega)))
  (try (have hji3m : 0 ≤ ji3 := by omega))
  have hji3_ : (if 40 < (l0.length : Int) then 40 else (l0.length : Int)) = ji3 := hji3
  by_cases c4 : 0 ≤ (ji3)
  · rw [if_pos c4] at H
    have c4b0 := eq_true c4
    have c4b1 : decide (0 ≤ (ji3)) = true := decide_eq_true c4
    clear c4
    by_cases c5 : (ji3) ≤ (l0.length : Int)
    · rw [if_pos c5] at H
      have c5b0 := eq_true c5
      have c5b1 : decide ((ji3) ≤ (l0.length : Int)) = true := decide_eq_true c5
      clear c5
      replace H := Option.bind_eq_some_iff.mp H
      obtain ⟨t198, A60, H⟩ := H
      replace H : (epitomelaw01_PointsOf.l0 k t196 (l0.take ((ji3) : Int).toNat) t198 0 0) = some r := H
      have A6 := Aside0.mk A60
      clear A60
      have H' := Aside0.mk H
      clear H
      go_enter Tryd.func7, Tryd.ntmps7
      go_wp2_with (first | ((with_reducible refine gate_callee (f := 14) rfl ?_); refine goesL_ (some 10) rfl rfl Tryd.func14 (by kernel_rfl) rfl #[] rfl (by (try simp only [List.map_toArray, List.map_cons, List.map_nil]); first | done | rfl | (simp only [List.length_drop, List.length_take]; rfl)) ?_; (with_reducible refine (epitomelaw01_shown.calls  t196 _ ?side1 A2.out).mono ?_); (case side1 => exact Tabs.below HT.out (by repeat (first | (with_reducible first | exact HB.out | apply below_alloc | apply pw_below_drewN | apply below_drew1) | exact HB.out))); rintro e w7 ⟨rfl, hb⟩; refine ⟨_, rfl, ?_⟩; have n0_ := Aside0.mk (below_step (by repeat (first | (with_reducible first | exact HB.out | apply below_alloc | apply pw_below_drewN | apply below_drew1) | exact HB.out)) hb); clear HB; have HB := n0_; clear n0_; (try clear hb); (try clear hb2); (try clear hk); (try clear hi); obtain ⟨i08, hi08, _, hsz8, _⟩ := info_parts info21; obtain ⟨hcut8, hA8, hC8⟩ := print_take_of (P := Tryd.prog) (Value.int .i32) 0 36 21 .i64 Tryd.underlying36 hi08 hsz8 A0 c0 l0 (ji3) (of_decide_eq_true (by first | (with_reducible assumption) | assumption)) (of_decide_eq_true (by first | (with_reducible assumption) | assumption)) HC0.out; have HR197 := Aside0.mk (Kd.C_of_reads (h1 := fun _ => rfl) (hA8 _ (Kd.reads_of_C HR0.out))); have HC197 := Aside0.mk hC8; clear hA8 hC8 hi08 hsz8) | ((with_reducible refine gate_callee (f := 23) rfl ?_); refine goesL_ (some 17) rfl rfl Tryd.func23 (by kernel_rfl) rfl #[.slice A0 (l0.take ((ji3) : Int).toNat).length c0] rfl (by (try simp only [List.map_toArray, List.map_cons, List.map_nil]); first | done | (rw [show (l0.take ((ji3) : Int).toNat).length = (ji3).toNat from (by rw [List.length_take]; have h_ : ((ji3) : Int) ≤ (l0.length : Int) := of_decide_eq_true (by first | (with_reducible assumption) | assumption); omega)] <;> rfl) | (simp only [hji3]; rfl) | rfl | (simp only [List.length_drop, List.length_take]; rfl)) ?_; (with_reducible refine (points_Of.calls _ _ (l0.take ((ji3) : Int).toNat) t198 _ ?side1 ?side2 A6.out).mono ?_); (case side1 => repeat (first | exact (Kd.C_below HR197.out HB.out) | (with_reducible refine Kd.C_alloc ?_ _) | (with_reducible refine Kd.C_drewN ?_ _) | (with_reducible refine Kd.C_drew ?_))); (case side2 => exact HC197.out); rintro e w9 ⟨rfl, hb⟩; refine ⟨_, rfl, ?_⟩; have n0_ := Aside0.mk (below_step (by repeat (first | (with_reducible first | exact HB.out | apply below_alloc | apply pw_below_drewN | apply below_drew1) | exact HB.out)) hb); clear HB; have HB := n0_; clear n0_; (try clear hb); (try clear hb2); (try clear hk); (try clear hi)))
      go_loopg [6, 7] k (fun kq v6 v7 w' => ∃ (x6_1 : Int) (x7_1 : Int), v6 = .int .i64 x6_1 ∧ v7 = .int .i64 x7_1 ∧ Aside0 (epitomelaw01_PointsOf.l0 kq t196 (l0.take ((ji3) : Int).toNat) t198 x6_1 x7_1 = some r) ∧ Aside0 (kq ≤ k) ∧ Aside0 (Below w.heap.size w w'))
      case atStart => exact ⟨(0), (0), (by first | rfl | (simp; done) | (simp [*]; done)), (by first | rfl | (simp; done) | (simp [*]; done)), H', ⟨Nat.le_refl _⟩, ⟨by repeat (first | (with_reducible first | exact HB.out | apply below_alloc | apply pw_below_drewN | apply below_drew1) | exact HB.out)⟩⟩
      case round =>
        clear H'
        try clear c1
        try clear c2
        try clear p2
        try clear c4
        try clear c4b0
        try clear c4b1
        try clear c5
        try clear c5b0
        try clear c5b1
        try clear c7
        obtain ⟨x6_1, x7_1, rfl, rfl, HA, HK1, HB⟩ := hrel
        cases gk with
        | zero => exact absurd HA.out (by simp [epitomelaw01_PointsOf.l0])
        | succ k1 =>
          have H := HA.out
          clear HA
          simp only [epitomelaw01_PointsOf.l0] at H
          by_cases c10 : x7_1 < ((l0.take ((ji3) : Int).toNat).length : Int)
          · rw [if_pos c10] at H
            have c10b0 : decide (x7_1 < ((l0.take ((ji3) : Int).toNat).length : Int)) = true := decide_eq_true c10
            (try (have c10b1 : decide (x7_1 < (max ji3 0)) = true := decide_eq_true (by have h_ : ji3 ≤ (l0.length : Int) := (by first | exact of_decide_eq_true (by assumption) | omega | (rw [← hji3]; unfold mn; (repeat' split) <;> omega)); have e_ : ((l0.take ((ji3) : Int).toNat).length : Int) = (max ji3 0) := (by rw [List.length_take]; omega); rw [← e_]; exact c10)))
            (try (have c10b2 : (x7_1 < (max ji3 0)) = True := eq_true (by have h_ : ji3 ≤ (l0.length : Int) := (by first | exact of_decide_eq_true (by assumption) | omega | (rw [← hji3]; unfold mn; (repeat' split) <;> omega)); have e_ : ((l0.take ((ji3) : Int).toNat).length : Int) = (max ji3 0) := (by rw [List.length_take]; omega); rw [← e_]; exact c10)))
            clear c10
            have HC11 := Aside0.mk H
            clear H
            go_upto_region 8 with (fail)
            go_cut [49] (fun v49 wc => ∃ (kq : Nat) (x49_10 : Bool), v49 = .bool x49_10 ∧ Aside0 (epitomelaw01_PointsOf.j1 kq t196 (l0.take ((ji3) : Int).toNat) t198 x6_1 x7_1 x49_10 = some r) ∧ Aside0 (kq ≤ k1) ∧ Aside0 (Below w.heap.size w wc))
            case first =>
              have H := HC11.out
              clear HC11
              by_cases c12 : 0 ≤ x7_1
              · rw [if_pos c12] at H
                have c12b0 : decide (0 ≤ x7_1) = true := decide_eq_true c12
                clear c12
                (first | rw [c12b0] | (simp only [i64_w, i32_w]; rw [c12b0]) | skip)
                by_cases c13 : (rd (l0.take ((ji3) : Int).toNat) x7_1) ≥ 0
                · rw [if_pos c13] at H
                  have c13b0 : decide (0 ≤ (rd (l0.take ((ji3) : Int).toNat) x7_1)) = true := decide_eq_true c13
                  clear c13
                  by_cases c14 : (rd (l0.take ((ji3) : Int).toNat) x7_1) ≤ 1114111
                  · rw [if_pos c14] at H
                    have c14b0 : decide ((rd (l0.take ((ji3) : Int).toNat) x7_1) ≤ 1114111) = true := decide_eq_true c14
                    clear c14
                    by_cases c15 : (rd (l0.take ((ji3) : Int).toNat) x7_1) < 55296
                    · rw [if_pos c15] at H
                      have c15b0 : decide ((rd (l0.take ((ji3) : Int).toNat) x7_1) < 55296) = true := decide_eq_true c15
                      clear c15
                      have H' := Aside0.mk H
                      clear H
                      have p202 : 0 ≤ (x7_1 : Int) := of_decide_eq_true (by first | (with_reducible assumption) | assumption)
                      have q202 : x7_1 < ((l0.take ((ji3) : Int).toNat).length : Int) := of_decide_eq_true (by first | (with_reducible assumption) | assumption)
                      obtain ⟨ad202, e202, hx202_0⟩ := Kd.at_int HR197.out x7_1 p202 q202
                      cases e202
                      replace hx202_0 := (HB.out.cell (World.block_lt_of_cell? w _ hx202_0)).trans hx202_0
                      replace p202 := eq_true p202
                      replace q202 := eq_true q202
                      have p203 : 0 ≤ (x7_1 : Int) := of_decide_eq_true (by first | (with_reducible assumption) | assumption)
                      have q203 : x7_1 < ((l0.take ((ji3) : Int).toNat).length : Int) := of_decide_eq_true (by first | (with_reducible assumption) | assumption)
                      obtain ⟨ad203, e203, hx203_0⟩ := Kd.at_int HR197.out x7_1 p203 q203
                      obtain rfl : ad202 = ad203 := (by injection e203)
                      replace hx203_0 := (HB.out.cell (World.block_lt_of_cell? w _ hx203_0)).trans hx203_0
                      replace p203 := eq_true p203
                      replace q203 := eq_true q203
                      have p204 : 0 ≤ (x7_1 : Int) := of_decide_eq_true (by first | (with_reducible assumption) | assumption)
                      have q204 : x7_1 < ((l0.take ((ji3) : Int).toNat).length : Int) := of_decide_eq_true (by first | (with_reducible assumption) | assumption)
                      obtain ⟨ad204, e204, hx204_0⟩ := Kd.at_int HR197.out x7_1 p204 q204
                      obtain rfl : ad202 = ad204 := (by injection e204)
                      replace hx204_0 := (HB.out.cell (World.block_lt_of_cell? w _ hx204_0)).trans hx204_0
                      replace p204 := eq_true p204
                      replace q204 := eq_true q204
                      go_wp2
                      go_meet
                      case rel => exact ⟨_, (true), (by first | rfl | (simp; done) | (simp [*]; done)), H', ⟨by have := HK1.out; first | omega | exact Nat.le_refl _⟩, ⟨by repeat (first | (with_reducible first | exact HB.out | apply below_alloc | apply pw_below_drewN | apply below_drew1) | exact HB.out)⟩⟩
                    · rw [if_neg c15] at H
                      have c15b0 : decide ((rd (l0.take ((ji3) : Int).toNat) x7_1) < 55296) = false := decide_eq_false c15
                      clear c15
                      have H' := Aside0.mk H
                      clear H
                      have p202 : 0 ≤ (x7_1 : Int) := of_decide_eq_true (by first | (with_reducible assumption) | assumption)
                      have q202 : x7_1 < ((l0.take ((ji3) : Int).toNat).length : Int) := of_decide_eq_true (by first | (with_reducible assumption) | assumption)
                      obtain ⟨ad202, e202, hx202_0⟩ := Kd.at_int HR197.out x7_1 p202 q202
                      cases e202
                      replace hx202_0 := (HB.out.cell (World.block_lt_of_cell? w _ hx202_0)).trans hx202_0
                      replace p202 := eq_true p202
                      replace q202 := eq_true q202
                      have p203 : 0 ≤ (x7_1 : Int) := of_decide_eq_true (by first | (with_reducible assumption) | assumption)
                      have q203 : x7_1 < ((l0.take ((ji3) : Int).toNat).length : Int) := of_decide_eq_true (by first | (with_reducible assumption) | assumption)
                      obtain ⟨ad203, e203, hx203_0⟩ := Kd.at_int HR197.out x7_1 p203 q203
                      obtain rfl : ad202 = ad203 := (by injection e203)
                      replace hx203_0 := (HB.out.cell (World.block_lt_of_cell? w _ hx203_0)).trans hx203_0
                      replace p203 := eq_true p203
                      replace q203 := eq_true q203
                      have p204 : 0 ≤ (x7_1 : Int) := of_decide_eq_true (by first | (with_reducible assumption) | assumption)
                      have q204 : x7_1 < ((l0.take ((ji3) : Int).toNat).length : Int) := of_decide_eq_true (by first | (with_reducible assumption) | assumption)
                      obtain ⟨ad204, e204, hx204_0⟩ := Kd.at_int HR197.out x7_1 p204 q204
                      obtain rfl : ad202 = ad204 := (by injection e204)
                      replace hx204_0 := (HB.out.cell (World.block_lt_of_cell? w _ hx204_0)).trans hx204_0
                      replace p204 := eq_true p204
                      replace q204 := eq_true q204
                      have p205 : 0 ≤ (x7_1 : Int) := of_decide_eq_true (by first | (with_reducible assumption) | assumption)
                      have q205 : x7_1 < ((l0.take ((ji3) : Int).toNat).length : Int) := of_decide_eq_true (by first | (with_reducible assumption) | assumption)
                      obtain ⟨ad205, e205, hx205_0⟩ := Kd.at_int HR197.out x7_1 p205 q205
                      obtain rfl : ad202 = ad205 := (by injection e205)
                      replace hx205_0 := (HB.out.cell (World.block_lt_of_cell? w _ hx205_0)).trans hx205_0
                      replace p205 := eq_true p205
                      replace q205 := eq_true q205
                      go_wp2
                      go_meet
                      case rel => exact ⟨_, (decide ((rd (l0.take ((ji3) : Int).toNat) x7_1) > 57343)), (by first | rfl | (simp; done) | (simp only [← hji3] <;> (first | rfl | simp)) | (simp [*]; done)), H', ⟨by have := HK1.out; first | omega | exact Nat.le_refl _⟩, ⟨by repeat (first | (with_reducible first | exact HB.out | apply below_alloc | apply pw_below_drewN | apply below_drew1) | exact HB.out)⟩⟩
                  · rw [if_neg c14] at H
                    have c14b0 : decide ((rd (l0.take ((ji3) : Int).toNat) x7_1) ≤ 1114111) = false := decide_eq_false c14
                    clear c14
                    have H' := Aside0.mk H
                    clear H
                    have p202 : 0 ≤ (x7_1 : Int) := of_decide_eq_true (by first | (with_reducible assumption) | assumption)
                    have q202 : x7_1 < ((l0.take ((ji3) : Int).toNat).length : Int) := of_decide_eq_true (by first | (with_reducible assumption) | assumption)
                    obtain ⟨ad202, e202, hx202_0⟩ := Kd.at_int HR197.out x7_1 p202 q202
                    cases e202
                    replace hx202_0 := (HB.out.cell (World.block_lt_of_cell? w _ hx202_0)).trans hx202_0
                    replace p202 := eq_true p202
                    replace q202 := eq_true q202
                    have p203 : 0 ≤ (x7_1 : Int) := of_decide_eq_true (by first | (with_reducible assumption) | assumption)
                    have q203 : x7_1 < ((l0.take ((ji3) : Int).toNat).length : Int) := of_decide_eq_true (by first | (with_reducible assumption) | assumption)
                    obtain ⟨ad203, e203, hx203_0⟩ := Kd.at_int HR197.out x7_1 p203 q203
                    obtain rfl : ad202 = ad203 := (by injection e203)
                    replace hx203_0 := (HB.out.cell (World.block_lt_of_cell? w _ hx203_0)).trans hx203_0
                    replace p203 := eq_true p203
                    replace q203 := eq_true q203
                    go_wp2
                    go_meet
                    case rel => exact ⟨_, (false), (by first | rfl | (simp; done) | (simp [*]; done)), H', ⟨by have := HK1.out; first | omega | exact Nat.le_refl _⟩, ⟨by repeat (first | (with_reducible first | exact HB.out | apply below_alloc | apply pw_below_drewN | apply below_drew1) | exact HB.out)⟩⟩
                · rw [if_neg c13] at H
                  have c13b0 : decide (0 ≤ (rd (l0.take ((ji3) : Int).toNat) x7_1)) = false := decide_eq_false c13
                  clear c13
                  have H' := Aside0.mk H
                  clear H
                  have p202 : 0 ≤ (x7_1 : Int) := of_decide_eq_true (by first | (with_reducible assumption) | assumption)
                  have q202 : x7_1 < ((l0.take ((ji3) : Int).toNat).length : Int) := of_decide_eq_true (by first | (with_reducible assumption) | assumption)
                  obtain ⟨ad202, e202, hx202_0⟩ := Kd.at_int HR197.out x7_1 p202 q202
                  cases e202
                  replace hx202_0 := (HB.out.cell (World.block_lt_of_cell? w _ hx202_0)).trans hx202_0
                  replace p202 := eq_true p202
                  replace q202 := eq_true q202
                  go_wp2
                  go_meet
                  case rel => exact ⟨_, (false), (by first | rfl | (simp; done) | (simp [*]; done)), H', ⟨by have := HK1.out; first | omega | exact Nat.le_refl _⟩, ⟨by repeat (first | (with_reducible first | exact HB.out | apply below_alloc | apply pw_below_drewN | apply below_drew1) | exact HB.out)⟩⟩
              · rw [if_neg c12] at H
                exact absurd H (by simp)
            case rest =>
              clear HC11
              try clear c1
              try clear c2
              try clear p2
              try clear q2
              try clear hx2
              try clear c4
              try clear c4b0
              try clear c4b1
              try clear c5
              try clear c5b0
              try clear c5b1
              try clear c7
              try clear c10
              try clear c10b0
              try clear c10b1
              try clear c10b2
              try clear c12
              try clear c12b0
              try clear c13
              try clear c13b0
              try clear c14
              try clear c14b0
              try clear c15
              try clear c15b0
              try clear hx202_0
              try clear hx203_0
              try clear hx204_0
              try clear hx205_0
              try clear p2
              try clear p202
              try clear p203
              try clear p204
              try clear p205
              try clear q202
              try clear q203
              try clear q204
              try clear q205
              obtain ⟨kq, x49_10, rfl, HA, HJ10, HB⟩ := hcut
              cases kq with
              | zero => exact absurd HA.out (by simp [epitomelaw01_PointsOf.j1])
              | succ kj10 =>
                have H := HA.out
                clear HA
                simp only [epitomelaw01_PointsOf.j1] at H
                by_cases c16 : x49_10 = true
                · subst c16
                  have H1 : ((points_Cut.f t198 (wrap64 ((wrap64 (x6_1 + 1)) - 1)) (wrap64 (x6_1 + 1))).bind fun bt206 => (if bt206.2 = 0 then (if 0 ≤ x7_1 then (if x7_1 < ((l0.take ((ji3) : Int).toNat).length : Int) then ((points_Of.f (([rd (l0.take ((ji3) : Int).toNat) x7_1] : List Int))).bind fun t212 => (if bt206.1.toList = t212.toList then (epitomelaw01_PointsOf.l0 kj10 t196 (l0.take ((ji3) : Int).toNat) t198 (wrap64 (x6_1 + 1)) (wrap64 (x7_1 + 1))) else (some false))) else (none)) else (none)) else (some false))) = some r := by rw [if_pos rfl] at H; exact H
                  clear H
                  have H := H1
                  clear H1
                  replace H := Option.bind_eq_some_iff.mp H
                  obtain ⟨⟨t206, t207⟩, A170, H⟩ := H
                  replace H : (if t207 = 0 then (if 0 ≤ x7_1 then (if x7_1 < ((l0.take ((ji3) : Int).toNat).length : Int) then ((points_Of.f (([rd (l0.take ((ji3) : Int).toNat) x7_1] : List Int))).bind fun t212 => (if t206.toList = t212.toList then (epitomelaw01_PointsOf.l0 kj10 t196 (l0.take ((ji3) : Int).toNat) t198 (wrap64 (x6_1 + 1)) (wrap64 (x7_1 + 1))) else (some false))) else (none)) else (none)) else (some false)) = some r := H
                  have A17 := Aside0.mk A170
                  clear A170
                  by_cases c18 : t207 = 0
                  · rw [if_pos c18] at H
                    have c18b0 : (t207 == 0) = true := beq_iff_eq.mpr c18
                    have c18b1 : (t207 != 0) = false := bne_eq_false_iff_eq.mpr c18
                    clear c18
                    by_cases c19 : 0 ≤ x7_1
                    · rw [if_pos c19] at H
                      have c19b0 : decide (0 ≤ x7_1) = true := decide_eq_true c19
                      clear c19
                      by_cases c20 : x7_1 < ((l0.take ((ji3) : Int).toNat).length : Int)
                      · rw [if_pos c20] at H
                        have c20b0 : decide (x7_1 < ((l0.take ((ji3) : Int).toNat).length : Int)) = true := decide_eq_true c20
                        (try (have c20b1 : decide (x7_1 < (max ji3 0)) = true := decide_eq_true (by have h_ : ji3 ≤ (l0.length : Int) := (by first | exact of_decide_eq_true (by assumption) | omega | (rw [← hji3]; unfold mn; (repeat' split) <;> omega)); have e_ : ((l0.take ((ji3) : Int).toNat).length : Int) = (max ji3 0) := (by rw [List.length_take]; omega); rw [← e_]; exact c20)))
                        (try (have c20b2 : (x7_1 < (max ji3 0)) = True := eq_true (by have h_ : ji3 ≤ (l0.length : Int) := (by first | exact of_decide_eq_true (by assumption) | omega | (rw [← hji3]; unfold mn; (repeat' split) <;> omega)); have e_ : ((l0.take ((ji3) : Int).toNat).length : Int) = (max ji3 0) := (by rw [List.length_take]; omega); rw [← e_]; exact c20)))
                        clear c20
                        obtain ⟨y209, hy209⟩ : ∃ y_ : List Int, y_ = (([rd (l0.take ((ji3) : Int).toNat) x7_1] : List Int)) := ⟨_, rfl⟩
                        replace H : ((points_Of.f y209).bind fun t212 => (if t206.toList = t212.toList then (epitomelaw01_PointsOf.l0 kj10 t196 (l0.take ((ji3) : Int).toNat) t198 (wrap64 (x6_1 + 1)) (wrap64 (x7_1 + 1))) else (some false))) = some r := by first | (rw [hy209]; with_reducible exact H) | (have H2_ := (Option.bind_some _ _).symm.trans H; rw [hy209]; with_reducible exact H2_) | (have H2_ := (Option.bind_some _ _).symm.trans H; with_reducible exact H2_) | with_reducible exact H | (rw [hy209]; exact H) | exact H
                        have Ny209 := Aside0.mk hy209
                        clear hy209
                        replace H := Option.bind_eq_some_iff.mp H
                        obtain ⟨t212, A210, H⟩ := H
                        replace H : (if t206.toList = t212.toList then (epitomelaw01_PointsOf.l0 kj10 t196 (l0.take ((ji3) : Int).toNat) t198 (wrap64 (x6_1 + 1)) (wrap64 (x7_1 + 1))) else (some false)) = some r := H
                        have A21 := Aside0.mk A210
                        clear A210
                        by_cases c22 : t206.toList = t212.toList
                        · rw [if_pos c22] at H
                          have c22b0 : (t206.toList == t212.toList) = true := beq_iff_eq.mpr c22
                          have c22b1 : (t206.toList != t212.toList) = false := bne_eq_false_iff_eq.mpr c22
                          clear c22
                          have H' := Aside0.mk H
                          clear H
                          go_wp2_with (first | ((with_reducible refine gate_callee (f := 16) rfl ?_); refine goesL_ (some 57) rfl rfl Tryd.func16 (by kernel_rfl) rfl #[.string t198, .int .i64 (wrap64 ((wrap64 (x6_1 + 1)) - 1)), .int .i64 (wrap64 (x6_1 + 1))] rfl (by (try simp only [List.map_toArray, List.map_cons, List.map_nil]); first | done | rfl | (simp only [List.length_drop, List.length_take]; rfl)) ?_; (with_reducible refine (points_Cut.calls t198 (wrap64 ((wrap64 (x6_1 + 1)) - 1)) (wrap64 (x6_1 + 1)) t206 t207 _ ?side1 A17.out).mono ?_); (case side1 => exact Tabs.below HT.out (by repeat (first | (with_reducible first | exact HB.out | apply below_alloc | apply pw_below_drewN | apply below_drew1) | exact HB.out))); rintro e w23 ⟨rfl, hb⟩; refine ⟨_, rfl, ?_⟩; have n0_ := Aside0.mk (below_step (by repeat (first | (with_reducible first | exact HB.out | apply below_alloc | apply pw_below_drewN | apply below_drew1) | exact HB.out)) hb); clear HB; have HB := n0_; clear n0_; (try clear hb); (try clear hb2); (try clear hk); (try clear hi); have p208 : 0 ≤ (x7_1 : Int) := of_decide_eq_true (by first | (with_reducible assumption) | assumption); have q208 : x7_1 < ((l0.take ((ji3) : Int).toNat).length : Int) := of_decide_eq_true (by first | (with_reducible assumption) | assumption); obtain ⟨ad208, e208, hx208_0⟩ := Kd.at_int HR197.out x7_1 p208 q208; cases e208; replace hx208_0 := (HB.out.cell (World.block_lt_of_cell? w _ hx208_0)).trans hx208_0; replace p208 := eq_true p208; replace q208 := eq_true q208) | ((with_reducible refine gate_dst (N := 68) rfl ?_); (try (refine gate_guard (by rfl) ?_; dsimp only)); refine Kd.R_lit (Kd.int .i32) _ 21 ?hg (N := 68) ?hd (xs := ([rd (l0.take ((ji3) : Int).toNat) x7_1] : List Int)) (inner := [.int .i32 (rd (l0.take ((ji3) : Int).toNat) x7_1)]) (ok := fun _ => True) (okp := fun _ => True) ?hr ?hp (fun _ hk => hk) trivial (Below.refl _ _) (Nat.le_refl _) (by simp) ?_; (case hd => rfl); (case hg => rfl); (case hr => first | (go_simp; done) | (go_simp; rfl)); (case hp => exact (Reps.one (show Kd.M (Kd.int .i32) _ _ _ (rd (l0.take ((ji3) : Int).toNat) x7_1) [.int .i32 (rd (l0.take ((ji3) : Int).toNat) x7_1)] from rfl) (Reps.none _ _))); intro v210 w24 ho25 hb hg_ hnew_; clear hg_ hnew_; (first | rw [← Ny209.out] at ho25 | (simp only [Int.reduceToNat] at ho25; rw [← Ny209.out] at ho25)); have n0_ := Aside0.mk (Kd.R_lower ho25 (below_size (by repeat (first | (with_reducible first | exact HB.out | apply below_alloc | apply pw_below_drewN | apply below_drew1) | exact HB.out)))); have n1_ := Aside0.mk (below_step (by repeat (first | (with_reducible first | exact HB.out | apply below_alloc | apply pw_below_drewN | apply below_drew1) | exact HB.out)) hb); clear HB; have HO211 := n0_; have HB := n1_; clear n0_ n1_; clear hb ho25; obtain ⟨Ao26, co26, eo26⟩ := Kd.R_slice HO211.out; subst eo26) | (go_at_call 23; (with_reducible refine (points_Of.calls _ _ y209 t212 _ ?side1 ?side2 A21.out).mono ?_); (case side1 => repeat (first | exact (Kd.R_reads' HO211.out).2.2 | (with_reducible refine Kd.C_alloc ?_ _) | (with_reducible refine Kd.C_drewN ?_ _) | (with_reducible refine Kd.C_drew ?_))); (case side2 => exact (Kd.R_reads' HO211.out).2.1); rintro e w27 ⟨rfl, hb⟩; have n0_ := Aside0.mk (Kd.R_below (by (with_reducible repeat (first | apply Kd.R_alloc | apply Kd.R_drewN | apply Kd.R_drew)); exact HO211.out) hb); have n1_ := Aside0.mk (below_step (by repeat (first | (with_reducible first | exact HB.out | apply below_alloc | apply pw_below_drewN | apply below_drew1) | exact HB.out)) hb); clear HO211; clear HB; have HO211 := n0_; have HB := n1_; clear n0_ n1_; (try clear hb); (try clear hb2); (try clear hk); (try clear hi)))
                          go_roundg kj10
                          case measure => have := HK1.out; have := HJ10.out; omega
                          case rel => exact ⟨(wrap64 (x6_1 + 1)), (wrap64 (x7_1 + 1)), (by first | rfl | (simp; done) | (simp [*]; done)), (by first | rfl | (simp; done) | (simp [*]; done)), H', ⟨by have := HK1.out; have := HJ10.out; omega⟩, ⟨by repeat (first | (with_reducible first | exact HB.out | apply below_alloc | apply pw_below_drewN | apply below_drew1) | exact HB.out)⟩⟩
                        · rw [if_neg c22] at H
                          have c22b0 : (t206.toList == t212.toList) = false := beq_eq_false_iff_ne.mpr c22
                          have c22b1 : (t206.toList != t212.toList) = true := bne_iff_ne.mpr c22
                          obtain rfl := Option.some.inj H
                          exact absurd HLAW.out (by decide)
                      · rw [if_neg c20] at H
                        exact absurd H (by simp)
                    · rw [if_neg c19] at H
                      exact absurd H (by simp)
                  · rw [if_neg c18] at H
                    have c18b0 : (t207 == 0) = false := beq_eq_false_iff_ne.mpr c18
                    have c18b1 : (t207 != 0) = true := bne_iff_ne.mpr c18
                    obtain rfl := Option.some.inj H
                    exact absurd HLAW.out (by decide)
                · replace c16 := Bool.eq_false_iff.mpr c16
                  subst c16
                  have H1 : (epitomelaw01_PointsOf.l0 kj10 t196 (l0.take ((ji3) : Int).toNat) t198 x6_1 (wrap64 (x7_1 + 1))) = some r := by rw [if_neg (show ¬ (false = true) by decide)] at H; exact H
                  clear H
                  have H := H1
                  clear H1
                  have H' := Aside0.mk H
                  clear H
                  go_wp2
                  go_roundg kj10
                  case measure => have := HK1.out; have := HJ10.out; omega
                  case rel => exact ⟨(x6_1), (wrap64 (x7_1 + 1)), (by first | rfl | (simp; done) | (simp [*]; done)), (by first | rfl | (simp; done) | (simp [*]; done)), H', ⟨by have := HK1.out; have := HJ10.out; omega⟩, ⟨by repeat (first | (with_reducible first | exact HB.out | apply below_alloc | apply pw_below_drewN | apply below_drew1) | exact HB.out)⟩⟩
          · rw [if_neg c10] at H
            have c10b0 : decide (x7_1 < ((l0.take ((ji3) : Int).toNat).length : Int)) = false := decide_eq_false c10
            (try (have c10b1 : decide (x7_1 < (max ji3 0)) = false := decide_eq_false (by have h_ : ji3 ≤ (l0.length : Int) := (by first | exact of_decide_eq_true (by assumption) | omega | (rw [← hji3]; unfold mn; (repeat' split) <;> omega)); have e_ : ((l0.take ((ji3) : Int).toNat).length : Int) = (max ji3 0) := (by rw [List.length_take]; omega); rw [← e_]; exact c10)))
            (try (have c10b2 : (x7_1 < (max ji3 0)) = False := eq_false (by have h_ : ji3 ≤ (l0.length : Int) := (by first | exact of_decide_eq_true (by assumption) | omega | (rw [← hji3]; unfold mn; (repeat' split) <;> omega)); have e_ : ((l0.take ((ji3) : Int).toNat).length : Int) = (max ji3 0) := (by rw [List.length_take]; omega); rw [← e_]; exact c10)))
            clear c10
            by_cases c28 : t196 = true
            · subst c28
              have H1 : ((epitomeref01_Of.f k1 (l0.take ((ji3) : Int).toNat)).bind fun t199 => (if t198.toList = t199.toList then ((points_Valid.f t198).bind fun t200 => (if t200 = true then ((points_Count.f t198).bind fun t201 => (some (t201 == x6_1))) else (some false))) else (some false))) = some r := by rw [if_pos rfl] at H; exact H
              clear H
              have H := H1
              clear H1
              replace H := Option.bind_eq_some_iff.mp H
              obtain ⟨t199, A290, H⟩ := H
              replace H : (if t198.toList = t199.toList then ((points_Valid.f t198).bind fun t200 => (if t200 = true then ((points_Count.f t198).bind fun t201 => (some (t201 == x6_1))) else (some false))) else (some false)) = some r := H
              have A29 := Aside0.mk A290
              clear A290
              by_cases c30 : t198.toList = t199.toList
              · rw [if_pos c30] at H
                have c30b0 : (t198.toList == t199.toList) = true := beq_iff_eq.mpr c30
                have c30b1 : (t198.toList != t199.toList) = false := bne_eq_false_iff_eq.mpr c30
                clear c30
                replace H := Option.bind_eq_some_iff.mp H
                obtain ⟨t200, A310, H⟩ := H
                replace H : (if t200 = true then ((points_Count.f t198).bind fun t201 => (some (t201 == x6_1))) else (some false)) = some r := H
                have A31 := Aside0.mk A310
                clear A310
                by_cases c32 : t200 = true
                · subst c32
                  have H1 : ((points_Count.f t198).bind fun t201 => (some (t201 == x6_1))) = some r := by rw [if_pos rfl] at H; exact H
                  clear H
                  have H := H1
                  clear H1
                  replace H := Option.bind_eq_some_iff.mp H
                  obtain ⟨t201, A330, H⟩ := H
                  replace H : (some (t201 == x6_1)) = some r := H
                  have A33 := Aside0.mk A330
                  clear A330
                  obtain rfl := Option.some.inj H
                  simp only [Option.some.injEq, Prod.mk.injEq] at H
                  obtain ⟨rfl⟩ := H
                  go_wp2_with (first | (go_at_call 24; (try rw [show (#[Value.slice A0 (ji3 : Int).toNat c0] : Array Value) = #[Value.slice A0 (l0.take (ji3 : Int).toNat).length c0] from (by have h_ : ji3 ≤ (l0.length : Int) := (by first | exact of_decide_eq_true (by assumption) | omega | (rw [← hji3]; unfold mn; (repeat' split) <;> omega)); rw [List.length_take, Nat.min_eq_left (by omega)])]); (with_reducible refine (epitomeref01_Of.calls k1 _ _ (l0.take ((ji3) : Int).toNat) t199 _ ?side1 ?side2 A29.out).mono ?_); (case side1 => repeat (first | exact (Kd.C_below HR197.out HB.out) | (with_reducible refine Kd.C_alloc ?_ _) | (with_reducible refine Kd.C_drewN ?_ _) | (with_reducible refine Kd.C_drew ?_))); (case side2 => exact HC197.out); rintro e w34 ⟨rfl, hb⟩; have n0_ := Aside0.mk (below_step (by repeat (first | (with_reducible first | exact HB.out | apply below_alloc | apply pw_below_drewN | apply below_drew1) | exact HB.out)) hb); clear HB; have HB := n0_; clear n0_; (try clear hb); (try clear hb2); (try clear hk); (try clear hi)) | (go_at_call 18; (with_reducible refine (points_Valid.calls t198 true _ ?side1 A31.out).mono ?_); (case side1 => exact Tabs.below HT.out (by repeat (first | (with_reducible first | exact HB.out | apply below_alloc | apply pw_below_drewN | apply below_drew1) | exact HB.out))); rintro e w35 ⟨rfl, hb⟩; have n0_ := Aside0.mk (below_step (by repeat (first | (with_reducible first | exact HB.out | apply below_alloc | apply pw_below_drewN | apply below_drew1) | exact HB.out)) hb); clear HB; have HB := n0_; clear n0_; (try clear hb); (try clear hb2); (try clear hk); (try clear hi)) | (go_at_call 20; (with_reducible refine (points_Count.calls t198 t201 _ ?side1 A33.out).mono ?_); (case side1 => exact Tabs.below HT.out (by repeat (first | (with_reducible first | exact HB.out | apply below_alloc | apply pw_below_drewN | apply below_drew1) | exact HB.out))); rintro e w36 ⟨rfl, hb⟩; have n0_ := Aside0.mk (below_step (by repeat (first | (with_reducible first | exact HB.out | apply below_alloc | apply pw_below_drewN | apply below_drew1) | exact HB.out)) hb); clear HB; have HB := n0_; clear n0_; (try clear hb); (try clear hb2); (try clear hk); (try clear hi)))
                  go_ret
                  exact ⟨by first | rfl | (simp [errW_none, errW_some] <;> rfl) | (simp only [← hji3]; first | rfl | (simp [errW_none, errW_some] <;> rfl)) | (simp [*, errW_none, errW_some] <;> rfl), by repeat (first | (with_reducible first | exact HB.out | apply below_alloc | apply pw_below_drewN | apply below_drew1) | exact HB.out)⟩
                · replace c32 := Bool.eq_false_iff.mpr c32
                  subst c32
                  have H1 : (some false) = some r := by rw [if_neg (show ¬ (false = true) by decide)] at H; exact H
                  clear H
                  have H := H1
                  clear H1
                  obtain rfl := Option.some.inj H
                  exact absurd HLAW.out (by decide)
              · rw [if_neg c30] at H
                have c30b0 : (t198.toList == t199.toList) = false := beq_eq_false_iff_ne.mpr c30
                have c30b1 : (t198.toList != t199.toList) = true := bne_iff_ne.mpr c30
                obtain rfl := Option.some.inj H
                exact absurd HLAW.out (by decide)
            · replace c28 := Bool.eq_false_iff.mpr c28
              subst c28
              have H1 : (some false) = some r := by rw [if_neg (show ¬ (false = true) by decide)] at H; exact H
              clear H
              have H := H1
              clear H1
              obtain rfl := Option.some.inj H
              exact absurd HLAW.out (by decide)
    · rw [if_neg c5] at H
      exact absurd H (by simp)
  · rw [if_neg c4] at H
    exact absurd H (by simp)

/-- THE ONE PURE STATEMENT of epitomelaw01_PointsOf: yours. -/
def epitomelaw01_PointsOf.Pure : Prop := ∀ (l0 : List Int), l0.length ≤ maxLen → l0.length * 4 ≤ 140737488351232 → (∀ x ∈ l0, (Lit.int .i32 x).wf = true) → ∃ k, epitomelaw01_PointsOf.f k l0 = some true
theorem epitomelaw01_PointsOf.walk (P : epitomelaw01_PointsOf.Pure) (a0 : Option Addr) (len0 cap0 : Nat) (z0 : List Int) (w : World) (hT : Tabs w) (w0 : (a0 = none ∧ len0 = 0 ∧ cap0 = 0 ∧ z0 = []) ∨ ∃ x, a0 = some x ∧ len0 ≤ cap0 ∧ cap0 ≤ maxLen ∧ z0.length = cap0 ∧ (∀ i, i < z0.length → w.cell? (x.add i) = some (.int .i32 (z0.getD i 0))) ∧ ∀ n ∈ z0, (Lit.int .i32 n).wf = true) (y0 : len0 * 4 ≤ 140737488351232) :
    Calls Tryd.prog 7 #[.slice a0 len0 cap0] w fun e w' => e = .returned (.bool true) ∧ Below w.heap.size w w' := by
  obtain ⟨l0, rfl, hr0, hm0, hw0, hc0⟩ := ReadsInt.ofRowC w0
  obtain ⟨k, h⟩ := P l0 hm0 y0 hw0
  refine (epitomelaw01_PointsOf.calls k _ _ l0 true w (Kd.C_of_reads (d := (0 : Int)) (h1 := fun _ => rfl) hr0) hc0 hT h rfl).mono ?_
  rintro e w' ⟨rfl, hd⟩
  exact ⟨rfl, hd⟩

end Go.Proofs.YtolljobehfmffaaDoor.P
