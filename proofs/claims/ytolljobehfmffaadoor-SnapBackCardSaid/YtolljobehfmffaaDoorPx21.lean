-- WRITTEN BY A PROGRAM OF THIS SESSION (wip/pp in its repo), made after the kit's print
import Derived.Test.YtolljobehfmffaaDoorPx0
namespace Go.Proofs.YtolljobehfmffaaDoor.P
open Go.RowKit Go.Proofs.YtolljobehfmffaaDoorW.PrintWords Go.Proofs.YtolljobehfmffaaDoorW.PrintLast Go.Proofs.YtolljobehfmffaaDoorW.PrintMore
attribute [local go_sem] max2_int min2_int max_two min_two max_three min_three max_four min_four   -- for this text's walks alone
set_option linter.unusedVariables false
set_option linter.unusedSimpArgs false

/-! ### epitomeref02_Take: function 46 -/
mutual
def epitomeref02_Take.j1 : Nat → List Int → Int → Option (Int × Int × Int)
  | 0, _, _ => none
  | k + 1, x0, x5 => if x5 = 4 then (some (0, 0, 8)) else (if x5 = (x0.length : Int) then (some (0, 0, 7)) else (if x5 > 0 then (if 0 ≤ x5 then (if x5 < (x0.length : Int) then (epitomeref02_Take.j2 k x0 x5 ((rd x0 x5) == 0)) else (none)) else (none)) else (epitomeref02_Take.j2 k x0 x5 false)))
def epitomeref02_Take.j2 : Nat → List Int → Int → Bool → Option (Int × Int × Int)
  | 0, _, _, _ => none
  | k + 1, x0, x5, x39 => if x39 = true then (some (0, 0, 8)) else (if 0 ≤ x5 then (if x5 < (x0.length : Int) then (epitomeref02_Take.l1 k x0 x5 (wrap64 (rd x0 x5)) (wrap64 (x5 - 1))) else (none)) else (none))
def epitomeref02_Take.l1 : Nat → List Int → Int → Int → Int → Option (Int × Int × Int)
  | 0, _, _, _, _ => none
  | k + 1, x0, x5, x6, x7 => if x7 ≥ 0 then (if 0 ≤ x7 then (if x7 < (x0.length : Int) then (epitomeref02_Take.l1 k x0 x5 (wrap64 ((wrap64 ((wrap64 (x6 * 128)) + (wrap64 (rd x0 x7)))) - 128)) (wrap64 (x7 - 1))) else (none)) else (none)) else (some (x6, wrap64 (x5 + 1), 0))
def epitomeref02_Take.l0 : Nat → List Int → Int → Option (Int × Int × Int)
  | 0, _, _ => none
  | k + 1, x0, x5 => if x5 < (x0.length : Int) then (if x5 < 4 then (if 0 ≤ x5 then (if (rd x0 x5) > 127 then (epitomeref02_Take.l0 k x0 (wrap64 (x5 + 1))) else (epitomeref02_Take.j1 k x0 x5)) else (none)) else (epitomeref02_Take.j1 k x0 x5)) else (epitomeref02_Take.j1 k x0 x5)
end
def epitomeref02_Take.f (k : Nat) (l0 : List Int) : Option (Int × Int × Int) := epitomeref02_Take.l0 k l0 0
theorem epitomeref02_Take.mono_l : ∀ k, (∀ y0 y1, LeO (epitomeref02_Take.j1 k y0 y1) (epitomeref02_Take.j1 (k + 1) y0 y1)) ∧ (∀ y0 y1 y2, LeO (epitomeref02_Take.j2 k y0 y1 y2) (epitomeref02_Take.j2 (k + 1) y0 y1 y2)) ∧ (∀ y0 y1 y2 y3, LeO (epitomeref02_Take.l1 k y0 y1 y2 y3) (epitomeref02_Take.l1 (k + 1) y0 y1 y2 y3)) ∧ (∀ y0 y1, LeO (epitomeref02_Take.l0 k y0 y1) (epitomeref02_Take.l0 (k + 1) y0 y1))
  | 0 => ⟨fun _ _ r h => by simp [epitomeref02_Take.j1] at h, fun _ _ _ r h => by simp [epitomeref02_Take.j2] at h, fun _ _ _ _ r h => by simp [epitomeref02_Take.l1] at h, fun _ _ r h => by simp [epitomeref02_Take.l0] at h⟩
  | k + 1 => by
    obtain ⟨ih0, ih1, ih2, ih3⟩ := epitomeref02_Take.mono_l k
    refine ⟨?_, ?_, ?_, ?_⟩
    · intro y0 y1
      unfold epitomeref02_Take.j1
      repeat' first
      | (with_reducible exact ih0 _ _)
      | (with_reducible exact ih1 _ _ _)
      | (with_reducible exact ih2 _ _ _ _)
      | (with_reducible exact ih3 _ _)
      | (with_reducible exact LeO.refl _)
      | (with_reducible exact LeO.none _)
      | (with_reducible refine LeO.ite ?_ ?_)
      | (with_reducible refine LeO.bind ?_ (fun _ => ?_))
      | exact ih0 _ _
      | exact ih1 _ _ _
      | exact ih2 _ _ _ _
      | exact ih3 _ _
      | exact LeO.none _
      | refine LeO.ite ?_ ?_
      | refine LeO.bind ?_ (fun _ => ?_)
    · intro y0 y1 y2
      unfold epitomeref02_Take.j2
      repeat' first
      | (with_reducible exact ih0 _ _)
      | (with_reducible exact ih1 _ _ _)
      | (with_reducible exact ih2 _ _ _ _)
      | (with_reducible exact ih3 _ _)
      | (with_reducible exact LeO.refl _)
      | (with_reducible exact LeO.none _)
      | (with_reducible refine LeO.ite ?_ ?_)
      | (with_reducible refine LeO.bind ?_ (fun _ => ?_))
      | exact ih0 _ _
      | exact ih1 _ _ _
      | exact ih2 _ _ _ _
      | exact ih3 _ _
      | exact LeO.none _
      | refine LeO.ite ?_ ?_
      | refine LeO.bind ?_ (fun _ => ?_)
    · intro y0 y1 y2 y3
      unfold epitomeref02_Take.l1
      repeat' first
      | (with_reducible exact ih0 _ _)
      | (with_reducible exact ih1 _ _ _)
      | (with_reducible exact ih2 _ _ _ _)
      | (with_reducible exact ih3 _ _)
      | (with_reducible exact LeO.refl _)
      | (with_reducible exact LeO.none _)
      | (with_reducible refine LeO.ite ?_ ?_)
      | (with_reducible refine LeO.bind ?_ (fun _ => ?_))
      | exact ih0 _ _
      | exact ih1 _ _ _
      | exact ih2 _ _ _ _
      | exact ih3 _ _
      | exact LeO.none _
      | refine LeO.ite ?_ ?_
      | refine LeO.bind ?_ (fun _ => ?_)
    · intro y0 y1
      unfold epitomeref02_Take.l0
      repeat' first
      | (with_reducible exact ih0 _ _)
      | (with_reducible exact ih1 _ _ _)
      | (with_reducible exact ih2 _ _ _ _)
      | (with_reducible exact ih3 _ _)
      | (with_reducible exact LeO.refl _)
      | (with_reducible exact LeO.none _)
      | (with_reducible refine LeO.ite ?_ ?_)
      | (with_reducible refine LeO.bind ?_ (fun _ => ?_))
      | exact ih0 _ _
      | exact ih1 _ _ _
      | exact ih2 _ _ _ _
      | exact ih3 _ _
      | exact LeO.none _
      | refine LeO.ite ?_ ?_
      | refine LeO.bind ?_ (fun _ => ?_)
theorem epitomeref02_Take.mono : ∀ a0 k, LeO (epitomeref02_Take.f k a0) (epitomeref02_Take.f (k + 1) a0) := by
  intro a0 k
  obtain ⟨ih0, ih1, ih2, ih3⟩ := epitomeref02_Take.mono_l k
  unfold epitomeref02_Take.f
  repeat' first
      | (with_reducible exact ih0 _ _)
      | (with_reducible exact ih1 _ _ _)
      | (with_reducible exact ih2 _ _ _ _)
      | (with_reducible exact ih3 _ _)
      | (with_reducible exact LeO.refl _)
      | (with_reducible exact LeO.none _)
      | (with_reducible refine LeO.ite ?_ ?_)
      | (with_reducible refine LeO.bind ?_ (fun _ => ?_))
      | exact ih0 _ _
      | exact ih1 _ _ _
      | exact ih2 _ _ _ _
      | exact ih3 _ _
      | exact LeO.none _
      | refine LeO.ite ?_ ?_
      | refine LeO.bind ?_ (fun _ => ?_)
set_option maxHeartbeats 8000000 in
set_option maxRecDepth 100000 in
theorem epitomeref02_Take.calls (k : Nat) (A0 : Option Addr) (c0 : Nat) (l0 : List Int) (r1 : Int) (r2 : Int) (r3 : Int) (w : World) (hr0 : Kd.C (Kd.int .u8) w A0 l0.length l0) (hc0 : l0.length ≤ c0) (h : epitomeref02_Take.f k l0 = some (r1, r2, r3)) :
    Calls Tryd.prog 46 #[.slice A0 l0.length c0] w fun e w' => e = .returned (.tuple #[.int .i64 r1, .int .i64 r2, .int .i64 r3]) ∧ Drawn0 w w' := by
  have HR0 := Aside0.mk hr0
  have HC0 := Aside0.mk hc0
  clear hr0 hc0
  have H : (epitomeref02_Take.l0 k l0 0) = some (r1, r2, r3) := h
  clear h
  have HC2 := Aside0.mk H
  clear H
  go_enter Tryd.func46, Tryd.ntmps46
  go_upto_block 0 with (fail)
  go_cut [5] (fun v5 wc => ∃ (kq : Nat) (x5_1 : Int), v5 = .int .i64 x5_1 ∧ Aside0 (epitomeref02_Take.j1 kq l0 x5_1 = some (r1, r2, r3)) ∧ Aside0 (kq ≤ k) ∧ Drawn0 w wc)
  case first =>
    have H := HC2.out
    clear HC2
    have H' := Aside0.mk H
    clear H
    go_wp2
    go_loopg [5] k (fun kq v5 w' => ∃ (x5_1 : Int), v5 = .int .i64 x5_1 ∧ Aside0 (epitomeref02_Take.l0 kq l0 x5_1 = some (r1, r2, r3)) ∧ Aside0 (kq ≤ k) ∧ Drawn0 w w')
    case atStart => exact ⟨(0), (by first | rfl | (simp; done) | (simp [*]; done)), H', ⟨Nat.le_refl _⟩, by repeat (first | exact Drawn0.refl _ | apply Drawn0.step)⟩
    case round =>
      clear H'
      try clear p2
      obtain ⟨x5_1, rfl, HA, HK1, ⟨m1, rfl⟩⟩ := hrel
      cases gk with
      | zero => exact absurd HA.out (by simp [epitomeref02_Take.l0])
      | succ k1 =>
        have H := HA.out
        clear HA
        simp only [epitomeref02_Take.l0] at H
        by_cases c3 : x5_1 < (l0.length : Int)
        · rw [if_pos c3] at H
          have c3b0 : decide (x5_1 < (l0.length : Int)) = true := decide_eq_true c3
          clear c3
          (first | rw [c3b0] | (simp only [i64_w, i32_w]; rw [c3b0]) | skip)
          by_cases c4 : x5_1 < 4
          · rw [if_pos c4] at H
            have c4b0 : decide (x5_1 < 4) = true := decide_eq_true c4
            clear c4
            by_cases c5 : 0 ≤ x5_1
            · rw [if_pos c5] at H
              have c5b0 : decide (0 ≤ x5_1) = true := decide_eq_true c5
              clear c5
              by_cases c6 : (rd l0 x5_1) > 127
              · rw [if_pos c6] at H
                have c6b0 : decide (127 < (rd l0 x5_1)) = true := decide_eq_true c6
                clear c6
                have H' := Aside0.mk H
                clear H
                have p305 : 0 ≤ (x5_1 : Int) := of_decide_eq_true (by first | (with_reducible assumption) | assumption)
                have q305 : x5_1 < (l0.length : Int) := of_decide_eq_true (by first | (with_reducible assumption) | assumption)
                obtain ⟨ad305, e305, hx305_0⟩ := Kd.at_int HR0.out x5_1 p305 q305
                cases e305
                replace p305 := eq_true p305
                replace q305 := eq_true q305
                go_wp2
                go_roundg k1
                case measure => have := HK1.out; omega
                case rel => exact ⟨(wrap64 (x5_1 + 1)), (by first | rfl | (simp; done) | (simp [*]; done)), H', ⟨by have := HK1.out; omega⟩, by repeat (first | exact Drawn0.refl _ | apply Drawn0.step)⟩
              · rw [if_neg c6] at H
                have c6b0 : decide (127 < (rd l0 x5_1)) = false := decide_eq_false c6
                clear c6
                have H' := Aside0.mk H
                clear H
                have p305 : 0 ≤ (x5_1 : Int) := of_decide_eq_true (by first | (with_reducible assumption) | assumption)
                have q305 : x5_1 < (l0.length : Int) := of_decide_eq_true (by first | (with_reducible assumption) | assumption)
                obtain ⟨ad305, e305, hx305_0⟩ := Kd.at_int HR0.out x5_1 p305 q305
                cases e305
                replace p305 := eq_true p305
                replace q305 := eq_true q305
                go_wp2
                go_meet
                case rel => exact ⟨_, (x5_1), (by first | rfl | (simp; done) | (simp [*]; done)), H', ⟨by have := HK1.out; first | omega | exact Nat.le_refl _⟩, by repeat (first | exact Drawn0.refl _ | apply Drawn0.step)⟩
            · rw [if_neg c5] at H
              exact absurd H (by simp)
          · rw [if_neg c4] at H
            have c4b0 : decide (x5_1 < 4) = false := decide_eq_false c4
            clear c4
            have H' := Aside0.mk H
            clear H
            go_wp2
            go_meet
            case rel => exact ⟨_, (x5_1), (by first | rfl | (simp; done) | (simp [*]; done)), H', ⟨by have := HK1.out; first | omega | exact Nat.le_refl _⟩, by repeat (first | exact Drawn0.refl _ | apply Drawn0.step)⟩
        · rw [if_neg c3] at H
          have c3b0 : decide (x5_1 < (l0.length : Int)) = false := decide_eq_false c3
          clear c3
          (first | rw [c3b0] | (simp only [i64_w, i32_w]; rw [c3b0]) | skip)
          have H' := Aside0.mk H
          clear H
          go_wp2
          go_meet
          case rel => exact ⟨_, (x5_1), (by first | rfl | (simp; done) | (simp [*]; done)), H', ⟨by have := HK1.out; first | omega | exact Nat.le_refl _⟩, by repeat (first | exact Drawn0.refl _ | apply Drawn0.step)⟩
  case rest =>
    clear HC2
    try clear p2
    try clear c3
    try clear c3b0
    try clear p3
    try clear q3
    try clear hx3
    try clear c4
    try clear c4b0
    try clear c5
    try clear c5b0
    try clear c6
    try clear c6b0
    try clear p6
    try clear hx305_0
    try clear p2
    try clear p305
    try clear q305
    obtain ⟨kq, x5_1, rfl, HA, HJ1, ⟨mc1, rfl⟩⟩ := hcut
    cases kq with
    | zero => exact absurd HA.out (by simp [epitomeref02_Take.j1])
    | succ kj1 =>
      have H := HA.out
      clear HA
      simp only [epitomeref02_Take.j1] at H
      by_cases c7 : x5_1 = 4
      · rw [if_pos c7] at H
        have c7b0 : (x5_1 == 4) = true := beq_iff_eq.mpr c7
        have c7b1 : (x5_1 != 4) = false := bne_eq_false_iff_eq.mpr c7
        clear c7
        simp only [Option.some.injEq, Prod.mk.injEq] at H
        obtain ⟨rfl, rfl, rfl⟩ := H
        go_wp2
        go_ret3
        exact ⟨by first | rfl | (simp; done) | (simp [*]; done), by repeat (first | exact Drawn0.refl _ | apply Drawn0.step)⟩
      · rw [if_neg c7] at H
        have c7b0 : (x5_1 == 4) = false := beq_eq_false_iff_ne.mpr c7
        have c7b1 : (x5_1 != 4) = true := bne_iff_ne.mpr c7
        by_cases c8 : x5_1 = (l0.length : Int)
        · rw [if_pos c8] at H
          have c8b0 : (x5_1 == (l0.length : Int)) = true := beq_iff_eq.mpr c8
          have c8b1 : (x5_1 != (l0.length : Int)) = false := bne_eq_false_iff_eq.mpr c8
          clear c8
          simp only [Option.some.injEq, Prod.mk.injEq] at H
          obtain ⟨rfl, rfl, rfl⟩ := H
          go_wp2
          go_ret3
          exact ⟨by first | rfl | (simp; done) | (simp [*]; done), by repeat (first | exact Drawn0.refl _ | apply Drawn0.step)⟩
        · rw [if_neg c8] at H
          have c8b0 : (x5_1 == (l0.length : Int)) = false := beq_eq_false_iff_ne.mpr c8
          have c8b1 : (x5_1 != (l0.length : Int)) = true := bne_iff_ne.mpr c8
          have HC9 := Aside0.mk H
          clear H
          go_upto_region 8 with (fail)
          go_cut [39] (fun v39 wc => ∃ (kq : Nat) (x39_8 : Bool), v39 = .bool x39_8 ∧ Aside0 (epitomeref02_Take.j2 kq l0 x5_1 x39_8 = some (r1, r2, r3)) ∧ Aside0 (kq ≤ kj1) ∧ Drawn0 w wc)
          case first =>
            have H := HC9.out
            clear HC9
            by_cases c10 : x5_1 > 0
            · rw [if_pos c10] at H
              have c10b0 : decide (0 < x5_1) = true := decide_eq_true c10
              clear c10
              (first | rw [c10b0] | (simp only [i64_w, i32_w]; rw [c10b0]) | skip)
              by_cases c11 : 0 ≤ x5_1
              · rw [if_pos c11] at H
                have c11b0 : decide (0 ≤ x5_1) = true := decide_eq_true c11
                clear c11
                by_cases c12 : x5_1 < (l0.length : Int)
                · rw [if_pos c12] at H
                  have c12b0 : decide (x5_1 < (l0.length : Int)) = true := decide_eq_true c12
                  clear c12
                  have H' := Aside0.mk H
                  clear H
                  have p306 : 0 ≤ (x5_1 : Int) := of_decide_eq_true (by first | (with_reducible assumption) | assumption)
                  have q306 : x5_1 < (l0.length : Int) := of_decide_eq_true (by first | (with_reducible assumption) | assumption)
                  obtain ⟨ad306, e306, hx306_0⟩ := Kd.at_int HR0.out x5_1 p306 q306
                  cases e306
                  replace p306 := eq_true p306
                  replace q306 := eq_true q306
                  go_wp2
                  go_meet
                  case rel => exact ⟨_, (((rd l0 x5_1) == 0)), (by first | rfl | (simp; done) | (simp [*]; done)), H', ⟨by have := HJ1.out; first | omega | exact Nat.le_refl _⟩, by repeat (first | exact Drawn0.refl _ | apply Drawn0.step)⟩
                · rw [if_neg c12] at H
                  exact absurd H (by simp)
              · rw [if_neg c11] at H
                exact absurd H (by simp)
            · rw [if_neg c10] at H
              have c10b0 : decide (0 < x5_1) = false := decide_eq_false c10
              clear c10
              (first | rw [c10b0] | (simp only [i64_w, i32_w]; rw [c10b0]) | skip)
              have H' := Aside0.mk H
              clear H
              go_wp2
              go_meet
              case rel => exact ⟨_, (false), (by first | rfl | (simp; done) | (simp [*]; done)), H', ⟨by have := HJ1.out; first | omega | exact Nat.le_refl _⟩, by repeat (first | exact Drawn0.refl _ | apply Drawn0.step)⟩
          case rest =>
            clear HC9
            try clear c1
            try clear p2
            try clear c3
            try clear c3b0
            try clear p3
            try clear q3
            try clear hx3
            try clear c4
            try clear c4b0
            try clear c5
            try clear c5b0
            try clear c6
            try clear c6b0
            try clear p6
            try clear c7
            try clear c7b0
            try clear c7b1
            try clear c8
            try clear c8b0
            try clear c8b1
            try clear c10
            try clear c10b0
            try clear c11
            try clear c11b0
            try clear c12
            try clear c12b0
            try clear hx305_0
            try clear hx306_0
            try clear p2
            try clear p3
            try clear p305
            try clear p306
            try clear p6
            try clear q3
            try clear q305
            try clear q306
            obtain ⟨kq, x39_8, rfl, HA, HJ8, ⟨mc8, rfl⟩⟩ := hcut
            cases kq with
            | zero => exact absurd HA.out (by simp [epitomeref02_Take.j2])
            | succ kj8 =>
              have H := HA.out
              clear HA
              simp only [epitomeref02_Take.j2] at H
              by_cases c13 : x39_8 = true
              · subst c13
                have H1 : (some (0, 0, 8)) = some (r1, r2, r3) := by rw [if_pos rfl] at H; exact H
                clear H
                have H := H1
                clear H1
                simp only [Option.some.injEq, Prod.mk.injEq] at H
                obtain ⟨rfl, rfl, rfl⟩ := H
                go_wp2
                go_ret3
                exact ⟨by first | rfl | (simp; done) | (simp [*]; done), by repeat (first | exact Drawn0.refl _ | apply Drawn0.step)⟩
              · replace c13 := Bool.eq_false_iff.mpr c13
                subst c13
                have H1 : (if 0 ≤ x5_1 then (if x5_1 < (l0.length : Int) then (epitomeref02_Take.l1 kj8 l0 x5_1 (wrap64 (rd l0 x5_1)) (wrap64 (x5_1 - 1))) else (none)) else (none)) = some (r1, r2, r3) := by rw [if_neg (show ¬ (false = true) by decide)] at H; exact H
                clear H
                have H := H1
                clear H1
                by_cases c14 : 0 ≤ x5_1
                · rw [if_pos c14] at H
                  have c14b0 : decide (0 ≤ x5_1) = true := decide_eq_true c14
                  clear c14
                  by_cases c15 : x5_1 < (l0.length : Int)
                  · rw [if_pos c15] at H
                    have c15b0 : decide (x5_1 < (l0.length : Int)) = true := decide_eq_true c15
                    clear c15
                    have H' := Aside0.mk H
                    clear H
                    have p307 : 0 ≤ (x5_1 : Int) := of_decide_eq_true (by first | (with_reducible assumption) | assumption)
                    have q307 : x5_1 < (l0.length : Int) := of_decide_eq_true (by first | (with_reducible assumption) | assumption)
                    obtain ⟨ad307, e307, hx307_0⟩ := Kd.at_int HR0.out x5_1 p307 q307
                    cases e307
                    replace p307 := eq_true p307
                    replace q307 := eq_true q307
                    go_wp2
                    go_loopg [6, 7] kj8 (fun kq v6 v7 w' => ∃ (x6_3 : Int) (x7_3 : Int), v6 = .int .i64 x6_3 ∧ v7 = .int .i64 x7_3 ∧ Aside0 (epitomeref02_Take.l1 kq l0 x5_1 x6_3 x7_3 = some (r1, r2, r3)) ∧ Aside0 (kq ≤ kj8) ∧ Drawn0 w w')
                    case atStart => exact ⟨(wrap64 (rd l0 x5_1)), (wrap64 (x5_1 - 1)), (by first | rfl | (simp; done) | (simp [*]; done)), (by first | rfl | (simp; done) | (simp [*]; done)), H', ⟨Nat.le_refl _⟩, by repeat (first | exact Drawn0.refl _ | apply Drawn0.step)⟩
                    case round =>
                      clear H'
                      try clear c1
                      try clear p2
                      try clear c3
                      try clear c3b0
                      try clear p3
                      try clear q3
                      try clear hx3
                      try clear c4
                      try clear c4b0
                      try clear c5
                      try clear c5b0
                      try clear c6
                      try clear c6b0
                      try clear p6
                      try clear c7
                      try clear c7b0
                      try clear c7b1
                      try clear c8
                      try clear c8b0
                      try clear c8b1
                      try clear c10
                      try clear c10b0
                      try clear c11
                      try clear c11b0
                      try clear c12
                      try clear c12b0
                      try clear c13
                      try clear c14
                      try clear c14b0
                      try clear c15
                      try clear c15b0
                      try clear hx305_0
                      try clear hx306_0
                      try clear hx307_0
                      try clear p2
                      try clear p3
                      try clear p305
                      try clear p306
                      try clear p307
                      try clear p6
                      try clear q3
                      try clear q305
                      try clear q306
                      try clear q307
                      obtain ⟨x6_3, x7_3, rfl, rfl, HA, HK3, ⟨m3, rfl⟩⟩ := hrel
                      cases gk with
                      | zero => exact absurd HA.out (by simp [epitomeref02_Take.l1])
                      | succ k3 =>
                        have H := HA.out
                        clear HA
                        simp only [epitomeref02_Take.l1] at H
                        by_cases c16 : x7_3 ≥ 0
                        · rw [if_pos c16] at H
                          have c16b0 : decide (0 ≤ x7_3) = true := decide_eq_true c16
                          clear c16
                          by_cases c17 : 0 ≤ x7_3
                          · rw [if_pos c17] at H
                            have c17b0 : decide (0 ≤ x7_3) = true := decide_eq_true c17
                            clear c17
                            by_cases c18 : x7_3 < (l0.length : Int)
                            · rw [if_pos c18] at H
                              have c18b0 : decide (x7_3 < (l0.length : Int)) = true := decide_eq_true c18
                              clear c18
                              have H' := Aside0.mk H
                              clear H
                              have p308 : 0 ≤ (x7_3 : Int) := of_decide_eq_true (by first | (with_reducible assumption) | assumption)
                              have q308 : x7_3 < (l0.length : Int) := of_decide_eq_true (by first | (with_reducible assumption) | assumption)
                              obtain ⟨ad308, e308, hx308_0⟩ := Kd.at_int HR0.out x7_3 p308 q308
                              obtain rfl : ad307 = ad308 := (by injection e308)
                              replace p308 := eq_true p308
                              replace q308 := eq_true q308
                              go_wp2
                              go_roundg k3
                              case measure => have := HJ1.out; have := HJ8.out; have := HK3.out; omega
                              case rel => exact ⟨(wrap64 ((wrap64 ((wrap64 (x6_3 * 128)) + (wrap64 (rd l0 x7_3)))) - 128)), (wrap64 (x7_3 - 1)), (by first | rfl | (simp; done) | (simp [*]; done)), (by first | rfl | (simp; done) | (simp [*]; done)), H', ⟨by have := HJ1.out; have := HJ8.out; have := HK3.out; omega⟩, by repeat (first | exact Drawn0.refl _ | apply Drawn0.step)⟩
                            · rw [if_neg c18] at H
                              exact absurd H (by simp)
                          · rw [if_neg c17] at H
                            exact absurd H (by simp)
                        · rw [if_neg c16] at H
                          have c16b0 : decide (0 ≤ x7_3) = false := decide_eq_false c16
                          clear c16
                          simp only [Option.some.injEq, Prod.mk.injEq] at H
                          obtain ⟨rfl, rfl, rfl⟩ := H
                          go_wp2
                          go_ret3
                          exact ⟨by first | rfl | (simp; done) | (simp [*]; done), by repeat (first | exact Drawn0.refl _ | apply Drawn0.step)⟩
                  · rw [if_neg c15] at H
                    exact absurd H (by simp)
                · rw [if_neg c14] at H
                  exact absurd H (by simp)

end Go.Proofs.YtolljobehfmffaaDoor.P
