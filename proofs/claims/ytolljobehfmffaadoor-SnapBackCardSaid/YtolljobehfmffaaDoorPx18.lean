-- WRITTEN BY A PROGRAM OF THIS SESSION (wip/pp in its repo), made after the kit's print
import Derived.Test.YtolljobehfmffaaDoorPx0
namespace Go.Proofs.YtolljobehfmffaaDoor.P
open Go.RowKit Go.Proofs.YtolljobehfmffaaDoorW.PrintWords Go.Proofs.YtolljobehfmffaaDoorW.PrintLast Go.Proofs.YtolljobehfmffaaDoorW.PrintMore
attribute [local go_sem] max2_int min2_int max_two min_two max_three min_three max_four min_four   -- for this text's walks alone
set_option linter.unusedVariables false
set_option linter.unusedSimpArgs false

/-! ### epitomeref15_Rises: function 43 -/
mutual
def epitomeref15_Rises.j0 : Nat → List Int → Bool → Option (Bool)
  | 0, _, _ => none
  | k + 1, x0, x11 => if x11 = true then (some false) else (epitomeref15_Rises.l0 k x0 0)
def epitomeref15_Rises.l0 : Nat → List Int → Int → Option (Bool)
  | 0, _, _ => none
  | k + 1, x0, x3 => if x3 < (x0.length : Int) then (if 0 ≤ x3 then (if (rd x0 x3) < 0 then (some false) else (if (rd x0 x3) > 268435455 then (some false) else (if x3 > 0 then (if 0 ≤ (wrap64 (x3 - 1)) then (if (wrap64 (x3 - 1)) < (x0.length : Int) then (if (rd x0 x3) ≤ (rd x0 (wrap64 (x3 - 1))) then (some false) else (epitomeref15_Rises.l0 k x0 (wrap64 (x3 + 1)))) else (none)) else (none)) else (epitomeref15_Rises.l0 k x0 (wrap64 (x3 + 1)))))) else (none)) else (some true)
end
def epitomeref15_Rises.f (k : Nat) (l0 : List Int) : Option (Bool) := if (l0.length : Int) = 0 then (epitomeref15_Rises.j0 k l0 true) else (epitomeref15_Rises.j0 k l0 (decide ((l0.length : Int) > 65536)))
theorem epitomeref15_Rises.mono_l : ∀ k, (∀ y0 y1, LeO (epitomeref15_Rises.j0 k y0 y1) (epitomeref15_Rises.j0 (k + 1) y0 y1)) ∧ (∀ y0 y1, LeO (epitomeref15_Rises.l0 k y0 y1) (epitomeref15_Rises.l0 (k + 1) y0 y1))
  | 0 => ⟨fun _ _ r h => by simp [epitomeref15_Rises.j0] at h, fun _ _ r h => by simp [epitomeref15_Rises.l0] at h⟩
  | k + 1 => by
    obtain ⟨ih0, ih1⟩ := epitomeref15_Rises.mono_l k
    refine ⟨?_, ?_⟩
    · intro y0 y1
      unfold epitomeref15_Rises.j0
      repeat' first
      | (with_reducible exact ih0 _ _)
      | (with_reducible exact ih1 _ _)
      | (with_reducible exact LeO.refl _)
      | (with_reducible exact LeO.none _)
      | (with_reducible refine LeO.ite ?_ ?_)
      | (with_reducible refine LeO.bind ?_ (fun _ => ?_))
      | exact ih0 _ _
      | exact ih1 _ _
      | exact LeO.none _
      | refine LeO.ite ?_ ?_
      | refine LeO.bind ?_ (fun _ => ?_)
    · intro y0 y1
      unfold epitomeref15_Rises.l0
      repeat' first
      | (with_reducible exact ih0 _ _)
      | (with_reducible exact ih1 _ _)
      | (with_reducible exact LeO.refl _)
      | (with_reducible exact LeO.none _)
      | (with_reducible refine LeO.ite ?_ ?_)
      | (with_reducible refine LeO.bind ?_ (fun _ => ?_))
      | exact ih0 _ _
      | exact ih1 _ _
      | exact LeO.none _
      | refine LeO.ite ?_ ?_
      | refine LeO.bind ?_ (fun _ => ?_)
theorem epitomeref15_Rises.mono : ∀ a0 k, LeO (epitomeref15_Rises.f k a0) (epitomeref15_Rises.f (k + 1) a0) := by
  intro a0 k
  obtain ⟨ih0, ih1⟩ := epitomeref15_Rises.mono_l k
  unfold epitomeref15_Rises.f
  repeat' first
      | (with_reducible exact ih0 _ _)
      | (with_reducible exact ih1 _ _)
      | (with_reducible exact LeO.refl _)
      | (with_reducible exact LeO.none _)
      | (with_reducible refine LeO.ite ?_ ?_)
      | (with_reducible refine LeO.bind ?_ (fun _ => ?_))
      | exact ih0 _ _
      | exact ih1 _ _
      | exact LeO.none _
      | refine LeO.ite ?_ ?_
      | refine LeO.bind ?_ (fun _ => ?_)
set_option maxHeartbeats 8000000 in
set_option maxRecDepth 100000 in
theorem epitomeref15_Rises.calls (k : Nat) (A0 : Option Addr) (c0 : Nat) (l0 : List Int) (r : Bool) (w : World) (hr0 : Kd.C (Kd.int .i64) w A0 l0.length l0) (hc0 : l0.length ≤ c0) (h : epitomeref15_Rises.f k l0 = some r) :
    Calls Tryd.prog 43 #[.slice A0 l0.length c0] w fun e w' => e = .returned (.bool r) ∧ Drawn0 w w' := by
  have HR0 := Aside0.mk hr0
  have HC0 := Aside0.mk hc0
  clear hr0 hc0
  have H : (if (l0.length : Int) = 0 then (epitomeref15_Rises.j0 k l0 true) else (epitomeref15_Rises.j0 k l0 (decide ((l0.length : Int) > 65536)))) = some r := h
  clear h
  have HC2 := Aside0.mk H
  clear H
  go_enter Tryd.func43, Tryd.ntmps43
  go_upto_region 1 with (fail)
  repeat (go_quiet (fail); go_upto_region 1 with (fail))
  go_cut [11] (fun v11 wc => ∃ (kq : Nat) (x11_1 : Bool), v11 = .bool x11_1 ∧ Aside0 (epitomeref15_Rises.j0 kq l0 x11_1 = some r) ∧ Aside0 (kq ≤ k) ∧ Drawn0 w wc)
  case first =>
    have H := HC2.out
    clear HC2
    by_cases c3 : (l0.length : Int) = 0
    · rw [if_pos c3] at H
      have c3b0 : ((l0.length : Int) == 0) = true := beq_iff_eq.mpr c3
      have c3b1 : ((l0.length : Int) != 0) = false := bne_eq_false_iff_eq.mpr c3
      clear c3
      (first | rw [c3b0] | (simp only [i64_w, i32_w]; rw [c3b0]) | skip)
      have H' := Aside0.mk H
      clear H
      go_wp2
      repeat (go_quiet (fail); try go_wp2)
      go_meet
      case rel => exact ⟨_, (true), (by first | rfl | (simp; done) | (simp [*]; done)), H', ⟨by first | omega | exact Nat.le_refl _⟩, by repeat (first | exact Drawn0.refl _ | apply Drawn0.step)⟩
    · rw [if_neg c3] at H
      have c3b0 : ((l0.length : Int) == 0) = false := beq_eq_false_iff_ne.mpr c3
      have c3b1 : ((l0.length : Int) != 0) = true := bne_iff_ne.mpr c3
      have c3b2 : ¬ (l0 = []) := fun h_ => c3 (by rw [h_]; rfl)
      (first | rw [c3b0] | (simp only [i64_w, i32_w]; rw [c3b0]) | skip)
      have H' := Aside0.mk H
      clear H
      go_wp2
      repeat (go_quiet (fail); try go_wp2)
      go_meet
      case rel => exact ⟨_, (decide ((l0.length : Int) > 65536)), (by first | rfl | (simp; done) | (simp [*]; done)), H', ⟨by first | omega | exact Nat.le_refl _⟩, by repeat (first | exact Drawn0.refl _ | apply Drawn0.step)⟩
  case rest =>
    clear HC2
    try clear p2
    try clear c3
    try clear c3b0
    try clear c3b1
    try clear c3b2
    obtain ⟨kq, x11_1, rfl, HA, HJ1, ⟨mc1, rfl⟩⟩ := hcut
    cases kq with
    | zero => exact absurd HA.out (by simp [epitomeref15_Rises.j0])
    | succ kj1 =>
      have H := HA.out
      clear HA
      simp only [epitomeref15_Rises.j0] at H
      by_cases c4 : x11_1 = true
      · subst c4
        have H1 : (some false) = some r := by rw [if_pos rfl] at H; exact H
        clear H
        have H := H1
        clear H1
        obtain rfl := Option.some.inj H
        simp only [Option.some.injEq, Prod.mk.injEq] at H
        obtain ⟨rfl⟩ := H
        go_wp2
        repeat (go_quiet (fail); try go_wp2)
        go_ret
        exact ⟨by first | rfl | (simp; done) | (simp [*]; done), by repeat (first | exact Drawn0.refl _ | apply Drawn0.step)⟩
      · replace c4 := Bool.eq_false_iff.mpr c4
        subst c4
        have H1 : (epitomeref15_Rises.l0 kj1 l0 0) = some r := by rw [if_neg (show ¬ (false = true) by decide)] at H; exact H
        clear H
        have H := H1
        clear H1
        have H' := Aside0.mk H
        clear H
        go_wp2
        repeat (go_quiet (fail); try go_wp2)
        go_loopg [3] kj1 (fun kq v3 w' => ∃ (x3_2 : Int), v3 = .int .i64 x3_2 ∧ Aside0 (epitomeref15_Rises.l0 kq l0 x3_2 = some r) ∧ Aside0 (kq ≤ kj1) ∧ Drawn0 w w')
        case atStart => exact ⟨(0), (by first | rfl | (simp; done) | (simp [*]; done)), H', ⟨Nat.le_refl _⟩, by repeat (first | exact Drawn0.refl _ | apply Drawn0.step)⟩
        case round =>
          clear H'
          try clear c1
          try clear p2
          try clear c3
          try clear c3b0
          try clear c3b1
          try clear c3b2
          try clear c4
          try clear p2
          obtain ⟨x3_2, rfl, HA, HK2, ⟨m2, rfl⟩⟩ := hrel
          cases gk with
          | zero => exact absurd HA.out (by simp [epitomeref15_Rises.l0])
          | succ k2 =>
            have H := HA.out
            clear HA
            simp only [epitomeref15_Rises.l0] at H
            by_cases c5 : x3_2 < (l0.length : Int)
            · rw [if_pos c5] at H
              have c5b0 : decide (x3_2 < (l0.length : Int)) = true := decide_eq_true c5
              clear c5
              by_cases c6 : 0 ≤ x3_2
              · rw [if_pos c6] at H
                have c6b0 : decide (0 ≤ x3_2) = true := decide_eq_true c6
                clear c6
                by_cases c7 : (rd l0 x3_2) < 0
                · rw [if_pos c7] at H
                  have c7b0 : decide ((rd l0 x3_2) < 0) = true := decide_eq_true c7
                  clear c7
                  obtain rfl := Option.some.inj H
                  simp only [Option.some.injEq, Prod.mk.injEq] at H
                  obtain ⟨rfl⟩ := H
                  have p273 : 0 ≤ (x3_2 : Int) := of_decide_eq_true (by first | (with_reducible assumption) | assumption)
                  have q273 : x3_2 < (l0.length : Int) := of_decide_eq_true (by first | (with_reducible assumption) | assumption)
                  obtain ⟨ad273, e273, hx273_0⟩ := Kd.at_int HR0.out x3_2 p273 q273
                  cases e273
                  replace p273 := eq_true p273
                  replace q273 := eq_true q273
                  go_wp2
                  repeat (go_quiet (fail); try go_wp2)
                  go_ret
                  exact ⟨by first | rfl | (simp; done) | (simp [*]; done), by repeat (first | exact Drawn0.refl _ | apply Drawn0.step)⟩
                · rw [if_neg c7] at H
                  have c7b0 : decide ((rd l0 x3_2) < 0) = false := decide_eq_false c7
                  clear c7
                  by_cases c8 : (rd l0 x3_2) > 268435455
                  · rw [if_pos c8] at H
                    have c8b0 : decide (268435455 < (rd l0 x3_2)) = true := decide_eq_true c8
                    clear c8
                    obtain rfl := Option.some.inj H
                    simp only [Option.some.injEq, Prod.mk.injEq] at H
                    obtain ⟨rfl⟩ := H
                    have p273 : 0 ≤ (x3_2 : Int) := of_decide_eq_true (by first | (with_reducible assumption) | assumption)
                    have q273 : x3_2 < (l0.length : Int) := of_decide_eq_true (by first | (with_reducible assumption) | assumption)
                    obtain ⟨ad273, e273, hx273_0⟩ := Kd.at_int HR0.out x3_2 p273 q273
                    cases e273
                    replace p273 := eq_true p273
                    replace q273 := eq_true q273
                    have p274 : 0 ≤ (x3_2 : Int) := of_decide_eq_true (by first | (with_reducible assumption) | assumption)
                    have q274 : x3_2 < (l0.length : Int) := of_decide_eq_true (by first | (with_reducible assumption) | assumption)
                    obtain ⟨ad274, e274, hx274_0⟩ := Kd.at_int HR0.out x3_2 p274 q274
                    obtain rfl : ad273 = ad274 := (by injection e274)
                    replace p274 := eq_true p274
                    replace q274 := eq_true q274
                    go_wp2
                    repeat (go_quiet (fail); try go_wp2)
                    go_ret
                    exact ⟨by first | rfl | (simp; done) | (simp [*]; done), by repeat (first | exact Drawn0.refl _ | apply Drawn0.step)⟩
                  · rw [if_neg c8] at H
                    have c8b0 : decide (268435455 < (rd l0 x3_2)) = false := decide_eq_false c8
                    clear c8
                    by_cases c9 : x3_2 > 0
                    · rw [if_pos c9] at H
                      have c9b0 : decide (0 < x3_2) = true := decide_eq_true c9
                      clear c9
                      obtain ⟨ji10, hji10⟩ : ∃ j_ : Int, (wrap64 (x3_2 - 1)) = j_ := ⟨_, rfl⟩
                      replace H : (if 0 ≤ (ji10) then (if (ji10) < (l0.length : Int) then (if (rd l0 x3_2) ≤ (rd l0 (ji10)) then (some false) else (epitomeref15_Rises.l0 k2 l0 (wrap64 (x3_2 + 1)))) else (none)) else (none)) = some r := by first | (rw [hji10] at H; exact H) | (simp only [hji10] at H ⊢; exact H)
                      have hji10w : (IntKind.i64.wrap (x3_2 - 1)) = ji10 := (i64_w _).trans hji10
                      by_cases c11 : 0 ≤ (ji10)
                      · rw [if_pos c11] at H
                        have c11b0 : decide (0 ≤ (ji10)) = true := decide_eq_true c11
                        clear c11
                        by_cases c12 : (ji10) < (l0.length : Int)
                        · rw [if_pos c12] at H
                          have c12b0 : decide ((ji10) < (l0.length : Int)) = true := decide_eq_true c12
                          clear c12
                          by_cases c13 : (rd l0 x3_2) ≤ (rd l0 (ji10))
                          · rw [if_pos c13] at H
                            have c13b0 : decide ((rd l0 x3_2) ≤ (rd l0 (ji10))) = true := decide_eq_true c13
                            clear c13
                            obtain rfl := Option.some.inj H
                            simp only [Option.some.injEq, Prod.mk.injEq] at H
                            obtain ⟨rfl⟩ := H
                            have p273 : 0 ≤ (x3_2 : Int) := of_decide_eq_true (by first | (with_reducible assumption) | assumption)
                            have q273 : x3_2 < (l0.length : Int) := of_decide_eq_true (by first | (with_reducible assumption) | assumption)
                            obtain ⟨ad273, e273, hx273_0⟩ := Kd.at_int HR0.out x3_2 p273 q273
                            cases e273
                            replace p273 := eq_true p273
                            replace q273 := eq_true q273
                            have p274 : 0 ≤ (x3_2 : Int) := of_decide_eq_true (by first | (with_reducible assumption) | assumption)
                            have q274 : x3_2 < (l0.length : Int) := of_decide_eq_true (by first | (with_reducible assumption) | assumption)
                            obtain ⟨ad274, e274, hx274_0⟩ := Kd.at_int HR0.out x3_2 p274 q274
                            obtain rfl : ad273 = ad274 := (by injection e274)
                            replace p274 := eq_true p274
                            replace q274 := eq_true q274
                            have p275 : 0 ≤ (x3_2 : Int) := of_decide_eq_true (by first | (with_reducible assumption) | assumption)
                            have q275 : x3_2 < (l0.length : Int) := of_decide_eq_true (by first | (with_reducible assumption) | assumption)
                            obtain ⟨ad275, e275, hx275_0⟩ := Kd.at_int HR0.out x3_2 p275 q275
                            obtain rfl : ad273 = ad275 := (by injection e275)
                            replace p275 := eq_true p275
                            replace q275 := eq_true q275
                            have p276 : 0 ≤ ((ji10) : Int) := of_decide_eq_true (by first | (with_reducible assumption) | assumption)
                            have q276 : (ji10) < (l0.length : Int) := of_decide_eq_true (by first | (with_reducible assumption) | assumption)
                            obtain ⟨ad276, e276, hx276_0⟩ := Kd.at_int HR0.out (ji10) p276 q276
                            obtain rfl : ad273 = ad276 := (by injection e276)
                            replace p276 := eq_true p276
                            replace q276 := eq_true q276
                            go_wp2
                            repeat (go_quiet (fail); try go_wp2)
                            go_ret
                            exact ⟨by first | rfl | (simp; done) | (simp only [← hji10] <;> (first | rfl | simp)) | (simp [*]; done), by repeat (first | exact Drawn0.refl _ | apply Drawn0.step)⟩
                          · rw [if_neg c13] at H
                            have c13b0 : decide ((rd l0 x3_2) ≤ (rd l0 (ji10))) = false := decide_eq_false c13
                            clear c13
                            have H' := Aside0.mk H
                            clear H
                            have p273 : 0 ≤ (x3_2 : Int) := of_decide_eq_true (by first | (with_reducible assumption) | assumption)
                            have q273 : x3_2 < (l0.length : Int) := of_decide_eq_true (by first | (with_reducible assumption) | assumption)
                            obtain ⟨ad273, e273, hx273_0⟩ := Kd.at_int HR0.out x3_2 p273 q273
                            cases e273
                            replace p273 := eq_true p273
                            replace q273 := eq_true q273
                            have p274 : 0 ≤ (x3_2 : Int) := of_decide_eq_true (by first | (with_reducible assumption) | assumption)
                            have q274 : x3_2 < (l0.length : Int) := of_decide_eq_true (by first | (with_reducible assumption) | assumption)
                            obtain ⟨ad274, e274, hx274_0⟩ := Kd.at_int HR0.out x3_2 p274 q274
                            obtain rfl : ad273 = ad274 := (by injection e274)
                            replace p274 := eq_true p274
                            replace q274 := eq_true q274
                            have p275 : 0 ≤ (x3_2 : Int) := of_decide_eq_true (by first | (with_reducible assumption) | assumption)
                            have q275 : x3_2 < (l0.length : Int) := of_decide_eq_true (by first | (with_reducible assumption) | assumption)
                            obtain ⟨ad275, e275, hx275_0⟩ := Kd.at_int HR0.out x3_2 p275 q275
                            obtain rfl : ad273 = ad275 := (by injection e275)
                            replace p275 := eq_true p275
                            replace q275 := eq_true q275
                            have p276 : 0 ≤ ((ji10) : Int) := of_decide_eq_true (by first | (with_reducible assumption) | assumption)
                            have q276 : (ji10) < (l0.length : Int) := of_decide_eq_true (by first | (with_reducible assumption) | assumption)
                            obtain ⟨ad276, e276, hx276_0⟩ := Kd.at_int HR0.out (ji10) p276 q276
                            obtain rfl : ad273 = ad276 := (by injection e276)
                            replace p276 := eq_true p276
                            replace q276 := eq_true q276
                            go_wp2
                            repeat (go_quiet (fail); try go_wp2)
                            go_roundg k2
                            case measure => have := HJ1.out; have := HK2.out; omega
                            case rel => exact ⟨(wrap64 (x3_2 + 1)), (by first | rfl | (simp; done) | (simp [*]; done)), H', ⟨by have := HJ1.out; have := HK2.out; omega⟩, by repeat (first | exact Drawn0.refl _ | apply Drawn0.step)⟩
                        · rw [if_neg c12] at H
                          exact absurd H (by simp)
                      · rw [if_neg c11] at H
                        exact absurd H (by simp)
                    · rw [if_neg c9] at H
                      have c9b0 : decide (0 < x3_2) = false := decide_eq_false c9
                      clear c9
                      have H' := Aside0.mk H
                      clear H
                      have p273 : 0 ≤ (x3_2 : Int) := of_decide_eq_true (by first | (with_reducible assumption) | assumption)
                      have q273 : x3_2 < (l0.length : Int) := of_decide_eq_true (by first | (with_reducible assumption) | assumption)
                      obtain ⟨ad273, e273, hx273_0⟩ := Kd.at_int HR0.out x3_2 p273 q273
                      cases e273
                      replace p273 := eq_true p273
                      replace q273 := eq_true q273
                      have p274 : 0 ≤ (x3_2 : Int) := of_decide_eq_true (by first | (with_reducible assumption) | assumption)
                      have q274 : x3_2 < (l0.length : Int) := of_decide_eq_true (by first | (with_reducible assumption) | assumption)
                      obtain ⟨ad274, e274, hx274_0⟩ := Kd.at_int HR0.out x3_2 p274 q274
                      obtain rfl : ad273 = ad274 := (by injection e274)
                      replace p274 := eq_true p274
                      replace q274 := eq_true q274
                      go_wp2
                      repeat (go_quiet (fail); try go_wp2)
                      go_roundg k2
                      case measure => have := HJ1.out; have := HK2.out; omega
                      case rel => exact ⟨(wrap64 (x3_2 + 1)), (by first | rfl | (simp; done) | (simp [*]; done)), H', ⟨by have := HJ1.out; have := HK2.out; omega⟩, by repeat (first | exact Drawn0.refl _ | apply Drawn0.step)⟩
              · rw [if_neg c6] at H
                exact absurd H (by simp)
            · rw [if_neg c5] at H
              have c5b0 : decide (x3_2 < (l0.length : Int)) = false := decide_eq_false c5
              clear c5
              obtain rfl := Option.some.inj H
              simp only [Option.some.injEq, Prod.mk.injEq] at H
              obtain ⟨rfl⟩ := H
              go_wp2
              repeat (go_quiet (fail); try go_wp2)
              go_ret
              exact ⟨by first | rfl | (simp; done) | (simp [*]; done), by repeat (first | exact Drawn0.refl _ | apply Drawn0.step)⟩

end Go.Proofs.YtolljobehfmffaaDoor.P
