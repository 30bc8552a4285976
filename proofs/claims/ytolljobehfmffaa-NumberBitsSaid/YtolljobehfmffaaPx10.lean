-- WRITTEN BY A PROGRAM OF THIS SESSION (wip/pp in its repo), made after the kit's print
import Derived.Test.YtolljobehfmffaaPx0
import Derived.Test.YtolljobehfmffaaPx1
import Derived.Test.YtolljobehfmffaaPx2
namespace Go.Proofs.Ytolljobehfmffaa.P
open Go.RowKit Go.Proofs.YtolljobehfmffaaW.PrintWords Go.Proofs.YtolljobehfmffaaW.PrintLast Go.Proofs.YtolljobehfmffaaW.PrintMore
attribute [local go_sem] max2_int min2_int max_two min_two max_three min_three max_four min_four   -- for this text's walks alone
set_option linter.unusedVariables false
set_option linter.unusedSimpArgs false

/-! ### epitomelaw02_NumberBits: function 8 -/
def epitomelaw02_NumberBits.j0 : Nat → Bool → Int → List Int → Bool → Option (Bool)
  | 0, _, _, _, _ => none
  | k + 1, x3, x4, x5, x43 => if x43 = true then (some false) else (if x4 < 128 then (if x3 = true then (some ((x5.length : Int) == 1)) else (some false)) else ((number_Put.f (wrap64 (Int.tdiv x4 128))).bind fun bt254 => (if x3 = true then (if bt254.2 = 0 then (if 1 ≤ (x5.length : Int) then (some ((strOfNums (x5.drop 1)).toList == (strOfNums bt254.1).toList)) else (none)) else (some false)) else (some false))))
def epitomelaw02_NumberBits.f (k : Nat) (a0 : Int) : Option (Bool) := (epitomelaw02_shown.f k).bind fun t247 => ((number_Put.f (Go.bits .and .i64 (wrap64 (a0)) 268435455)).bind fun bt248 => (if bt248.2 = 0 then (if (bt248.1.length : Int) = 0 then (epitomelaw02_NumberBits.j0 k t247 (Go.bits .and .i64 (wrap64 (a0)) 268435455) bt248.1 true) else (if 0 < (bt248.1.length : Int) then (if (Int.tmod (wrap64 (rd bt248.1 0)) 128) = (Int.tmod (Go.bits .and .i64 (wrap64 (a0)) 268435455) 128) then (epitomelaw02_NumberBits.j0 k t247 (Go.bits .and .i64 (wrap64 (a0)) 268435455) bt248.1 ((decide ((rd bt248.1 0) ≥ 128)) != (decide ((Go.bits .and .i64 (wrap64 (a0)) 268435455) ≥ 128)))) else (epitomelaw02_NumberBits.j0 k t247 (Go.bits .and .i64 (wrap64 (a0)) 268435455) bt248.1 true)) else (none))) else (epitomelaw02_NumberBits.j0 k t247 (Go.bits .and .i64 (wrap64 (a0)) 268435455) bt248.1 true)))
theorem epitomelaw02_NumberBits.mono_l : ∀ k, (∀ y0 y1 y2 y3, LeO (epitomelaw02_NumberBits.j0 k y0 y1 y2 y3) (epitomelaw02_NumberBits.j0 (k + 1) y0 y1 y2 y3))
  | 0 => fun _ _ _ _ r h => by simp [epitomelaw02_NumberBits.j0] at h
  | k + 1 => by
    have ih0 := epitomelaw02_NumberBits.mono_l k
    · intro y0 y1 y2 y3
      unfold epitomelaw02_NumberBits.j0
      repeat' first
      | (with_reducible exact ih0 _ _ _ _)
      | (with_reducible exact epitomelaw02_shown.mono _)
      | (with_reducible exact LeO.refl _)
      | (with_reducible exact LeO.none _)
      | (with_reducible refine LeO.ite ?_ ?_)
      | (with_reducible refine LeO.bind ?_ (fun _ => ?_))
      | exact ih0 _ _ _ _
      | exact epitomelaw02_shown.mono _
      | exact LeO.none _
      | refine LeO.ite ?_ ?_
      | refine LeO.bind ?_ (fun _ => ?_)
theorem epitomelaw02_NumberBits.mono : ∀ a0 k, LeO (epitomelaw02_NumberBits.f k a0) (epitomelaw02_NumberBits.f (k + 1) a0) := by
  intro a0 k
  have ih0 := epitomelaw02_NumberBits.mono_l k
  unfold epitomelaw02_NumberBits.f
  repeat' first
      | (with_reducible exact ih0 _ _ _ _)
      | (with_reducible exact epitomelaw02_shown.mono _)
      | (with_reducible exact LeO.refl _)
      | (with_reducible exact LeO.none _)
      | (with_reducible refine LeO.ite ?_ ?_)
      | (with_reducible refine LeO.bind ?_ (fun _ => ?_))
      | exact ih0 _ _ _ _
      | exact epitomelaw02_shown.mono _
      | exact LeO.none _
      | refine LeO.ite ?_ ?_
      | refine LeO.bind ?_ (fun _ => ?_)
set_option maxHeartbeats 8000000 in
set_option maxRecDepth 100000 in
theorem epitomelaw02_NumberBits.calls (k : Nat) (a0 : Int) (r : Bool) (w : World) (h : epitomelaw02_NumberBits.f k a0 = some r) :
    Calls Try.prog 8 #[.int .u32 a0] w fun e w' => e = .returned (.bool r) ∧ Below w.heap.size w w' := by
  have HB := Aside0.mk (Below.refl w.heap.size w)
  have H : ((epitomelaw02_shown.f k).bind fun t247 => ((number_Put.f (Go.bits .and .i64 (wrap64 (a0)) 268435455)).bind fun bt248 => (if bt248.2 = 0 then (if (bt248.1.length : Int) = 0 then (epitomelaw02_NumberBits.j0 k t247 (Go.bits .and .i64 (wrap64 (a0)) 268435455) bt248.1 true) else (if 0 < (bt248.1.length : Int) then (if (Int.tmod (wrap64 (rd bt248.1 0)) 128) = (Int.tmod (Go.bits .and .i64 (wrap64 (a0)) 268435455) 128) then (epitomelaw02_NumberBits.j0 k t247 (Go.bits .and .i64 (wrap64 (a0)) 268435455) bt248.1 ((decide ((rd bt248.1 0) ≥ 128)) != (decide ((Go.bits .and .i64 (wrap64 (a0)) 268435455) ≥ 128)))) else (epitomelaw02_NumberBits.j0 k t247 (Go.bits .and .i64 (wrap64 (a0)) 268435455) bt248.1 true)) else (none))) else (epitomelaw02_NumberBits.j0 k t247 (Go.bits .and .i64 (wrap64 (a0)) 268435455) bt248.1 true)))) = some r := h
  clear h
  replace H := Option.bind_eq_some_iff.mp H
  obtain ⟨t247, A20, H⟩ := H
  replace H : ((number_Put.f (Go.bits .and .i64 (wrap64 (a0)) 268435455)).bind fun bt248 => (if bt248.2 = 0 then (if (bt248.1.length : Int) = 0 then (epitomelaw02_NumberBits.j0 k t247 (Go.bits .and .i64 (wrap64 (a0)) 268435455) bt248.1 true) else (if 0 < (bt248.1.length : Int) then (if (Int.tmod (wrap64 (rd bt248.1 0)) 128) = (Int.tmod (Go.bits .and .i64 (wrap64 (a0)) 268435455) 128) then (epitomelaw02_NumberBits.j0 k t247 (Go.bits .and .i64 (wrap64 (a0)) 268435455) bt248.1 ((decide ((rd bt248.1 0) ≥ 128)) != (decide ((Go.bits .and .i64 (wrap64 (a0)) 268435455) ≥ 128)))) else (epitomelaw02_NumberBits.j0 k t247 (Go.bits .and .i64 (wrap64 (a0)) 268435455) bt248.1 true)) else (none))) else (epitomelaw02_NumberBits.j0 k t247 (Go.bits .and .i64 (wrap64 (a0)) 268435455) bt248.1 true))) = some r := H
  have A2 := Aside0.mk A20
  clear A20
  replace H := Option.bind_eq_some_iff.mp H
  obtain ⟨⟨t248, t249⟩, A30, H⟩ := H
  replace H : (if t249 = 0 then (if (t248.length : Int) = 0 then (epitomelaw02_NumberBits.j0 k t247 (Go.bits .and .i64 (wrap64 (a0)) 268435455) t248 true) else (if 0 < (t248.length : Int) then (if (Int.tmod (wrap64 (rd t248 0)) 128) = (Int.tmod (Go.bits .and .i64 (wrap64 (a0)) 268435455) 128) then (epitomelaw02_NumberBits.j0 k t247 (Go.bits .and .i64 (wrap64 (a0)) 268435455) t248 ((decide ((rd t248 0) ≥ 128)) != (decide ((Go.bits .and .i64 (wrap64 (a0)) 268435455) ≥ 128)))) else (epitomelaw02_NumberBits.j0 k t247 (Go.bits .and .i64 (wrap64 (a0)) 268435455) t248 true)) else (none))) else (epitomelaw02_NumberBits.j0 k t247 (Go.bits .and .i64 (wrap64 (a0)) 268435455) t248 true)) = some r := H
  have A3 := Aside0.mk A30
  clear A30
  have HC4 := Aside0.mk H
  clear H
  go_enter Try.func8, Try.ntmps8
  go_upto_region 4 with (first | (go_at_call 9; (with_reducible refine (epitomelaw02_shown.calls k  t247 _ A2.out).mono ?_); rintro e w5 ⟨rfl, hb⟩; have n0_ := Aside0.mk (below_step (by repeat (first | (with_reducible first | exact HB.out | apply below_alloc | apply pw_below_drewN | apply below_drew1) | exact HB.out)) hb); clear HB; have HB := n0_; clear n0_; (try clear hb); (try clear hb2); (try clear hk); (try clear hi)) | (go_at_call 10; (with_reducible refine (number_Put.calls (Go.bits .and .i64 (wrap64 (a0)) 268435455) t248 t249 _ A3.out).mono ?_); rintro e w6 ⟨v250, rfl, ho0, hb⟩; have n0_ := Aside0.mk (Kd.R_lower ho0 (below_size (by repeat (first | (with_reducible first | exact HB.out | apply below_alloc | apply pw_below_drewN | apply below_drew1) | exact HB.out)))); have n1_ := Aside0.mk (below_step (by repeat (first | (with_reducible first | exact HB.out | apply below_alloc | apply pw_below_drewN | apply below_drew1) | exact HB.out)) hb); clear HB; have HO251 := n0_; have HB := n1_; clear n0_ n1_; (try clear hb); (try clear hb2); (try clear hk); (try clear hi); (try clear ho0)))
  repeat (go_quiet (first | (go_at_call 9; (with_reducible refine (epitomelaw02_shown.calls k  t247 _ A2.out).mono ?_); rintro e w5 ⟨rfl, hb⟩; have n0_ := Aside0.mk (below_step (by repeat (first | (with_reducible first | exact HB.out | apply below_alloc | apply pw_below_drewN | apply below_drew1) | exact HB.out)) hb); clear HB; have HB := n0_; clear n0_; (try clear hb); (try clear hb2); (try clear hk); (try clear hi)) | (go_at_call 10; (with_reducible refine (number_Put.calls (Go.bits .and .i64 (wrap64 (a0)) 268435455) t248 t249 _ A3.out).mono ?_); rintro e w6 ⟨v250, rfl, ho0, hb⟩; have n0_ := Aside0.mk (Kd.R_lower ho0 (below_size (by repeat (first | (with_reducible first | exact HB.out | apply below_alloc | apply pw_below_drewN | apply below_drew1) | exact HB.out)))); have n1_ := Aside0.mk (below_step (by repeat (first | (with_reducible first | exact HB.out | apply below_alloc | apply pw_below_drewN | apply below_drew1) | exact HB.out)) hb); clear HB; have HO251 := n0_; have HB := n1_; clear n0_ n1_; (try clear hb); (try clear hb2); (try clear hk); (try clear hi); (try clear ho0))); go_upto_region 4 with (first | (go_at_call 9; (with_reducible refine (epitomelaw02_shown.calls k  t247 _ A2.out).mono ?_); rintro e w5 ⟨rfl, hb⟩; have n0_ := Aside0.mk (below_step (by repeat (first | (with_reducible first | exact HB.out | apply below_alloc | apply pw_below_drewN | apply below_drew1) | exact HB.out)) hb); clear HB; have HB := n0_; clear n0_; (try clear hb); (try clear hb2); (try clear hk); (try clear hi)) | (go_at_call 10; (with_reducible refine (number_Put.calls (Go.bits .and .i64 (wrap64 (a0)) 268435455) t248 t249 _ A3.out).mono ?_); rintro e w6 ⟨v250, rfl, ho0, hb⟩; have n0_ := Aside0.mk (Kd.R_lower ho0 (below_size (by repeat (first | (with_reducible first | exact HB.out | apply below_alloc | apply pw_below_drewN | apply below_drew1) | exact HB.out)))); have n1_ := Aside0.mk (below_step (by repeat (first | (with_reducible first | exact HB.out | apply below_alloc | apply pw_below_drewN | apply below_drew1) | exact HB.out)) hb); clear HB; have HO251 := n0_; have HB := n1_; clear n0_ n1_; (try clear hb); (try clear hb2); (try clear hk); (try clear hi); (try clear ho0))))
  (try simp only [Act.put, List.setIfInBounds_toArray, List.set_cons_zero, List.set_cons_succ])
  go_cut [43] (fun v43 wc => ∃ (kq : Nat) (x43_3 : Bool), v43 = .bool x43_3 ∧ Aside0 (epitomelaw02_NumberBits.j0 kq t247 (Go.bits .and .i64 (wrap64 (a0)) 268435455) t248 x43_3 = some r) ∧ Aside0 (kq ≤ k) ∧ Aside0 (Kd.R (Kd.int .u8) 5 wc w.heap.size (fun _ => True) v250 t248) ∧ Aside0 (Below w.heap.size w wc))
  case first =>
    have H := HC4.out
    clear HC4
    by_cases c7 : t249 = 0
    · rw [if_pos c7] at H
      have c7b0 : (t249 == 0) = true := beq_iff_eq.mpr c7
      have c7b1 : (t249 != 0) = false := bne_eq_false_iff_eq.mpr c7
      clear c7
      (first | rw [c7b0] | (simp only [i64_w, i32_w]; rw [c7b0]) | skip)
      by_cases c8 : (t248.length : Int) = 0
      · rw [if_pos c8] at H
        have c8b0 : ((t248.length : Int) == 0) = true := beq_iff_eq.mpr c8
        have c8b1 : ((t248.length : Int) != 0) = false := bne_eq_false_iff_eq.mpr c8
        clear c8
        have H' := Aside0.mk H
        clear H
        obtain ⟨Ao9, co9, eo9⟩ := Kd.R_slice HO251.out
        subst eo9
        go_wp2
        repeat (go_quiet (fail); try go_wp2)
        go_meet
        case rel => exact ⟨_, (true), (by first | rfl | (simp; done) | (simp [*]; done)), H', ⟨by first | omega | exact Nat.le_refl _⟩, ⟨by (with_reducible repeat (first | apply Kd.R_alloc | apply Kd.R_drewN | apply Kd.R_drew)); exact HO251.out⟩, ⟨by repeat (first | (with_reducible first | exact HB.out | apply below_alloc | apply pw_below_drewN | apply below_drew1) | exact HB.out)⟩⟩
      · rw [if_neg c8] at H
        have c8b0 : ((t248.length : Int) == 0) = false := beq_eq_false_iff_ne.mpr c8
        have c8b1 : ((t248.length : Int) != 0) = true := bne_iff_ne.mpr c8
        have c8b2 : ¬ (t248 = []) := fun h_ => c8 (by rw [h_]; rfl)
        by_cases c10 : 0 < (t248.length : Int)
        · rw [if_pos c10] at H
          have c10b0 : decide (0 < (t248.length : Int)) = true := decide_eq_true c10
          have c10b1 : decide (0 < t248.length) = true := decide_eq_true (by omega)
          clear c10
          by_cases c11 : (Int.tmod (wrap64 (rd t248 0)) 128) = (Int.tmod (Go.bits .and .i64 (wrap64 (a0)) 268435455) 128)
          · rw [if_pos c11] at H
            have c11b0 : ((Int.tmod (wrap64 (rd t248 0)) 128) == (Int.tmod (Go.bits .and .i64 (wrap64 (a0)) 268435455) 128)) = true := beq_iff_eq.mpr c11
            have c11b1 : ((Int.tmod (wrap64 (rd t248 0)) 128) != (Int.tmod (Go.bits .and .i64 (wrap64 (a0)) 268435455) 128)) = false := bne_eq_false_iff_eq.mpr c11
            clear c11
            have H' := Aside0.mk H
            clear H
            obtain ⟨Ao12, co12, eo12⟩ := Kd.R_slice HO251.out
            subst eo12
            have p252 : 0 ≤ (0 : Int) := (by omega)
            have q252 : 0 < (t248.length : Int) := of_decide_eq_true (by first | (with_reducible assumption) | assumption)
            obtain ⟨ad252, e252, hx252_0⟩ := Kd.at_int (Kd.R_reads' HO251.out).2.2 0 p252 q252
            cases e252
            have qi252 : (0 < t248.length) = True := eq_true (by omega)
            (try rw [show ((0 : Int)).toNat = 0 from rfl] at hx252_0)
            (try rw [Addr.add_zero'] at hx252_0)
            replace p252 := eq_true p252
            replace q252 := eq_true q252
            have p253 : 0 ≤ (0 : Int) := (by omega)
            have q253 : 0 < (t248.length : Int) := of_decide_eq_true (by first | (with_reducible assumption) | assumption)
            obtain ⟨ad253, e253, hx253_0⟩ := Kd.at_int (Kd.R_reads' HO251.out).2.2 0 p253 q253
            obtain rfl : ad252 = ad253 := (by injection e253)
            have qi253 : (0 < t248.length) = True := eq_true (by omega)
            (try rw [show ((0 : Int)).toNat = 0 from rfl] at hx253_0)
            (try rw [Addr.add_zero'] at hx253_0)
            replace p253 := eq_true p253
            replace q253 := eq_true q253
            go_wp2
            repeat (go_quiet (fail); try go_wp2)
            go_meet
            case rel => exact ⟨_, (((decide ((rd t248 0) ≥ 128)) != (decide ((Go.bits .and .i64 (wrap64 (a0)) 268435455) ≥ 128)))), (by first | rfl | (simp; done) | (simp [*]; done)), H', ⟨by first | omega | exact Nat.le_refl _⟩, ⟨by (with_reducible repeat (first | apply Kd.R_alloc | apply Kd.R_drewN | apply Kd.R_drew)); exact HO251.out⟩, ⟨by repeat (first | (with_reducible first | exact HB.out | apply below_alloc | apply pw_below_drewN | apply below_drew1) | exact HB.out)⟩⟩
          · rw [if_neg c11] at H
            have c11b0 : ((Int.tmod (wrap64 (rd t248 0)) 128) == (Int.tmod (Go.bits .and .i64 (wrap64 (a0)) 268435455) 128)) = false := beq_eq_false_iff_ne.mpr c11
            have c11b1 : ((Int.tmod (wrap64 (rd t248 0)) 128) != (Int.tmod (Go.bits .and .i64 (wrap64 (a0)) 268435455) 128)) = true := bne_iff_ne.mpr c11
            have H' := Aside0.mk H
            clear H
            obtain ⟨Ao13, co13, eo13⟩ := Kd.R_slice HO251.out
            subst eo13
            have p252 : 0 ≤ (0 : Int) := (by omega)
            have q252 : 0 < (t248.length : Int) := of_decide_eq_true (by first | (with_reducible assumption) | assumption)
            obtain ⟨ad252, e252, hx252_0⟩ := Kd.at_int (Kd.R_reads' HO251.out).2.2 0 p252 q252
            cases e252
            have qi252 : (0 < t248.length) = True := eq_true (by omega)
            (try rw [show ((0 : Int)).toNat = 0 from rfl] at hx252_0)
            (try rw [Addr.add_zero'] at hx252_0)
            replace p252 := eq_true p252
            replace q252 := eq_true q252
            go_wp2
            repeat (go_quiet (fail); try go_wp2)
            go_meet
            case rel => exact ⟨_, (true), (by first | rfl | (simp; done) | (simp [*]; done)), H', ⟨by first | omega | exact Nat.le_refl _⟩, ⟨by (with_reducible repeat (first | apply Kd.R_alloc | apply Kd.R_drewN | apply Kd.R_drew)); exact HO251.out⟩, ⟨by repeat (first | (with_reducible first | exact HB.out | apply below_alloc | apply pw_below_drewN | apply below_drew1) | exact HB.out)⟩⟩
        · rw [if_neg c10] at H
          exact absurd H (by simp)
    · rw [if_neg c7] at H
      have c7b0 : (t249 == 0) = false := beq_eq_false_iff_ne.mpr c7
      have c7b1 : (t249 != 0) = true := bne_iff_ne.mpr c7
      (first | rw [c7b0] | (simp only [i64_w, i32_w]; rw [c7b0]) | skip)
      have H' := Aside0.mk H
      clear H
      go_wp2
      repeat (go_quiet (fail); try go_wp2)
      go_meet
      case rel => exact ⟨_, (true), (by first | rfl | (simp; done) | (simp [*]; done)), H', ⟨by first | omega | exact Nat.le_refl _⟩, ⟨by (with_reducible repeat (first | apply Kd.R_alloc | apply Kd.R_drewN | apply Kd.R_drew)); exact HO251.out⟩, ⟨by repeat (first | (with_reducible first | exact HB.out | apply below_alloc | apply pw_below_drewN | apply below_drew1) | exact HB.out)⟩⟩
  case rest =>
    clear HC4
    try clear c1
    try clear p2
    try clear q2
    try clear hx2
    try clear qi2
    try clear p6
    try clear c7
    try clear c7b0
    try clear c7b1
    try clear c8
    try clear c8b0
    try clear c8b1
    try clear c8b2
    try clear c10
    try clear c10b0
    try clear c10b1
    try clear c11
    try clear c11b0
    try clear c11b1
    try clear hx252_0
    try clear hx253_0
    try clear p252
    try clear p253
    try clear q252
    try clear q253
    obtain ⟨kq, x43_3, rfl, HA, HJ3, HO_5, HB⟩ := hcut
    cases kq with
    | zero => exact absurd HA.out (by simp [epitomelaw02_NumberBits.j0])
    | succ kj3 =>
      have H := HA.out
      clear HA
      simp only [epitomelaw02_NumberBits.j0] at H
      by_cases c14 : x43_3 = true
      · subst c14
        have H1 : (some false) = some r := by rw [if_pos rfl] at H; exact H
        clear H
        have H := H1
        clear H1
        obtain rfl := Option.some.inj H
        go_wp2
        repeat (go_quiet (fail); try go_wp2)
        go_ret
        exact ⟨by first | rfl | (simp [errW_none, errW_some] <;> rfl) | (simp [*, errW_none, errW_some] <;> rfl), by repeat (first | (with_reducible first | exact HB.out | apply below_alloc | apply pw_below_drewN | apply below_drew1) | exact HB.out)⟩
      · replace c14 := Bool.eq_false_iff.mpr c14
        subst c14
        have H1 : (if (Go.bits .and .i64 (wrap64 (a0)) 268435455) < 128 then (if t247 = true then (some ((t248.length : Int) == 1)) else (some false)) else ((number_Put.f (wrap64 (Int.tdiv (Go.bits .and .i64 (wrap64 (a0)) 268435455) 128))).bind fun bt254 => (if t247 = true then (if bt254.2 = 0 then (if 1 ≤ (t248.length : Int) then (some ((strOfNums (t248.drop 1)).toList == (strOfNums bt254.1).toList)) else (none)) else (some false)) else (some false)))) = some r := by rw [if_neg (show ¬ (false = true) by decide)] at H; exact H
        clear H
        have H := H1
        clear H1
        by_cases c15 : (Go.bits .and .i64 (wrap64 (a0)) 268435455) < 128
        · rw [if_pos c15] at H
          have c15b0 : decide ((Go.bits .and .i64 (wrap64 (a0)) 268435455) < 128) = true := decide_eq_true c15
          clear c15
          by_cases c16 : t247 = true
          · subst c16
            have H1 : (some ((t248.length : Int) == 1)) = some r := by rw [if_pos rfl] at H; exact H
            clear H
            have H := H1
            clear H1
            obtain rfl := Option.some.inj H
            obtain ⟨Ao17, co17, eo17⟩ := Kd.R_slice HO_5.out
            subst eo17
            go_wp2
            repeat (go_quiet (fail); try go_wp2)
            go_ret
            exact ⟨by first | rfl | (simp [errW_none, errW_some] <;> rfl) | (simp [*, errW_none, errW_some] <;> rfl), by repeat (first | (with_reducible first | exact HB.out | apply below_alloc | apply pw_below_drewN | apply below_drew1) | exact HB.out)⟩
          · replace c16 := Bool.eq_false_iff.mpr c16
            subst c16
            have H1 : (some false) = some r := by rw [if_neg (show ¬ (false = true) by decide)] at H; exact H
            clear H
            have H := H1
            clear H1
            obtain rfl := Option.some.inj H
            go_wp2
            repeat (go_quiet (fail); try go_wp2)
            go_ret
            exact ⟨by first | rfl | (simp [errW_none, errW_some] <;> rfl) | (simp [*, errW_none, errW_some] <;> rfl), by repeat (first | (with_reducible first | exact HB.out | apply below_alloc | apply pw_below_drewN | apply below_drew1) | exact HB.out)⟩
        · rw [if_neg c15] at H
          have c15b0 : decide ((Go.bits .and .i64 (wrap64 (a0)) 268435455) < 128) = false := decide_eq_false c15
          clear c15
          replace H := Option.bind_eq_some_iff.mp H
          obtain ⟨⟨t254, t255⟩, A180, H⟩ := H
          replace H : (if t247 = true then (if t255 = 0 then (if 1 ≤ (t248.length : Int) then (some ((strOfNums (t248.drop 1)).toList == (strOfNums t254).toList)) else (none)) else (some false)) else (some false)) = some r := H
          have A18 := Aside0.mk A180
          clear A180
          by_cases c19 : t247 = true
          · subst c19
            have H1 : (if t255 = 0 then (if 1 ≤ (t248.length : Int) then (some ((strOfNums (t248.drop 1)).toList == (strOfNums t254).toList)) else (none)) else (some false)) = some r := by rw [if_pos rfl] at H; exact H
            clear H
            have H := H1
            clear H1
            by_cases c20 : t255 = 0
            · rw [if_pos c20] at H
              have c20b0 : (t255 == 0) = true := beq_iff_eq.mpr c20
              have c20b1 : (t255 != 0) = false := bne_eq_false_iff_eq.mpr c20
              clear c20
              by_cases c21 : 1 ≤ (t248.length : Int)
              · rw [if_pos c21] at H
                have c21b0 := eq_true c21
                have c21b1 : decide (1 ≤ (t248.length : Int)) = true := decide_eq_true c21
                clear c21
                obtain ⟨y258, hy258⟩ : ∃ y_ : List Int, y_ = (t248.drop 1) := ⟨_, rfl⟩
                replace H : (some ((strOfNums y258).toList == (strOfNums t254).toList)) = some r := by first | (rw [hy258]; with_reducible exact H) | (have H2_ := (Option.bind_some _ _).symm.trans H; rw [hy258]; with_reducible exact H2_) | (have H2_ := (Option.bind_some _ _).symm.trans H; with_reducible exact H2_) | with_reducible exact H | (rw [hy258]; exact H) | exact H
                have Ny258 := Aside0.mk hy258
                clear hy258
                obtain rfl := Option.some.inj H
                go_wp2_with (first | (go_at_call 10; (with_reducible refine (number_Put.calls (wrap64 (Int.tdiv (Go.bits .and .i64 (wrap64 (a0)) 268435455) 128)) t254 t255 _ A18.out).mono ?_); rintro e w22 ⟨v256, rfl, ho0, hb⟩; have n0_ := Aside0.mk (Kd.R_elder' (by (with_reducible repeat (first | apply Kd.R_alloc | apply Kd.R_drewN | apply Kd.R_drew)); exact HO_5.out) (Kd.R_base ho0) hb); have n1_ := Aside0.mk (Kd.R_lower (Kd.R_new' ho0 (Kd.R_lt (by (with_reducible repeat (first | apply Kd.R_alloc | apply Kd.R_drewN | apply Kd.R_drew)); exact HO_5.out))) (below_size (by repeat (first | (with_reducible first | exact HB.out | apply below_alloc | apply pw_below_drewN | apply below_drew1) | exact HB.out)))); have n2_ := Aside0.mk (below_step (by repeat (first | (with_reducible first | exact HB.out | apply below_alloc | apply pw_below_drewN | apply below_drew1) | exact HB.out)) hb); clear HO_5; clear HB; have HO_5 := n0_; have HO257 := n1_; have HB := n2_; clear n0_ n1_ n2_; (try clear hb); (try clear hb2); (try clear hk); (try clear hi); (try clear ho0); obtain ⟨Ao24, co24, eo24⟩ := Kd.R_slice HO_5.out; subst eo24; have q23 : (1 : Int) ≤ ((t248.length : Int) : Int) := of_decide_eq_true (by first | (with_reducible assumption) | assumption); obtain ⟨i023, hi023, _, hsz23, _⟩ := info_parts info5; have hroom23 : t248.length ≤ co24 := (Kd.R_reads' HO_5.out).2.1; have hC23 : Kd.C (Kd.int .u8) _ Ao24 t248.length t248 := (Kd.R_reads' HO_5.out).2.2; have hcut23 := cut_from (P := Try.prog) 22 5 .i64 Try.underlying22 hi023 1 hsz23 Ao24 t248.length co24 1 (by omega) q23; have hr23 := Kd.C_drop (m := (1 : Int).toNat) (c := co24) hC23 (by omega) hroom23; obtain ⟨A23, hA23⟩ : ∃ A1, A1 = (if co24 = (1 : Int).toNat then Ao24 else (Ao24 : Option Addr).map (·.add ((1 : Int).toNat * 1))) := ⟨_, rfl⟩; obtain ⟨c23, hc23⟩ : ∃ c1, c1 = co24 - (1 : Int).toNat := ⟨_, rfl⟩; have hy23 : y258.length = t248.length - (1 : Int).toNat := (by rw [Ny258.out, List.length_drop] <;> omega); rw [show (t248).drop (1 : Int).toNat = y258 from Ny258.out.symm] at hr23; replace hr23 : Kd.C (Kd.int .u8) _ A23 y258.length y258 := (by rw [hA23]; exact hr23); rw [← hy23, ← hA23, ← hc23] at hcut23; have HR261 := Aside0.mk hr23; have HC261 := Aside0.mk (show y258.length ≤ c23 from by rw [hy23, hc23]; exact Nat.sub_le_sub_right hroom23 _); clear hr23 hC23 hroom23 hi023 hsz23 hc23; have KY23 := Aside0.mk hy23; have KA23 := Aside0.mk hA23; clear hy23 hA23; have KL23 := Aside0.mk (show 1 ≤ t248.length from by omega); replace q23 := eq_true q23; have hcv25 := Kd.C_string (P := Try.prog) (A := A23) (c := c23) Try.underlying22 Try.underlying5 Try.underlying9 (by repeat (first | (with_reducible exact HR261.out) | (with_reducible refine Kd.C_alloc ?_ _) | (with_reducible refine Kd.C_drewN ?_ _) | (with_reducible refine Kd.C_drew ?_) | exact HR261.out)); have hcv26 := fun (m_ : Nat) => Kd.C_string (P := Try.prog) (A := A23) (c := c23) Try.underlying22 Try.underlying5 Try.underlying9 (Kd.C_drewN (by repeat (first | (with_reducible exact HR261.out) | (with_reducible refine Kd.C_alloc ?_ _) | (with_reducible refine Kd.C_drewN ?_ _) | (with_reducible refine Kd.C_drew ?_) | exact HR261.out)) m_); have hcv27 := own_string (P := Try.prog) Try.underlying22 Try.underlying5 Try.underlying9 (Kd.own_of_R HO257.out); have hcv28 := fun (m_ : Nat) => own_string (P := Try.prog) Try.underlying22 Try.underlying5 Try.underlying9 (Kd.own_of_R (Kd.R_drewN HO257.out m_))))
                repeat (go_quiet (first | (go_at_call 10; (with_reducible refine (number_Put.calls (wrap64 (Int.tdiv (Go.bits .and .i64 (wrap64 (a0)) 268435455) 128)) t254 t255 _ A18.out).mono ?_); rintro e w22 ⟨v256, rfl, ho0, hb⟩; have n0_ := Aside0.mk (Kd.R_elder' (by (with_reducible repeat (first | apply Kd.R_alloc | apply Kd.R_drewN | apply Kd.R_drew)); exact HO_5.out) (Kd.R_base ho0) hb); have n1_ := Aside0.mk (Kd.R_lower (Kd.R_new' ho0 (Kd.R_lt (by (with_reducible repeat (first | apply Kd.R_alloc | apply Kd.R_drewN | apply Kd.R_drew)); exact HO_5.out))) (below_size (by repeat (first | (with_reducible first | exact HB.out | apply below_alloc | apply pw_below_drewN | apply below_drew1) | exact HB.out)))); have n2_ := Aside0.mk (below_step (by repeat (first | (with_reducible first | exact HB.out | apply below_alloc | apply pw_below_drewN | apply below_drew1) | exact HB.out)) hb); clear HO_5; clear HB; have HO_5 := n0_; have HO257 := n1_; have HB := n2_; clear n0_ n1_ n2_; (try clear hb); (try clear hb2); (try clear hk); (try clear hi); (try clear ho0); obtain ⟨Ao24, co24, eo24⟩ := Kd.R_slice HO_5.out; subst eo24; have q23 : (1 : Int) ≤ ((t248.length : Int) : Int) := of_decide_eq_true (by first | (with_reducible assumption) | assumption); obtain ⟨i023, hi023, _, hsz23, _⟩ := info_parts info5; have hroom23 : t248.length ≤ co24 := (Kd.R_reads' HO_5.out).2.1; have hC23 : Kd.C (Kd.int .u8) _ Ao24 t248.length t248 := (Kd.R_reads' HO_5.out).2.2; have hcut23 := cut_from (P := Try.prog) 22 5 .i64 Try.underlying22 hi023 1 hsz23 Ao24 t248.length co24 1 (by omega) q23; have hr23 := Kd.C_drop (m := (1 : Int).toNat) (c := co24) hC23 (by omega) hroom23; obtain ⟨A23, hA23⟩ : ∃ A1, A1 = (if co24 = (1 : Int).toNat then Ao24 else (Ao24 : Option Addr).map (·.add ((1 : Int).toNat * 1))) := ⟨_, rfl⟩; obtain ⟨c23, hc23⟩ : ∃ c1, c1 = co24 - (1 : Int).toNat := ⟨_, rfl⟩; have hy23 : y258.length = t248.length - (1 : Int).toNat := (by rw [Ny258.out, List.length_drop] <;> omega); rw [show (t248).drop (1 : Int).toNat = y258 from Ny258.out.symm] at hr23; replace hr23 : Kd.C (Kd.int .u8) _ A23 y258.length y258 := (by rw [hA23]; exact hr23); rw [← hy23, ← hA23, ← hc23] at hcut23; have HR261 := Aside0.mk hr23; have HC261 := Aside0.mk (show y258.length ≤ c23 from by rw [hy23, hc23]; exact Nat.sub_le_sub_right hroom23 _); clear hr23 hC23 hroom23 hi023 hsz23 hc23; have KY23 := Aside0.mk hy23; have KA23 := Aside0.mk hA23; clear hy23 hA23; have KL23 := Aside0.mk (show 1 ≤ t248.length from by omega); replace q23 := eq_true q23; have hcv25 := Kd.C_string (P := Try.prog) (A := A23) (c := c23) Try.underlying22 Try.underlying5 Try.underlying9 (by repeat (first | (with_reducible exact HR261.out) | (with_reducible refine Kd.C_alloc ?_ _) | (with_reducible refine Kd.C_drewN ?_ _) | (with_reducible refine Kd.C_drew ?_) | exact HR261.out)); have hcv26 := fun (m_ : Nat) => Kd.C_string (P := Try.prog) (A := A23) (c := c23) Try.underlying22 Try.underlying5 Try.underlying9 (Kd.C_drewN (by repeat (first | (with_reducible exact HR261.out) | (with_reducible refine Kd.C_alloc ?_ _) | (with_reducible refine Kd.C_drewN ?_ _) | (with_reducible refine Kd.C_drew ?_) | exact HR261.out)) m_); have hcv27 := own_string (P := Try.prog) Try.underlying22 Try.underlying5 Try.underlying9 (Kd.own_of_R HO257.out); have hcv28 := fun (m_ : Nat) => own_string (P := Try.prog) Try.underlying22 Try.underlying5 Try.underlying9 (Kd.own_of_R (Kd.R_drewN HO257.out m_)))); try go_wp2_with (first | (go_at_call 10; (with_reducible refine (number_Put.calls (wrap64 (Int.tdiv (Go.bits .and .i64 (wrap64 (a0)) 268435455) 128)) t254 t255 _ A18.out).mono ?_); rintro e w22 ⟨v256, rfl, ho0, hb⟩; have n0_ := Aside0.mk (Kd.R_elder' (by (with_reducible repeat (first | apply Kd.R_alloc | apply Kd.R_drewN | apply Kd.R_drew)); exact HO_5.out) (Kd.R_base ho0) hb); have n1_ := Aside0.mk (Kd.R_lower (Kd.R_new' ho0 (Kd.R_lt (by (with_reducible repeat (first | apply Kd.R_alloc | apply Kd.R_drewN | apply Kd.R_drew)); exact HO_5.out))) (below_size (by repeat (first | (with_reducible first | exact HB.out | apply below_alloc | apply pw_below_drewN | apply below_drew1) | exact HB.out)))); have n2_ := Aside0.mk (below_step (by repeat (first | (with_reducible first | exact HB.out | apply below_alloc | apply pw_below_drewN | apply below_drew1) | exact HB.out)) hb); clear HO_5; clear HB; have HO_5 := n0_; have HO257 := n1_; have HB := n2_; clear n0_ n1_ n2_; (try clear hb); (try clear hb2); (try clear hk); (try clear hi); (try clear ho0); obtain ⟨Ao24, co24, eo24⟩ := Kd.R_slice HO_5.out; subst eo24; have q23 : (1 : Int) ≤ ((t248.length : Int) : Int) := of_decide_eq_true (by first | (with_reducible assumption) | assumption); obtain ⟨i023, hi023, _, hsz23, _⟩ := info_parts info5; have hroom23 : t248.length ≤ co24 := (Kd.R_reads' HO_5.out).2.1; have hC23 : Kd.C (Kd.int .u8) _ Ao24 t248.length t248 := (Kd.R_reads' HO_5.out).2.2; have hcut23 := cut_from (P := Try.prog) 22 5 .i64 Try.underlying22 hi023 1 hsz23 Ao24 t248.length co24 1 (by omega) q23; have hr23 := Kd.C_drop (m := (1 : Int).toNat) (c := co24) hC23 (by omega) hroom23; obtain ⟨A23, hA23⟩ : ∃ A1, A1 = (if co24 = (1 : Int).toNat then Ao24 else (Ao24 : Option Addr).map (·.add ((1 : Int).toNat * 1))) := ⟨_, rfl⟩; obtain ⟨c23, hc23⟩ : ∃ c1, c1 = co24 - (1 : Int).toNat := ⟨_, rfl⟩; have hy23 : y258.length = t248.length - (1 : Int).toNat := (by rw [Ny258.out, List.length_drop] <;> omega); rw [show (t248).drop (1 : Int).toNat = y258 from Ny258.out.symm] at hr23; replace hr23 : Kd.C (Kd.int .u8) _ A23 y258.length y258 := (by rw [hA23]; exact hr23); rw [← hy23, ← hA23, ← hc23] at hcut23; have HR261 := Aside0.mk hr23; have HC261 := Aside0.mk (show y258.length ≤ c23 from by rw [hy23, hc23]; exact Nat.sub_le_sub_right hroom23 _); clear hr23 hC23 hroom23 hi023 hsz23 hc23; have KY23 := Aside0.mk hy23; have KA23 := Aside0.mk hA23; clear hy23 hA23; have KL23 := Aside0.mk (show 1 ≤ t248.length from by omega); replace q23 := eq_true q23; have hcv25 := Kd.C_string (P := Try.prog) (A := A23) (c := c23) Try.underlying22 Try.underlying5 Try.underlying9 (by repeat (first | (with_reducible exact HR261.out) | (with_reducible refine Kd.C_alloc ?_ _) | (with_reducible refine Kd.C_drewN ?_ _) | (with_reducible refine Kd.C_drew ?_) | exact HR261.out)); have hcv26 := fun (m_ : Nat) => Kd.C_string (P := Try.prog) (A := A23) (c := c23) Try.underlying22 Try.underlying5 Try.underlying9 (Kd.C_drewN (by repeat (first | (with_reducible exact HR261.out) | (with_reducible refine Kd.C_alloc ?_ _) | (with_reducible refine Kd.C_drewN ?_ _) | (with_reducible refine Kd.C_drew ?_) | exact HR261.out)) m_); have hcv27 := own_string (P := Try.prog) Try.underlying22 Try.underlying5 Try.underlying9 (Kd.own_of_R HO257.out); have hcv28 := fun (m_ : Nat) => own_string (P := Try.prog) Try.underlying22 Try.underlying5 Try.underlying9 (Kd.own_of_R (Kd.R_drewN HO257.out m_)))))
                go_ret
                exact ⟨by first | rfl | (simp [errW_none, errW_some] <;> rfl) | (simp [*, errW_none, errW_some] <;> rfl), by repeat (first | (with_reducible first | exact HB.out | apply below_alloc | apply pw_below_drewN | apply below_drew1) | exact HB.out)⟩
              · rw [if_neg c21] at H
                exact absurd H (by simp)
            · rw [if_neg c20] at H
              have c20b0 : (t255 == 0) = false := beq_eq_false_iff_ne.mpr c20
              have c20b1 : (t255 != 0) = true := bne_iff_ne.mpr c20
              obtain rfl := Option.some.inj H
              go_wp2_with (first | (go_at_call 10; (with_reducible refine (number_Put.calls (wrap64 (Int.tdiv (Go.bits .and .i64 (wrap64 (a0)) 268435455) 128)) t254 t255 _ A18.out).mono ?_); rintro e w29 ⟨v256, rfl, ho0, hb⟩; have n0_ := Aside0.mk (Kd.R_elder' (by (with_reducible repeat (first | apply Kd.R_alloc | apply Kd.R_drewN | apply Kd.R_drew)); exact HO_5.out) (Kd.R_base ho0) hb); have n1_ := Aside0.mk (Kd.R_lower (Kd.R_new' ho0 (Kd.R_lt (by (with_reducible repeat (first | apply Kd.R_alloc | apply Kd.R_drewN | apply Kd.R_drew)); exact HO_5.out))) (below_size (by repeat (first | (with_reducible first | exact HB.out | apply below_alloc | apply pw_below_drewN | apply below_drew1) | exact HB.out)))); have n2_ := Aside0.mk (below_step (by repeat (first | (with_reducible first | exact HB.out | apply below_alloc | apply pw_below_drewN | apply below_drew1) | exact HB.out)) hb); clear HO_5; clear HB; have HO_5 := n0_; have HO257 := n1_; have HB := n2_; clear n0_ n1_ n2_; (try clear hb); (try clear hb2); (try clear hk); (try clear hi); (try clear ho0)))
              repeat (go_quiet (first | (go_at_call 10; (with_reducible refine (number_Put.calls (wrap64 (Int.tdiv (Go.bits .and .i64 (wrap64 (a0)) 268435455) 128)) t254 t255 _ A18.out).mono ?_); rintro e w29 ⟨v256, rfl, ho0, hb⟩; have n0_ := Aside0.mk (Kd.R_elder' (by (with_reducible repeat (first | apply Kd.R_alloc | apply Kd.R_drewN | apply Kd.R_drew)); exact HO_5.out) (Kd.R_base ho0) hb); have n1_ := Aside0.mk (Kd.R_lower (Kd.R_new' ho0 (Kd.R_lt (by (with_reducible repeat (first | apply Kd.R_alloc | apply Kd.R_drewN | apply Kd.R_drew)); exact HO_5.out))) (below_size (by repeat (first | (with_reducible first | exact HB.out | apply below_alloc | apply pw_below_drewN | apply below_drew1) | exact HB.out)))); have n2_ := Aside0.mk (below_step (by repeat (first | (with_reducible first | exact HB.out | apply below_alloc | apply pw_below_drewN | apply below_drew1) | exact HB.out)) hb); clear HO_5; clear HB; have HO_5 := n0_; have HO257 := n1_; have HB := n2_; clear n0_ n1_ n2_; (try clear hb); (try clear hb2); (try clear hk); (try clear hi); (try clear ho0))); try go_wp2_with (first | (go_at_call 10; (with_reducible refine (number_Put.calls (wrap64 (Int.tdiv (Go.bits .and .i64 (wrap64 (a0)) 268435455) 128)) t254 t255 _ A18.out).mono ?_); rintro e w29 ⟨v256, rfl, ho0, hb⟩; have n0_ := Aside0.mk (Kd.R_elder' (by (with_reducible repeat (first | apply Kd.R_alloc | apply Kd.R_drewN | apply Kd.R_drew)); exact HO_5.out) (Kd.R_base ho0) hb); have n1_ := Aside0.mk (Kd.R_lower (Kd.R_new' ho0 (Kd.R_lt (by (with_reducible repeat (first | apply Kd.R_alloc | apply Kd.R_drewN | apply Kd.R_drew)); exact HO_5.out))) (below_size (by repeat (first | (with_reducible first | exact HB.out | apply below_alloc | apply pw_below_drewN | apply below_drew1) | exact HB.out)))); have n2_ := Aside0.mk (below_step (by repeat (first | (with_reducible first | exact HB.out | apply below_alloc | apply pw_below_drewN | apply below_drew1) | exact HB.out)) hb); clear HO_5; clear HB; have HO_5 := n0_; have HO257 := n1_; have HB := n2_; clear n0_ n1_ n2_; (try clear hb); (try clear hb2); (try clear hk); (try clear hi); (try clear ho0))))
              go_ret
              exact ⟨by first | rfl | (simp [errW_none, errW_some] <;> rfl) | (simp [*, errW_none, errW_some] <;> rfl), by repeat (first | (with_reducible first | exact HB.out | apply below_alloc | apply pw_below_drewN | apply below_drew1) | exact HB.out)⟩
          · replace c19 := Bool.eq_false_iff.mpr c19
            subst c19
            have H1 : (some false) = some r := by rw [if_neg (show ¬ (false = true) by decide)] at H; exact H
            clear H
            have H := H1
            clear H1
            obtain rfl := Option.some.inj H
            go_wp2_with (first | (go_at_call 10; (with_reducible refine (number_Put.calls (wrap64 (Int.tdiv (Go.bits .and .i64 (wrap64 (a0)) 268435455) 128)) t254 t255 _ A18.out).mono ?_); rintro e w30 ⟨v256, rfl, ho0, hb⟩; have n0_ := Aside0.mk (Kd.R_elder' (by (with_reducible repeat (first | apply Kd.R_alloc | apply Kd.R_drewN | apply Kd.R_drew)); exact HO_5.out) (Kd.R_base ho0) hb); have n1_ := Aside0.mk (Kd.R_lower (Kd.R_new' ho0 (Kd.R_lt (by (with_reducible repeat (first | apply Kd.R_alloc | apply Kd.R_drewN | apply Kd.R_drew)); exact HO_5.out))) (below_size (by repeat (first | (with_reducible first | exact HB.out | apply below_alloc | apply pw_below_drewN | apply below_drew1) | exact HB.out)))); have n2_ := Aside0.mk (below_step (by repeat (first | (with_reducible first | exact HB.out | apply below_alloc | apply pw_below_drewN | apply below_drew1) | exact HB.out)) hb); clear HO_5; clear HB; have HO_5 := n0_; have HO257 := n1_; have HB := n2_; clear n0_ n1_ n2_; (try clear hb); (try clear hb2); (try clear hk); (try clear hi); (try clear ho0)))
            repeat (go_quiet (first | (go_at_call 10; (with_reducible refine (number_Put.calls (wrap64 (Int.tdiv (Go.bits .and .i64 (wrap64 (a0)) 268435455) 128)) t254 t255 _ A18.out).mono ?_); rintro e w30 ⟨v256, rfl, ho0, hb⟩; have n0_ := Aside0.mk (Kd.R_elder' (by (with_reducible repeat (first | apply Kd.R_alloc | apply Kd.R_drewN | apply Kd.R_drew)); exact HO_5.out) (Kd.R_base ho0) hb); have n1_ := Aside0.mk (Kd.R_lower (Kd.R_new' ho0 (Kd.R_lt (by (with_reducible repeat (first | apply Kd.R_alloc | apply Kd.R_drewN | apply Kd.R_drew)); exact HO_5.out))) (below_size (by repeat (first | (with_reducible first | exact HB.out | apply below_alloc | apply pw_below_drewN | apply below_drew1) | exact HB.out)))); have n2_ := Aside0.mk (below_step (by repeat (first | (with_reducible first | exact HB.out | apply below_alloc | apply pw_below_drewN | apply below_drew1) | exact HB.out)) hb); clear HO_5; clear HB; have HO_5 := n0_; have HO257 := n1_; have HB := n2_; clear n0_ n1_ n2_; (try clear hb); (try clear hb2); (try clear hk); (try clear hi); (try clear ho0))); try go_wp2_with (first | (go_at_call 10; (with_reducible refine (number_Put.calls (wrap64 (Int.tdiv (Go.bits .and .i64 (wrap64 (a0)) 268435455) 128)) t254 t255 _ A18.out).mono ?_); rintro e w30 ⟨v256, rfl, ho0, hb⟩; have n0_ := Aside0.mk (Kd.R_elder' (by (with_reducible repeat (first | apply Kd.R_alloc | apply Kd.R_drewN | apply Kd.R_drew)); exact HO_5.out) (Kd.R_base ho0) hb); have n1_ := Aside0.mk (Kd.R_lower (Kd.R_new' ho0 (Kd.R_lt (by (with_reducible repeat (first | apply Kd.R_alloc | apply Kd.R_drewN | apply Kd.R_drew)); exact HO_5.out))) (below_size (by repeat (first | (with_reducible first | exact HB.out | apply below_alloc | apply pw_below_drewN | apply below_drew1) | exact HB.out)))); have n2_ := Aside0.mk (below_step (by repeat (first | (with_reducible first | exact HB.out | apply below_alloc | apply pw_below_drewN | apply below_drew1) | exact HB.out)) hb); clear HO_5; clear HB; have HO_5 := n0_; have HO257 := n1_; have HB := n2_; clear n0_ n1_ n2_; (try clear hb); (try clear hb2); (try clear hk); (try clear hi); (try clear ho0))))
            go_ret
            exact ⟨by first | rfl | (simp [errW_none, errW_some] <;> rfl) | (simp [*, errW_none, errW_some] <;> rfl), by repeat (first | (with_reducible first | exact HB.out | apply below_alloc | apply pw_below_drewN | apply below_drew1) | exact HB.out)⟩

/-- THE ONE PURE STATEMENT of epitomelaw02_NumberBits: yours. -/
def epitomelaw02_NumberBits.Pure : Prop := ∀ (a0 : Int), (Lit.int .u32 a0).wf = true → ∃ k, epitomelaw02_NumberBits.f k a0 = some true
theorem epitomelaw02_NumberBits.walk (P : epitomelaw02_NumberBits.Pure) (a0 : Int) (w : World) (w0 : (Lit.int .u32 a0).wf = true) :
    Calls Try.prog 8 #[.int .u32 a0] w fun e w' => e = .returned (.bool true) ∧ Below w.heap.size w w' := by
  obtain ⟨k, h⟩ := P a0 w0
  refine (epitomelaw02_NumberBits.calls k a0 true w h).mono ?_
  rintro e w' ⟨rfl, hd⟩
  exact ⟨rfl, hd⟩

end Go.Proofs.Ytolljobehfmffaa.P
