-- WRITTEN BY A PROGRAM OF THIS SESSION (wip/pp in its repo), made after the kit's print
import Derived.Test.YtolljobehfmffaaDoorPx0
import Derived.Test.YtolljobehfmffaaDoorPx15
import Derived.Test.YtolljobehfmffaaDoorPx16
import Derived.Test.YtolljobehfmffaaDoorPx17
import Derived.Test.YtolljobehfmffaaDoorPx20
import Derived.Test.YtolljobehfmffaaDoorPx25
namespace Go.Proofs.YtolljobehfmffaaDoor.P
open Go.RowKit Go.Proofs.YtolljobehfmffaaDoorW.PrintWords Go.Proofs.YtolljobehfmffaaDoorW.PrintLast Go.Proofs.YtolljobehfmffaaDoorW.PrintMore
attribute [local go_sem] max2_int min2_int max_two min_two max_three min_three max_four min_four   -- for this text's walks alone
set_option linter.unusedVariables false
set_option linter.unusedSimpArgs false

/-! ### epitomelaw15_SnapAll: function 11 -/
def epitomelaw15_SnapAll.f (k : Nat) (a0 : ByteArray) (l1 : List Int) : Option (Bool) := (epitomelaw15_shown.f k).bind fun t390 => (if 0 ≤ (mn (a0.size : Int) 200) then (if (mn (a0.size : Int) 200) ≤ (a0.size : Int) then ((snap_Put.f (a0.extract 0 ((mn (a0.size : Int) 200) : Int).toNat)).bind fun bt391 => ((epitomeref15_Put.f k (a0.extract 0 ((mn (a0.size : Int) 200) : Int).toNat)).bind fun bt395 => ((epitomelaw15_few.f l1).bind fun t399 => ((snap_Take.f k t399).bind fun bt402 => ((epitomelaw15_few.f l1).bind fun t405 => ((epitomeref15_Take.f k t405).bind fun bt408 => (if t390 = true then (if (strOfNums bt391.1).toList = (strOfNums bt395.1).toList then (if bt391.2 = bt395.2 then (if bt402.1.toList = bt408.1.toList then (if bt402.2.1 = bt408.2.1 then (some (bt402.2.2 == bt408.2.2)) else (some false)) else (some false)) else (some false)) else (some false)) else (some false)))))))) else (none)) else (none))
theorem epitomelaw15_SnapAll.mono : ∀ a0 a1 k, LeO (epitomelaw15_SnapAll.f k a0 a1) (epitomelaw15_SnapAll.f (k + 1) a0 a1) := by
  intro a0 a1 k
  unfold epitomelaw15_SnapAll.f
  repeat' first
      | (with_reducible exact epitomelaw15_shown.mono _)
      | (with_reducible exact epitomeref15_Put.mono _ _)
      | (with_reducible exact epitomeref15_Take.mono _ _)
      | (with_reducible exact snap_Take.mono _ _)
      | (with_reducible exact LeO.refl _)
      | (with_reducible exact LeO.none _)
      | (with_reducible refine LeO.ite ?_ ?_)
      | (with_reducible refine LeO.bind ?_ (fun _ => ?_))
      | exact epitomelaw15_shown.mono _
      | exact epitomeref15_Put.mono _ _
      | exact epitomeref15_Take.mono _ _
      | exact snap_Take.mono _ _
      | exact LeO.none _
      | refine LeO.ite ?_ ?_
      | refine LeO.bind ?_ (fun _ => ?_)
set_option maxHeartbeats 8000000 in
set_option maxRecDepth 100000 in
theorem epitomelaw15_SnapAll.calls (k : Nat) (a0 : ByteArray) (A1 : Option Addr) (c1 : Nat) (l1 : List Int) (r : Bool) (w : World) (hr1 : Kd.C (Kd.int .u8) w A1 l1.length l1) (hc1 : l1.length ≤ c1) (hT : Tabs w) (h : epitomelaw15_SnapAll.f k a0 l1 = some r) (hlaw : r = true) :
    Calls Tryd.prog 11 #[.string a0, .slice A1 l1.length c1] w fun e w' => e = .returned (.bool r) ∧ Below w.heap.size w w' := by
  have HLAW := Aside0.mk hlaw
  clear hlaw
  have HT := Aside0.mk hT
  clear hT
  have HR1 := Aside0.mk hr1
  have HC1 := Aside0.mk hc1
  clear hr1 hc1
  have HB := Aside0.mk (Below.refl w.heap.size w)
  have H : ((epitomelaw15_shown.f k).bind fun t390 => (if 0 ≤ (mn (a0.size : Int) 200) then (if (mn (a0.size : Int) 200) ≤ (a0.size : Int) then ((snap_Put.f (a0.extract 0 ((mn (a0.size : Int) 200) : Int).toNat)).bind fun bt391 => ((epitomeref15_Put.f k (a0.extract 0 ((mn (a0.size : Int) 200) : Int).toNat)).bind fun bt395 => ((epitomelaw15_few.f l1).bind fun t399 => ((snap_Take.f k t399).bind fun bt402 => ((epitomelaw15_few.f l1).bind fun t405 => ((epitomeref15_Take.f k t405).bind fun bt408 => (if t390 = true then (if (strOfNums bt391.1).toList = (strOfNums bt395.1).toList then (if bt391.2 = bt395.2 then (if bt402.1.toList = bt408.1.toList then (if bt402.2.1 = bt408.2.1 then (some (bt402.2.2 == bt408.2.2)) else (some false)) else (some false)) else (some false)) else (some false)) else (some false)))))))) else (none)) else (none))) = some r := h
  clear h
  replace H := Option.bind_eq_some_iff.mp H
  obtain ⟨t390, A30, H⟩ := H
  replace H : (if 0 ≤ (mn (a0.size : Int) 200) then (if (mn (a0.size : Int) 200) ≤ (a0.size : Int) then ((snap_Put.f (a0.extract 0 ((mn (a0.size : Int) 200) : Int).toNat)).bind fun bt391 => ((epitomeref15_Put.f k (a0.extract 0 ((mn (a0.size : Int) 200) : Int).toNat)).bind fun bt395 => ((epitomelaw15_few.f l1).bind fun t399 => ((snap_Take.f k t399).bind fun bt402 => ((epitomelaw15_few.f l1).bind fun t405 => ((epitomeref15_Take.f k t405).bind fun bt408 => (if t390 = true then (if (strOfNums bt391.1).toList = (strOfNums bt395.1).toList then (if bt391.2 = bt395.2 then (if bt402.1.toList = bt408.1.toList then (if bt402.2.1 = bt408.2.1 then (some (bt402.2.2 == bt408.2.2)) else (some false)) else (some false)) else (some false)) else (some false)) else (some false)))))))) else (none)) else (none)) = some r := H
  have A3 := Aside0.mk A30
  clear A30
  obtain ⟨ji4, hji4⟩ : ∃ j_ : Int, (mn (a0.size : Int) 200) = j_ := ⟨_, rfl⟩
  replace H : (if 0 ≤ (ji4) then (if (ji4) ≤ (a0.size : Int) then ((snap_Put.f (a0.extract 0 ((ji4) : Int).toNat)).bind fun bt391 => ((epitomeref15_Put.f k (a0.extract 0 ((ji4) : Int).toNat)).bind fun bt395 => ((epitomelaw15_few.f l1).bind fun t399 => ((snap_Take.f k t399).bind fun bt402 => ((epitomelaw15_few.f l1).bind fun t405 => ((epitomeref15_Take.f k t405).bind fun bt408 => (if t390 = true then (if (strOfNums bt391.1).toList = (strOfNums bt395.1).toList then (if bt391.2 = bt395.2 then (if bt402.1.toList = bt408.1.toList then (if bt402.2.1 = bt408.2.1 then (some (bt402.2.2 == bt408.2.2)) else (some false)) else (some false)) else (some false)) else (some false)) else (some false)))))))) else (none)) else (none)) = some r := by first | (rw [hji4] at H; exact H) | (simp only [hji4] at H ⊢; exact H)
  (try rw [hji4] at A3)
  (try (have hji4h : ji4 ≤ 200 := by (rw [← hji4]; unfold mn; (repeat' split) <;> omega)))
  (try (have hji4g : ji4 ≤ 64 := by omega))
  (try (have hji4l : 0 ≤ ji4 := by (rw [← hji4]; unfold mn; (repeat' split) <;> omega)))
  (try (have hji4m : 0 ≤ ji4 := by omega))
  have hji4_ : (if 200 < (a0.size : Int) then 200 else (a0.size : Int)) = ji4 := hji4
  by_cases c5 : 0 ≤ (ji4)
  · rw [if_pos c5] at H
    have c5b0 := eq_true c5
    have c5b1 : decide (0 ≤ (ji4)) = true := decide_eq_true c5
    clear c5
    by_cases c6 : (ji4) ≤ (a0.size : Int)
    · rw [if_pos c6] at H
      have c6b0 := eq_true c6
      have c6b1 : decide ((ji4) ≤ (a0.size : Int)) = true := decide_eq_true c6
      clear c6
      replace H := Option.bind_eq_some_iff.mp H
      obtain ⟨⟨t391, t392⟩, A70, H⟩ := H
      replace H : ((epitomeref15_Put.f k (a0.extract 0 ((ji4) : Int).toNat)).bind fun bt395 => ((epitomelaw15_few.f l1).bind fun t399 => ((snap_Take.f k t399).bind fun bt402 => ((epitomelaw15_few.f l1).bind fun t405 => ((epitomeref15_Take.f k t405).bind fun bt408 => (if t390 = true then (if (strOfNums t391).toList = (strOfNums bt395.1).toList then (if t392 = bt395.2 then (if bt402.1.toList = bt408.1.toList then (if bt402.2.1 = bt408.2.1 then (some (bt402.2.2 == bt408.2.2)) else (some false)) else (some false)) else (some false)) else (some false)) else (some false))))))) = some r := H
      have A7 := Aside0.mk A70
      clear A70
      replace H := Option.bind_eq_some_iff.mp H
      obtain ⟨⟨t395, t396⟩, A80, H⟩ := H
      replace H : ((epitomelaw15_few.f l1).bind fun t399 => ((snap_Take.f k t399).bind fun bt402 => ((epitomelaw15_few.f l1).bind fun t405 => ((epitomeref15_Take.f k t405).bind fun bt408 => (if t390 = true then (if (strOfNums t391).toList = (strOfNums t395).toList then (if t392 = t396 then (if bt402.1.toList = bt408.1.toList then (if bt402.2.1 = bt408.2.1 then (some (bt402.2.2 == bt408.2.2)) else (some false)) else (some false)) else (some false)) else (some false)) else (some false)))))) = some r := H
      have A8 := Aside0.mk A80
      clear A80
      replace H := Option.bind_eq_some_iff.mp H
      obtain ⟨t399, A90, H⟩ := H
      replace H : ((snap_Take.f k t399).bind fun bt402 => ((epitomelaw15_few.f l1).bind fun t405 => ((epitomeref15_Take.f k t405).bind fun bt408 => (if t390 = true then (if (strOfNums t391).toList = (strOfNums t395).toList then (if t392 = t396 then (if bt402.1.toList = bt408.1.toList then (if bt402.2.1 = bt408.2.1 then (some (bt402.2.2 == bt408.2.2)) else (some false)) else (some false)) else (some false)) else (some false)) else (some false))))) = some r := H
      have A9 := Aside0.mk A90
      clear A90
      replace H := Option.bind_eq_some_iff.mp H
      obtain ⟨⟨t402, t403, t404⟩, A100, H⟩ := H
      replace H : ((epitomelaw15_few.f l1).bind fun t405 => ((epitomeref15_Take.f k t405).bind fun bt408 => (if t390 = true then (if (strOfNums t391).toList = (strOfNums t395).toList then (if t392 = t396 then (if t402.toList = bt408.1.toList then (if t403 = bt408.2.1 then (some (t404 == bt408.2.2)) else (some false)) else (some false)) else (some false)) else (some false)) else (some false)))) = some r := H
      have A10 := Aside0.mk A100
      clear A100
      replace H := Option.bind_eq_some_iff.mp H
      obtain ⟨t405, A110, H⟩ := H
      replace H : ((epitomeref15_Take.f k t405).bind fun bt408 => (if t390 = true then (if (strOfNums t391).toList = (strOfNums t395).toList then (if t392 = t396 then (if t402.toList = bt408.1.toList then (if t403 = bt408.2.1 then (some (t404 == bt408.2.2)) else (some false)) else (some false)) else (some false)) else (some false)) else (some false))) = some r := H
      have A11 := Aside0.mk A110
      clear A110
      replace H := Option.bind_eq_some_iff.mp H
      obtain ⟨⟨t408, t409, t410⟩, A120, H⟩ := H
      replace H : (if t390 = true then (if (strOfNums t391).toList = (strOfNums t395).toList then (if t392 = t396 then (if t402.toList = t408.toList then (if t403 = t409 then (some (t404 == t410)) else (some false)) else (some false)) else (some false)) else (some false)) else (some false)) = some r := H
      have A12 := Aside0.mk A120
      clear A120
      by_cases c13 : t390 = true
      · subst c13
        have H1 : (if (strOfNums t391).toList = (strOfNums t395).toList then (if t392 = t396 then (if t402.toList = t408.toList then (if t403 = t409 then (some (t404 == t410)) else (some false)) else (some false)) else (some false)) else (some false)) = some r := by rw [if_pos rfl] at H; exact H
        clear H
        have H := H1
        clear H1
        by_cases c14 : (strOfNums t391).toList = (strOfNums t395).toList
        · rw [if_pos c14] at H
          have c14b0 : ((strOfNums t391).toList == (strOfNums t395).toList) = true := beq_iff_eq.mpr c14
          have c14b1 : ((strOfNums t391).toList != (strOfNums t395).toList) = false := bne_eq_false_iff_eq.mpr c14
          clear c14
          by_cases c15 : t392 = t396
          · rw [if_pos c15] at H
            have c15b0 : (t392 == t396) = true := beq_iff_eq.mpr c15
            have c15b1 : (t392 != t396) = false := bne_eq_false_iff_eq.mpr c15
            clear c15
            by_cases c16 : t402.toList = t408.toList
            · rw [if_pos c16] at H
              have c16b0 : (t402.toList == t408.toList) = true := beq_iff_eq.mpr c16
              have c16b1 : (t402.toList != t408.toList) = false := bne_eq_false_iff_eq.mpr c16
              clear c16
              by_cases c17 : t403 = t409
              · rw [if_pos c17] at H
                have c17b0 : (t403 == t409) = true := beq_iff_eq.mpr c17
                have c17b1 : (t403 != t409) = false := bne_eq_false_iff_eq.mpr c17
                clear c17
                obtain rfl := Option.some.inj H
                simp only [Option.some.injEq, Prod.mk.injEq] at H
                obtain ⟨rfl⟩ := H
                go_enter Tryd.func11, Tryd.ntmps11
                go_wp2_with (first | ((with_reducible refine gate_callee (f := 25) rfl ?_); refine goesL_ (some 17) rfl rfl Tryd.func25 (by kernel_rfl) rfl #[] rfl (by (try simp only [List.map_toArray, List.map_cons, List.map_nil]); first | done | rfl | (simp only [List.length_drop, List.length_take]; rfl)) ?_; (with_reducible refine (epitomelaw15_shown.calls k  true _ ?side1 A3.out).mono ?_); (case side1 => exact Tabs.below HT.out (by repeat (first | (with_reducible first | exact HB.out | apply below_alloc | apply pw_below_drewN | apply below_drew1) | exact HB.out))); rintro e w18 ⟨rfl, hb⟩; refine ⟨_, rfl, ?_⟩; have n0_ := Aside0.mk (below_step (by repeat (first | (with_reducible first | exact HB.out | apply below_alloc | apply pw_below_drewN | apply below_drew1) | exact HB.out)) hb); clear HB; have HB := n0_; clear n0_; (try clear hb); (try clear hb2); (try clear hk); (try clear hi)) | ((with_reducible refine gate_callee (f := 33) rfl ?_); refine goesL_ (some 25) rfl rfl Tryd.func33 (by kernel_rfl) rfl #[.string (a0.extract 0 ((ji4) : Int).toNat)] rfl (by (try simp only [List.map_toArray, List.map_cons, List.map_nil]); first | done | (simp only [hji4]; rfl) | rfl | (simp only [List.length_drop, List.length_take]; rfl)) ?_; (with_reducible refine (snap_Put.calls (a0.extract 0 ((ji4) : Int).toNat) t391 t392 _ ?side1 A7.out).mono ?_); (case side1 => exact Tabs.below HT.out (by repeat (first | (with_reducible first | exact HB.out | apply below_alloc | apply pw_below_drewN | apply below_drew1) | exact HB.out))); rintro e w19 ⟨v393, rfl, ho0, hb⟩; refine ⟨_, rfl, ?_⟩; have n0_ := Aside0.mk (Kd.R_lower ho0 (below_size (by repeat (first | (with_reducible first | exact HB.out | apply below_alloc | apply pw_below_drewN | apply below_drew1) | exact HB.out)))); have n1_ := Aside0.mk (below_step (by repeat (first | (with_reducible first | exact HB.out | apply below_alloc | apply pw_below_drewN | apply below_drew1) | exact HB.out)) hb); clear HB; have HO394 := n0_; have HB := n1_; clear n0_ n1_; (try clear hb); (try clear hb2); (try clear hk); (try clear hi); (try clear ho0)) | ((with_reducible refine gate_callee (f := 34) rfl ?_); refine goesL_ (some 30) rfl rfl Tryd.func34 (by kernel_rfl) rfl #[.string (a0.extract 0 ((ji4) : Int).toNat)] rfl (by (try simp only [List.map_toArray, List.map_cons, List.map_nil]); first | done | (simp only [hji4]; rfl) | rfl | (simp only [List.length_drop, List.length_take]; rfl)) ?_; (with_reducible refine (epitomeref15_Put.calls k (a0.extract 0 ((ji4) : Int).toNat) t395 t396 _ A8.out).mono ?_); rintro e w20 ⟨v397, rfl, ho0, hb⟩; refine ⟨_, rfl, ?_⟩; have n0_ := Aside0.mk (Kd.R_elder' (by (with_reducible repeat (first | apply Kd.R_alloc | apply Kd.R_drewN | apply Kd.R_drew)); exact HO394.out) (Kd.R_base ho0) hb); have n1_ := Aside0.mk (Kd.R_lower (Kd.R_new' ho0 (Kd.R_lt (by (with_reducible repeat (first | apply Kd.R_alloc | apply Kd.R_drewN | apply Kd.R_drew)); exact HO394.out))) (below_size (by repeat (first | (with_reducible first | exact HB.out | apply below_alloc | apply pw_below_drewN | apply below_drew1) | exact HB.out)))); have n2_ := Aside0.mk (below_step (by repeat (first | (with_reducible first | exact HB.out | apply below_alloc | apply pw_below_drewN | apply below_drew1) | exact HB.out)) hb); clear HO394; clear HB; have HO394 := n0_; have HO398 := n1_; have HB := n2_; clear n0_ n1_ n2_; (try clear hb); (try clear hb2); (try clear hk); (try clear hi); (try clear ho0)) | ((with_reducible refine gate_callee (f := 30) rfl ?_); refine goesL_ (some 35) rfl rfl Tryd.func30 (by kernel_rfl) rfl #[.slice A1 l1.length c1] rfl (by (try simp only [List.map_toArray, List.map_cons, List.map_nil]); first | done | rfl | (simp only [List.length_drop, List.length_take]; rfl)) ?_; (with_reducible refine (epitomelaw15_few.calls (fun k_ => k_ < w.heap.size) _ _ l1 t399 _ ?side1 A9.out).mono ?_); (case side1 => exact Kd.V_mk HC1.out (Kd.F_below (Kd.C_F (Kd.heap_int .u8) HR1.out) (by repeat (first | (with_reducible first | exact HB.out | apply below_alloc | apply pw_below_drewN | apply below_drew1) | exact HB.out)))); rintro e w21 ⟨v400, rfl, ho0, hb⟩; refine ⟨_, rfl, ?_⟩; have n0_ := Aside0.mk (Kd.R_below (by (with_reducible repeat (first | apply Kd.R_alloc | apply Kd.R_drewN | apply Kd.R_drew)); exact HO394.out) hb); have n1_ := Aside0.mk (Kd.R_below (by (with_reducible repeat (first | apply Kd.R_alloc | apply Kd.R_drewN | apply Kd.R_drew)); exact HO398.out) hb); have n2_ := Aside0.mk (Kd.V_lower (Kd.V_mono (ok' := fun k_ => some k_ ≠ (v393 : Value).ownBlock ∧ some k_ ≠ (v397 : Value).ownBlock) ho0 (fun k_ hk_ => ⟨Or.elim hk_ (fun hs_ => fun e_ => Nat.not_le.2 hs_ (Kd.R_base HO394.out k_ e_.symm)) (fun hn_ => (Kd.fresh' (Kd.R_lt (by (with_reducible repeat (first | apply Kd.R_alloc | apply Kd.R_drewN | apply Kd.R_drew)); exact HO394.out)) k_ hn_)), Or.elim hk_ (fun hs_ => fun e_ => Nat.not_le.2 hs_ (Kd.R_base HO398.out k_ e_.symm)) (fun hn_ => (Kd.fresh' (Kd.R_lt (by (with_reducible repeat (first | apply Kd.R_alloc | apply Kd.R_drewN | apply Kd.R_drew)); exact HO398.out)) k_ hn_))⟩)) (below_size (by repeat (first | (with_reducible first | exact HB.out | apply below_alloc | apply pw_below_drewN | apply below_drew1) | exact HB.out)))); have n3_ := Aside0.mk (below_step (by repeat (first | (with_reducible first | exact HB.out | apply below_alloc | apply pw_below_drewN | apply below_drew1) | exact HB.out)) hb); clear HO394; clear HO398; clear HB; have HO394 := n0_; have HO398 := n1_; have HO401 := n2_; have HB := n3_; clear n0_ n1_ n2_ n3_; (try clear hb); (try clear hb2); (try clear hk); (try clear hi); (try clear ho0); obtain ⟨Ao22, co22, eo22⟩ := Kd.V_slice HO401.out; subst eo22) | ((with_reducible refine gate_callee (f := 35) rfl ?_); refine goesL_ (some 36) rfl rfl Tryd.func35 (by kernel_rfl) rfl #[.slice Ao22 t399.length co22] rfl (by (try simp only [List.map_toArray, List.map_cons, List.map_nil]); first | done | rfl | (simp only [List.length_drop, List.length_take]; rfl)) ?_; (with_reducible refine (snap_Take.calls k _ _ t399 t402 t403 t404 _ ?side1 ?side2 ?side3 A10.out).mono ?_); (case side1 => repeat (first | exact (Kd.V_reads' HO401.out).2.2 | (with_reducible refine Kd.C_alloc ?_ _) | (with_reducible refine Kd.C_drewN ?_ _) | (with_reducible refine Kd.C_drew ?_))); (case side2 => exact (Kd.V_reads' HO401.out).2.1); (case side3 => exact Tabs.below HT.out (by repeat (first | (with_reducible first | exact HB.out | apply below_alloc | apply pw_below_drewN | apply below_drew1) | exact HB.out))); rintro e w23 ⟨rfl, hb⟩; refine ⟨_, rfl, ?_⟩; have n0_ := Aside0.mk (Kd.R_below (by (with_reducible repeat (first | apply Kd.R_alloc | apply Kd.R_drewN | apply Kd.R_drew)); exact HO394.out) hb); have n1_ := Aside0.mk (Kd.R_below (by (with_reducible repeat (first | apply Kd.R_alloc | apply Kd.R_drewN | apply Kd.R_drew)); exact HO398.out) hb); have n2_ := Aside0.mk (Kd.V_below (by (with_reducible repeat (first | apply Kd.V_alloc | apply Kd.V_drewN | apply Kd.V_drew)); exact HO401.out) hb); have n3_ := Aside0.mk (below_step (by repeat (first | (with_reducible first | exact HB.out | apply below_alloc | apply pw_below_drewN | apply below_drew1) | exact HB.out)) hb); clear HO394; clear HO398; clear HO401; clear HB; have HO394 := n0_; have HO398 := n1_; have HO401 := n2_; have HB := n3_; clear n0_ n1_ n2_ n3_; (try clear hb); (try clear hb2); (try clear hk); (try clear hi)) | ((with_reducible refine gate_callee (f := 30) rfl ?_); refine goesL_ (some 42) rfl rfl Tryd.func30 (by kernel_rfl) rfl #[.slice A1 l1.length c1] rfl (by (try simp only [List.map_toArray, List.map_cons, List.map_nil]); first | done | rfl | (simp only [List.length_drop, List.length_take]; rfl)) ?_; (with_reducible refine (epitomelaw15_few.calls (fun k_ => k_ < w.heap.size) _ _ l1 t405 _ ?side1 A11.out).mono ?_); (case side1 => exact Kd.V_mk HC1.out (Kd.F_below (Kd.C_F (Kd.heap_int .u8) HR1.out) (by repeat (first | (with_reducible first | exact HB.out | apply below_alloc | apply pw_below_drewN | apply below_drew1) | exact HB.out)))); rintro e w24 ⟨v406, rfl, ho0, hb⟩; refine ⟨_, rfl, ?_⟩; have n0_ := Aside0.mk (Kd.R_below (by (with_reducible repeat (first | apply Kd.R_alloc | apply Kd.R_drewN | apply Kd.R_drew)); exact HO394.out) hb); have n1_ := Aside0.mk (Kd.R_below (by (with_reducible repeat (first | apply Kd.R_alloc | apply Kd.R_drewN | apply Kd.R_drew)); exact HO398.out) hb); have n2_ := Aside0.mk (Kd.V_below (by (with_reducible repeat (first | apply Kd.V_alloc | apply Kd.V_drewN | apply Kd.V_drew)); exact HO401.out) hb); have n3_ := Aside0.mk (Kd.V_lower (Kd.V_mono (ok' := fun k_ => some k_ ≠ (v393 : Value).ownBlock ∧ some k_ ≠ (v397 : Value).ownBlock) ho0 (fun k_ hk_ => ⟨Or.elim hk_ (fun hs_ => fun e_ => Nat.not_le.2 hs_ (Kd.R_base HO394.out k_ e_.symm)) (fun hn_ => (Kd.fresh' (Kd.R_lt (by (with_reducible repeat (first | apply Kd.R_alloc | apply Kd.R_drewN | apply Kd.R_drew)); exact HO394.out)) k_ hn_)), Or.elim hk_ (fun hs_ => fun e_ => Nat.not_le.2 hs_ (Kd.R_base HO398.out k_ e_.symm)) (fun hn_ => (Kd.fresh' (Kd.R_lt (by (with_reducible repeat (first | apply Kd.R_alloc | apply Kd.R_drewN | apply Kd.R_drew)); exact HO398.out)) k_ hn_))⟩)) (below_size (by repeat (first | (with_reducible first | exact HB.out | apply below_alloc | apply pw_below_drewN | apply below_drew1) | exact HB.out)))); have n4_ := Aside0.mk (below_step (by repeat (first | (with_reducible first | exact HB.out | apply below_alloc | apply pw_below_drewN | apply below_drew1) | exact HB.out)) hb); clear HO394; clear HO398; clear HO401; clear HB; have HO394 := n0_; have HO398 := n1_; have HO401 := n2_; have HO407 := n3_; have HB := n4_; clear n0_ n1_ n2_ n3_ n4_; (try clear hb); (try clear hb2); (try clear hk); (try clear hi); (try clear ho0); obtain ⟨Ao25, co25, eo25⟩ := Kd.V_slice HO407.out; subst eo25) | ((with_reducible refine gate_callee (f := 36) rfl ?_); refine goesL_ (some 43) rfl rfl Tryd.func36 (by kernel_rfl) rfl #[.slice Ao25 t405.length co25] rfl (by (try simp only [List.map_toArray, List.map_cons, List.map_nil]); first | done | rfl | (simp only [List.length_drop, List.length_take]; rfl)) ?_; (with_reducible refine (epitomeref15_Take.calls k _ _ t405 t408 t409 t410 _ ?side1 ?side2 A12.out).mono ?_); (case side1 => repeat (first | exact (Kd.V_reads' HO407.out).2.2 | (with_reducible refine Kd.C_alloc ?_ _) | (with_reducible refine Kd.C_drewN ?_ _) | (with_reducible refine Kd.C_drew ?_))); (case side2 => exact (Kd.V_reads' HO407.out).2.1); rintro e w26 ⟨rfl, hb⟩; refine ⟨_, rfl, ?_⟩; have n0_ := Aside0.mk (Kd.R_below (by (with_reducible repeat (first | apply Kd.R_alloc | apply Kd.R_drewN | apply Kd.R_drew)); exact HO394.out) hb); have n1_ := Aside0.mk (Kd.R_below (by (with_reducible repeat (first | apply Kd.R_alloc | apply Kd.R_drewN | apply Kd.R_drew)); exact HO398.out) hb); have n2_ := Aside0.mk (Kd.V_below (by (with_reducible repeat (first | apply Kd.V_alloc | apply Kd.V_drewN | apply Kd.V_drew)); exact HO401.out) hb); have n3_ := Aside0.mk (Kd.V_below (by (with_reducible repeat (first | apply Kd.V_alloc | apply Kd.V_drewN | apply Kd.V_drew)); exact HO407.out) hb); have n4_ := Aside0.mk (below_step (by repeat (first | (with_reducible first | exact HB.out | apply below_alloc | apply pw_below_drewN | apply below_drew1) | exact HB.out)) hb); clear HO394; clear HO398; clear HO401; clear HO407; clear HB; have HO394 := n0_; have HO398 := n1_; have HO401 := n2_; have HO407 := n3_; have HB := n4_; clear n0_ n1_ n2_ n3_ n4_; (try clear hb); (try clear hb2); (try clear hk); (try clear hi); have hcv27 := own_string (P := Tryd.prog) Tryd.underlying32 Tryd.underlying5 Tryd.underlying9 (Kd.own_of_R HO394.out); have hcv28 := fun (m_ : Nat) => own_string (P := Tryd.prog) Tryd.underlying32 Tryd.underlying5 Tryd.underlying9 (Kd.own_of_R (Kd.R_drewN HO394.out m_)); have hcv29 := own_string (P := Tryd.prog) Tryd.underlying32 Tryd.underlying5 Tryd.underlying9 (Kd.own_of_R HO398.out); have hcv30 := fun (m_ : Nat) => own_string (P := Tryd.prog) Tryd.underlying32 Tryd.underlying5 Tryd.underlying9 (Kd.own_of_R (Kd.R_drewN HO398.out m_))))
                go_ret
                exact ⟨by first | rfl | (simp [errW_none, errW_some] <;> rfl) | (simp only [← hji4]; first | rfl | (simp [errW_none, errW_some] <;> rfl)) | (simp [*, errW_none, errW_some] <;> rfl), by repeat (first | (with_reducible first | exact HB.out | apply below_alloc | apply pw_below_drewN | apply below_drew1) | exact HB.out)⟩
              · rw [if_neg c17] at H
                have c17b0 : (t403 == t409) = false := beq_eq_false_iff_ne.mpr c17
                have c17b1 : (t403 != t409) = true := bne_iff_ne.mpr c17
                obtain rfl := Option.some.inj H
                exact absurd HLAW.out (by decide)
            · rw [if_neg c16] at H
              have c16b0 : (t402.toList == t408.toList) = false := beq_eq_false_iff_ne.mpr c16
              have c16b1 : (t402.toList != t408.toList) = true := bne_iff_ne.mpr c16
              obtain rfl := Option.some.inj H
              exact absurd HLAW.out (by decide)
          · rw [if_neg c15] at H
            have c15b0 : (t392 == t396) = false := beq_eq_false_iff_ne.mpr c15
            have c15b1 : (t392 != t396) = true := bne_iff_ne.mpr c15
            obtain rfl := Option.some.inj H
            exact absurd HLAW.out (by decide)
        · rw [if_neg c14] at H
          have c14b0 : ((strOfNums t391).toList == (strOfNums t395).toList) = false := beq_eq_false_iff_ne.mpr c14
          have c14b1 : ((strOfNums t391).toList != (strOfNums t395).toList) = true := bne_iff_ne.mpr c14
          obtain rfl := Option.some.inj H
          exact absurd HLAW.out (by decide)
      · replace c13 := Bool.eq_false_iff.mpr c13
        subst c13
        have H1 : (some false) = some r := by rw [if_neg (show ¬ (false = true) by decide)] at H; exact H
        clear H
        have H := H1
        clear H1
        obtain rfl := Option.some.inj H
        exact absurd HLAW.out (by decide)
    · rw [if_neg c6] at H
      exact absurd H (by simp)
  · rw [if_neg c5] at H
    exact absurd H (by simp)

/-- THE ONE PURE STATEMENT of epitomelaw15_SnapAll: yours. -/
def epitomelaw15_SnapAll.Pure : Prop := ∀ (a0 : ByteArray) (l1 : List Int), a0.size ≤ 140737488351232 → l1.length ≤ maxLen → l1.length * 1 ≤ 140737488351232 → (∀ x ∈ l1, (Lit.int .u8 x).wf = true) → ∃ k, epitomelaw15_SnapAll.f k a0 l1 = some true
theorem epitomelaw15_SnapAll.walk (P : epitomelaw15_SnapAll.Pure) (a0 : ByteArray) (a1 : Option Addr) (len1 cap1 : Nat) (z1 : List Int) (w : World) (hT : Tabs w) (w0 : a0.size ≤ 140737488351232) (w1 : (a1 = none ∧ len1 = 0 ∧ cap1 = 0 ∧ z1 = []) ∨ ∃ x, a1 = some x ∧ len1 ≤ cap1 ∧ cap1 ≤ maxLen ∧ z1.length = cap1 ∧ (∀ i, i < z1.length → w.cell? (x.add i) = some (.int .u8 (z1.getD i 0))) ∧ ∀ n ∈ z1, (Lit.int .u8 n).wf = true) (y1 : len1 * 1 ≤ 140737488351232) :
    Calls Tryd.prog 11 #[.string a0, .slice a1 len1 cap1] w fun e w' => e = .returned (.bool true) ∧ Below w.heap.size w w' := by
  obtain ⟨l1, rfl, hr1, hm1, hw1, hc1⟩ := ReadsInt.ofRowC w1
  obtain ⟨k, h⟩ := P a0 l1 w0 hm1 y1 hw1
  refine (epitomelaw15_SnapAll.calls k a0 _ _ l1 true w (Kd.C_of_reads (d := (0 : Int)) (h1 := fun _ => rfl) hr1) hc1 hT h rfl).mono ?_
  rintro e w' ⟨rfl, hd⟩
  exact ⟨rfl, hd⟩

end Go.Proofs.YtolljobehfmffaaDoor.P
