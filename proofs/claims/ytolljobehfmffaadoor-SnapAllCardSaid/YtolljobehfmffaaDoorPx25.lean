-- WRITTEN BY A PROGRAM OF THIS SESSION (wip/pp in its repo), made after the kit's print
import Derived.Test.YtolljobehfmffaaDoorPx0
import Derived.Test.YtolljobehfmffaaDoorPx5
import Derived.Test.YtolljobehfmffaaDoorPx19
import Derived.Test.YtolljobehfmffaaDoorPx21
namespace Go.Proofs.YtolljobehfmffaaDoor.P
open Go.RowKit Go.Proofs.YtolljobehfmffaaDoorW.PrintWords Go.Proofs.YtolljobehfmffaaDoorW.PrintLast Go.Proofs.YtolljobehfmffaaDoorW.PrintMore
attribute [local go_sem] max2_int min2_int max_two min_two max_three min_three max_four min_four   -- for this text's walks alone
set_option linter.unusedVariables false
set_option linter.unusedSimpArgs false

/-! ### epitomeref15_Put: function 34 -/
def epitomeref15_Put.f (k : Nat) (a0 : ByteArray) : Option (List Int × Int) := (epitomeref01_Valid.f k a0).bind fun t377 => (if t377 = true then (if (a0.size : Int) > 65536 then (some (([] : List Int), 2)) else ((epitomeref02_Put.f k (a0.size : Int)).bind fun bt378 => (if bt378.1.length + a0.size < 140737488355328 then (some ((bt378.1 ++ bytesOf a0), 0)) else (none)))) else (some (([] : List Int), 3)))
theorem epitomeref15_Put.mono : ∀ a0 k, LeO (epitomeref15_Put.f k a0) (epitomeref15_Put.f (k + 1) a0) := by
  intro a0 k
  unfold epitomeref15_Put.f
  repeat' first
      | (with_reducible exact epitomeref01_Valid.mono _ _)
      | (with_reducible exact epitomeref02_Put.mono _ _)
      | (with_reducible exact LeO.refl _)
      | (with_reducible exact LeO.none _)
      | (with_reducible refine LeO.ite ?_ ?_)
      | (with_reducible refine LeO.bind ?_ (fun _ => ?_))
      | exact epitomeref01_Valid.mono _ _
      | exact epitomeref02_Put.mono _ _
      | exact LeO.none _
      | refine LeO.ite ?_ ?_
      | refine LeO.bind ?_ (fun _ => ?_)
set_option maxHeartbeats 8000000 in
set_option maxRecDepth 100000 in
theorem epitomeref15_Put.calls (k : Nat) (a0 : ByteArray) (r1 : List Int) (r2 : Int) (w : World) (h : epitomeref15_Put.f k a0 = some (r1, r2)) :
    Calls Tryd.prog 34 #[.string a0] w fun e w' => ∃ v0_ : Value, e = .returned (.tuple #[v0_, .int .i64 r2]) ∧ Kd.R (Kd.int .u8) 5 w' w.heap.size (fun _ => True) v0_ r1 ∧ Below w.heap.size w w' := by
  have HB := Aside0.mk (Below.refl w.heap.size w)
  have H : ((epitomeref01_Valid.f k a0).bind fun t377 => (if t377 = true then (if (a0.size : Int) > 65536 then (some (([] : List Int), 2)) else ((epitomeref02_Put.f k (a0.size : Int)).bind fun bt378 => (if bt378.1.length + a0.size < 140737488355328 then (some ((bt378.1 ++ bytesOf a0), 0)) else (none)))) else (some (([] : List Int), 3)))) = some (r1, r2) := h
  clear h
  replace H := Option.bind_eq_some_iff.mp H
  obtain ⟨t377, A20, H⟩ := H
  replace H : (if t377 = true then (if (a0.size : Int) > 65536 then (some (([] : List Int), 2)) else ((epitomeref02_Put.f k (a0.size : Int)).bind fun bt378 => (if bt378.1.length + a0.size < 140737488355328 then (some ((bt378.1 ++ bytesOf a0), 0)) else (none)))) else (some (([] : List Int), 3))) = some (r1, r2) := H
  have A2 := Aside0.mk A20
  clear A20
  by_cases c3 : t377 = true
  · subst c3
    have H1 : (if (a0.size : Int) > 65536 then (some (([] : List Int), 2)) else ((epitomeref02_Put.f k (a0.size : Int)).bind fun bt378 => (if bt378.1.length + a0.size < 140737488355328 then (some ((bt378.1 ++ bytesOf a0), 0)) else (none)))) = some (r1, r2) := by rw [if_pos rfl] at H; exact H
    clear H
    have H := H1
    clear H1
    by_cases c4 : (a0.size : Int) > 65536
    · rw [if_pos c4] at H
      have c4b0 : decide (65536 < (a0.size : Int)) = true := decide_eq_true c4
      have c4b1 : decide (65536 < a0.size) = true := decide_eq_true (by omega)
      clear c4
      simp only [Option.some.injEq, Prod.mk.injEq] at H
      obtain ⟨rfl, rfl⟩ := H
      go_enter Tryd.func34, Tryd.ntmps34
      go_wp2_with (first | ((with_reducible refine gate_callee (f := 19) rfl ?_); refine goesL_ (some 7) rfl rfl Tryd.func19 (by kernel_rfl) rfl #[.string a0] rfl (by (try simp only [List.map_toArray, List.map_cons, List.map_nil]); first | done | rfl | (simp only [List.length_drop, List.length_take]; rfl)) ?_; (with_reducible refine (epitomeref01_Valid.calls k a0 true _ A2.out).mono ?_); rintro e w5 ⟨rfl, hb⟩; refine ⟨_, rfl, ?_⟩; have n0_ := Aside0.mk (below_step (by repeat (first | (with_reducible first | exact HB.out | apply below_alloc | apply pw_below_drewN | apply below_drew1) | exact HB.out)) hb); clear HB; have HB := n0_; clear n0_; (try clear hb); (try clear hb2); (try clear hk); (try clear hi)))
      go_ret2
      exact ⟨_, by first | rfl | (simp [errW_none, errW_some] <;> rfl) | (simp [*, errW_none, errW_some] <;> rfl), by first | exact Kd.R_nil _ _ _ _ _ | exact Kd.N_nil _ _ _ _ _ | exact Kd.V_nil _ _ _ _ _ | exact Kd.Q_nil _ _ _ _ _ | exact Kd.S_nil _ _ _ _ _, by repeat (first | (with_reducible first | exact HB.out | apply below_alloc | apply pw_below_drewN | apply below_drew1) | exact HB.out)⟩
    · rw [if_neg c4] at H
      have c4b0 : decide (65536 < (a0.size : Int)) = false := decide_eq_false c4
      have c4b1 : decide (65536 < a0.size) = false := decide_eq_false (by omega)
      clear c4
      replace H := Option.bind_eq_some_iff.mp H
      obtain ⟨⟨t378, t379⟩, A60, H⟩ := H
      replace H : (if t378.length + a0.size < 140737488355328 then (some ((t378 ++ bytesOf a0), 0)) else (none)) = some (r1, r2) := H
      have A6 := Aside0.mk A60
      clear A60
      by_cases c7 : t378.length + a0.size < 140737488355328
      · rw [if_pos c7] at H
        have LMc7 := Aside0.mk c7
        clear c7
        obtain ⟨y382, hy382⟩ : ∃ y_ : List Int, y_ = (t378 ++ bytesOf a0) := ⟨_, rfl⟩
        replace H : (some (y382, 0)) = some (r1, r2) := by first | (rw [hy382]; with_reducible exact H) | (have H2_ := (Option.bind_some _ _).symm.trans H; rw [hy382]; with_reducible exact H2_) | (have H2_ := (Option.bind_some _ _).symm.trans H; with_reducible exact H2_) | with_reducible exact H | (rw [hy382]; exact H) | exact H
        have Ny382 := Aside0.mk hy382
        clear hy382
        simp only [Option.some.injEq, Prod.mk.injEq] at H
        obtain ⟨rfl, rfl⟩ := H
        go_enter Tryd.func34, Tryd.ntmps34
        go_wp2_with (first | ((with_reducible refine gate_callee (f := 19) rfl ?_); refine goesL_ (some 7) rfl rfl Tryd.func19 (by kernel_rfl) rfl #[.string a0] rfl (by (try simp only [List.map_toArray, List.map_cons, List.map_nil]); first | done | rfl | (simp only [List.length_drop, List.length_take]; rfl)) ?_; (with_reducible refine (epitomeref01_Valid.calls k a0 true _ A2.out).mono ?_); rintro e w8 ⟨rfl, hb⟩; refine ⟨_, rfl, ?_⟩; have n0_ := Aside0.mk (below_step (by repeat (first | (with_reducible first | exact HB.out | apply below_alloc | apply pw_below_drewN | apply below_drew1) | exact HB.out)) hb); clear HB; have HB := n0_; clear n0_; (try clear hb); (try clear hb2); (try clear hk); (try clear hi)) | ((with_reducible refine gate_callee (f := 44) rfl ?_); refine goesL_ (some 15) rfl rfl Tryd.func44 (by kernel_rfl) rfl #[.int .i64 (a0.size : Int)] rfl (by (try simp only [List.map_toArray, List.map_cons, List.map_nil]); first | done | rfl | (simp only [List.length_drop, List.length_take]; rfl)) ?_; (with_reducible refine (epitomeref02_Put.calls k (a0.size : Int) t378 t379 _ A6.out).mono ?_); rintro e w9 ⟨v380, rfl, ho0, hb⟩; refine ⟨_, rfl, ?_⟩; have n0_ := Aside0.mk (Kd.R_lower ho0 (below_size (by repeat (first | (with_reducible first | exact HB.out | apply below_alloc | apply pw_below_drewN | apply below_drew1) | exact HB.out)))); have n1_ := Aside0.mk (below_step (by repeat (first | (with_reducible first | exact HB.out | apply below_alloc | apply pw_below_drewN | apply below_drew1) | exact HB.out)) hb); clear HB; have HO381 := n0_; have HB := n1_; clear n0_ n1_; (try clear hb); (try clear hb2); (try clear hk); (try clear hi); (try clear ho0)) | (at_builtin; refine print_append_str (w0 := w) w.heap.size rfl (.tmp 18) _ 32 9 5 rfl Tryd.underlying32 Tryd.underlying9 info5 v380 t378 a0 rfl rfl ?aO ?aB ?aS ?aL ?_; (case aB => exact (by repeat (first | (with_reducible first | exact HB.out | apply below_alloc | apply pw_below_drewN | apply below_drew1) | exact HB.out))); (case aO => exact (Kd.own_of_R (by (with_reducible repeat (first | apply Kd.R_alloc | apply Kd.R_drewN | apply Kd.R_drew)); exact HO381.out))); (case aS => exact (below_size (by repeat (first | (with_reducible first | exact HB.out | apply below_alloc | apply pw_below_drewN | apply below_drew1) | exact HB.out)))); (case aL => have := LMc7.out; omega); intro v383 w10 ho0 hb hg; have ho := Kd.R_of_own (h1 := fun _ => rfl) (ok := fun _ => True) ho0 (fun _ _ => trivial); clear ho0; have hat := True.intro; rw [← Ny382.out] at ho; change Kd.R (Kd.int .u8) 5 w10 w.heap.size (fun _ => True) v383 y382 at ho; have n0_ := Aside0.mk (hb); have n1_ := Aside0.mk (ho); clear HB; clear HO381; have HB := n0_; have HO384 := n1_; clear n0_ n1_; clear ho hb hg hat))
        go_ret2
        exact ⟨_, by first | rfl | (simp [errW_none, errW_some] <;> rfl) | (simp [*, errW_none, errW_some] <;> rfl), by (with_reducible repeat (first | apply Kd.R_alloc | apply Kd.R_drewN | apply Kd.R_drew)); exact HO384.out, by repeat (first | (with_reducible first | exact HB.out | apply below_alloc | apply pw_below_drewN | apply below_drew1) | exact HB.out)⟩
      · rw [if_neg c7] at H
        exact absurd H (by simp)
  · replace c3 := Bool.eq_false_iff.mpr c3
    subst c3
    have H1 : (some (([] : List Int), 3)) = some (r1, r2) := by rw [if_neg (show ¬ (false = true) by decide)] at H; exact H
    clear H
    have H := H1
    clear H1
    simp only [Option.some.injEq, Prod.mk.injEq] at H
    obtain ⟨rfl, rfl⟩ := H
    go_enter Tryd.func34, Tryd.ntmps34
    go_wp2_with (first | ((with_reducible refine gate_callee (f := 19) rfl ?_); refine goesL_ (some 7) rfl rfl Tryd.func19 (by kernel_rfl) rfl #[.string a0] rfl (by (try simp only [List.map_toArray, List.map_cons, List.map_nil]); first | done | rfl | (simp only [List.length_drop, List.length_take]; rfl)) ?_; (with_reducible refine (epitomeref01_Valid.calls k a0 false _ A2.out).mono ?_); rintro e w11 ⟨rfl, hb⟩; refine ⟨_, rfl, ?_⟩; have n0_ := Aside0.mk (below_step (by repeat (first | (with_reducible first | exact HB.out | apply below_alloc | apply pw_below_drewN | apply below_drew1) | exact HB.out)) hb); clear HB; have HB := n0_; clear n0_; (try clear hb); (try clear hb2); (try clear hk); (try clear hi)))
    go_ret2
    exact ⟨_, by first | rfl | (simp [errW_none, errW_some] <;> rfl) | (simp [*, errW_none, errW_some] <;> rfl), by first | exact Kd.R_nil _ _ _ _ _ | exact Kd.N_nil _ _ _ _ _ | exact Kd.V_nil _ _ _ _ _ | exact Kd.Q_nil _ _ _ _ _ | exact Kd.S_nil _ _ _ _ _, by repeat (first | (with_reducible first | exact HB.out | apply below_alloc | apply pw_below_drewN | apply below_drew1) | exact HB.out)⟩

/-! ### epitomeref15_Take: function 36 -/
def epitomeref15_Take.f (k : Nat) (l0 : List Int) : Option (ByteArray × Int × Int) := (epitomeref02_Take.f k l0).bind fun bt385 => (if bt385.2.2 = 0 then (if bt385.1 > 65536 then (some ((⟨#[]⟩ : ByteArray), 0, 8)) else (if (wrap64 ((l0.length : Int) - bt385.2.1)) < bt385.1 then (some ((⟨#[]⟩ : ByteArray), 0, 7)) else (if 0 ≤ bt385.2.1 then (if bt385.2.1 ≤ (wrap64 (bt385.2.1 + bt385.1)) then (if (wrap64 (bt385.2.1 + bt385.1)) ≤ (l0.length : Int) then ((epitomeref01_Valid.f k (strOfNums ((l0.take ((wrap64 (bt385.2.1 + bt385.1)) : Int).toNat).drop (bt385.2.1 : Int).toNat))).bind fun t389 => (if t389 = true then (some (strOfNums ((l0.take ((wrap64 (bt385.2.1 + bt385.1)) : Int).toNat).drop (bt385.2.1 : Int).toNat), wrap64 (bt385.2.1 + bt385.1), 0)) else (some ((⟨#[]⟩ : ByteArray), 0, 8)))) else (none)) else (none)) else (none)))) else (some ((⟨#[]⟩ : ByteArray), 0, bt385.2.2)))
theorem epitomeref15_Take.mono : ∀ a0 k, LeO (epitomeref15_Take.f k a0) (epitomeref15_Take.f (k + 1) a0) := by
  intro a0 k
  unfold epitomeref15_Take.f
  repeat' first
      | (with_reducible exact epitomeref01_Valid.mono _ _)
      | (with_reducible exact epitomeref02_Take.mono _ _)
      | (with_reducible exact LeO.refl _)
      | (with_reducible exact LeO.none _)
      | (with_reducible refine LeO.ite ?_ ?_)
      | (with_reducible refine LeO.bind ?_ (fun _ => ?_))
      | exact epitomeref01_Valid.mono _ _
      | exact epitomeref02_Take.mono _ _
      | exact LeO.none _
      | refine LeO.ite ?_ ?_
      | refine LeO.bind ?_ (fun _ => ?_)
set_option maxHeartbeats 8000000 in
set_option maxRecDepth 100000 in
theorem epitomeref15_Take.calls (k : Nat) (A0 : Option Addr) (c0 : Nat) (l0 : List Int) (r1 : ByteArray) (r2 : Int) (r3 : Int) (w : World) (hr0 : Kd.C (Kd.int .u8) w A0 l0.length l0) (hc0 : l0.length ≤ c0) (h : epitomeref15_Take.f k l0 = some (r1, r2, r3)) :
    Calls Tryd.prog 36 #[.slice A0 l0.length c0] w fun e w' => e = .returned (.tuple #[.string r1, .int .i64 r2, .int .i64 r3]) ∧ Below w.heap.size w w' := by
  have HR0 := Aside0.mk hr0
  have HC0 := Aside0.mk hc0
  clear hr0 hc0
  have HB := Aside0.mk (Below.refl w.heap.size w)
  have H : ((epitomeref02_Take.f k l0).bind fun bt385 => (if bt385.2.2 = 0 then (if bt385.1 > 65536 then (some ((⟨#[]⟩ : ByteArray), 0, 8)) else (if (wrap64 ((l0.length : Int) - bt385.2.1)) < bt385.1 then (some ((⟨#[]⟩ : ByteArray), 0, 7)) else (if 0 ≤ bt385.2.1 then (if bt385.2.1 ≤ (wrap64 (bt385.2.1 + bt385.1)) then (if (wrap64 (bt385.2.1 + bt385.1)) ≤ (l0.length : Int) then ((epitomeref01_Valid.f k (strOfNums ((l0.take ((wrap64 (bt385.2.1 + bt385.1)) : Int).toNat).drop (bt385.2.1 : Int).toNat))).bind fun t389 => (if t389 = true then (some (strOfNums ((l0.take ((wrap64 (bt385.2.1 + bt385.1)) : Int).toNat).drop (bt385.2.1 : Int).toNat), wrap64 (bt385.2.1 + bt385.1), 0)) else (some ((⟨#[]⟩ : ByteArray), 0, 8)))) else (none)) else (none)) else (none)))) else (some ((⟨#[]⟩ : ByteArray), 0, bt385.2.2)))) = some (r1, r2, r3) := h
  clear h
  replace H := Option.bind_eq_some_iff.mp H
  obtain ⟨⟨t385, t386, t387⟩, A20, H⟩ := H
  replace H : (if t387 = 0 then (if t385 > 65536 then (some ((⟨#[]⟩ : ByteArray), 0, 8)) else (if (wrap64 ((l0.length : Int) - t386)) < t385 then (some ((⟨#[]⟩ : ByteArray), 0, 7)) else (if 0 ≤ t386 then (if t386 ≤ (wrap64 (t386 + t385)) then (if (wrap64 (t386 + t385)) ≤ (l0.length : Int) then ((epitomeref01_Valid.f k (strOfNums ((l0.take ((wrap64 (t386 + t385)) : Int).toNat).drop (t386 : Int).toNat))).bind fun t389 => (if t389 = true then (some (strOfNums ((l0.take ((wrap64 (t386 + t385)) : Int).toNat).drop (t386 : Int).toNat), wrap64 (t386 + t385), 0)) else (some ((⟨#[]⟩ : ByteArray), 0, 8)))) else (none)) else (none)) else (none)))) else (some ((⟨#[]⟩ : ByteArray), 0, t387))) = some (r1, r2, r3) := H
  have A2 := Aside0.mk A20
  clear A20
  by_cases c3 : t387 = 0
  · rw [if_pos c3] at H
    have c3b0 : (t387 == 0) = true := beq_iff_eq.mpr c3
    have c3b1 : (t387 != 0) = false := bne_eq_false_iff_eq.mpr c3
    clear c3
    by_cases c4 : t385 > 65536
    · rw [if_pos c4] at H
      have c4b0 : decide (65536 < t385) = true := decide_eq_true c4
      clear c4
      simp only [Option.some.injEq, Prod.mk.injEq] at H
      obtain ⟨rfl, rfl, rfl⟩ := H
      go_enter Tryd.func36, Tryd.ntmps36
      go_wp2_with (first | ((with_reducible refine gate_callee (f := 46) rfl ?_); refine goesL_ (some 11) rfl rfl Tryd.func46 (by kernel_rfl) rfl #[.slice A0 l0.length c0] rfl (by (try simp only [List.map_toArray, List.map_cons, List.map_nil]); first | done | rfl | (simp only [List.length_drop, List.length_take]; rfl)) ?_; (with_reducible refine (epitomeref02_Take.calls k _ _ l0 t385 t386 t387 _ ?side1 ?side2 A2.out).mono ?_); (case side1 => repeat (first | exact HR0.out | (with_reducible refine Kd.C_alloc ?_ _) | (with_reducible refine Kd.C_drewN ?_ _) | (with_reducible refine Kd.C_drew ?_))); (case side2 => exact HC0.out); rintro e w' ⟨rfl, ⟨nd, rfl⟩⟩; refine ⟨_, rfl, ?_⟩))
      go_ret3
      exact ⟨by first | rfl | (simp [errW_none, errW_some] <;> rfl) | (simp [*, errW_none, errW_some] <;> rfl), by repeat (first | (with_reducible first | exact HB.out | apply below_alloc | apply pw_below_drewN | apply below_drew1) | exact HB.out)⟩
    · rw [if_neg c4] at H
      have c4b0 : decide (65536 < t385) = false := decide_eq_false c4
      clear c4
      by_cases c5 : (wrap64 ((l0.length : Int) - t386)) < t385
      · rw [if_pos c5] at H
        have c5b0 : decide ((wrap64 ((l0.length : Int) - t386)) < t385) = true := decide_eq_true c5
        clear c5
        simp only [Option.some.injEq, Prod.mk.injEq] at H
        obtain ⟨rfl, rfl, rfl⟩ := H
        go_enter Tryd.func36, Tryd.ntmps36
        go_wp2_with (first | ((with_reducible refine gate_callee (f := 46) rfl ?_); refine goesL_ (some 11) rfl rfl Tryd.func46 (by kernel_rfl) rfl #[.slice A0 l0.length c0] rfl (by (try simp only [List.map_toArray, List.map_cons, List.map_nil]); first | done | rfl | (simp only [List.length_drop, List.length_take]; rfl)) ?_; (with_reducible refine (epitomeref02_Take.calls k _ _ l0 t385 t386 t387 _ ?side1 ?side2 A2.out).mono ?_); (case side1 => repeat (first | exact HR0.out | (with_reducible refine Kd.C_alloc ?_ _) | (with_reducible refine Kd.C_drewN ?_ _) | (with_reducible refine Kd.C_drew ?_))); (case side2 => exact HC0.out); rintro e w' ⟨rfl, ⟨nd, rfl⟩⟩; refine ⟨_, rfl, ?_⟩))
        go_ret3
        exact ⟨by first | rfl | (simp [errW_none, errW_some] <;> rfl) | (simp [*, errW_none, errW_some] <;> rfl), by repeat (first | (with_reducible first | exact HB.out | apply below_alloc | apply pw_below_drewN | apply below_drew1) | exact HB.out)⟩
      · rw [if_neg c5] at H
        have c5b0 : decide ((wrap64 ((l0.length : Int) - t386)) < t385) = false := decide_eq_false c5
        clear c5
        by_cases c6 : 0 ≤ t386
        · rw [if_pos c6] at H
          have c6b0 := eq_true c6
          have c6b1 : decide (0 ≤ t386) = true := decide_eq_true c6
          clear c6
          by_cases c7 : t386 ≤ (wrap64 (t386 + t385))
          · rw [if_pos c7] at H
            have c7b0 := eq_true c7
            have c7b1 : decide (t386 ≤ (wrap64 (t386 + t385))) = true := decide_eq_true c7
            by_cases c8 : (wrap64 (t386 + t385)) ≤ (l0.length : Int)
            · rw [if_pos c8] at H
              have c8b0 := eq_true c8
              have c8b1 : decide ((wrap64 (t386 + t385)) ≤ (l0.length : Int)) = true := decide_eq_true c8
              replace H := Option.bind_eq_some_iff.mp H
              obtain ⟨t389, A90, H⟩ := H
              replace H : (if t389 = true then (some (strOfNums ((l0.take ((wrap64 (t386 + t385)) : Int).toNat).drop (t386 : Int).toNat), wrap64 (t386 + t385), 0)) else (some ((⟨#[]⟩ : ByteArray), 0, 8))) = some (r1, r2, r3) := H
              have A9 := Aside0.mk A90
              clear A90
              by_cases c10 : t389 = true
              · subst c10
                have H1 : (some (strOfNums ((l0.take ((wrap64 (t386 + t385)) : Int).toNat).drop (t386 : Int).toNat), wrap64 (t386 + t385), 0)) = some (r1, r2, r3) := by rw [if_pos rfl] at H; exact H
                clear H
                have H := H1
                clear H1
                simp only [Option.some.injEq, Prod.mk.injEq] at H
                obtain ⟨rfl, rfl, rfl⟩ := H
                go_enter Tryd.func36, Tryd.ntmps36
                go_wp2_with (first | ((with_reducible refine gate_callee (f := 46) rfl ?_); refine goesL_ (some 11) rfl rfl Tryd.func46 (by kernel_rfl) rfl #[.slice A0 l0.length c0] rfl (by (try simp only [List.map_toArray, List.map_cons, List.map_nil]); first | done | rfl | (simp only [List.length_drop, List.length_take]; rfl)) ?_; (with_reducible refine (epitomeref02_Take.calls k _ _ l0 t385 t386 t387 _ ?side1 ?side2 A2.out).mono ?_); (case side1 => repeat (first | exact HR0.out | (with_reducible refine Kd.C_alloc ?_ _) | (with_reducible refine Kd.C_drewN ?_ _) | (with_reducible refine Kd.C_drew ?_))); (case side2 => exact HC0.out); rintro e w' ⟨rfl, ⟨nd, rfl⟩⟩; refine ⟨_, rfl, ?_⟩; obtain ⟨i011, hi011, _, hsz11, _⟩ := info_parts info5; obtain ⟨A11, hcut11, hA11, hC11⟩ := print_mid_of (P := Tryd.prog) (Value.int .u8) 0 32 5 .i64 .i64 Tryd.underlying32 hi011 hsz11 A0 c0 l0 t386 (wrap64 (t386 + t385)) (of_decide_eq_true (by first | (with_reducible assumption) | assumption)) (by first | omega | exact of_decide_eq_true (by first | (with_reducible assumption) | assumption)) (of_decide_eq_true (by first | (with_reducible assumption) | assumption)) HC0.out; have HR388 := Aside0.mk (Kd.C_of_reads (h1 := fun _ => rfl) (hA11 _ (Kd.reads_of_C HR0.out))); have HC388 := Aside0.mk hC11; clear hA11 hC11 hi011 hsz11; have hcv12 := Kd.C_string (P := Tryd.prog) (A := A11) (c := (c0 - t386.toNat)) Tryd.underlying32 Tryd.underlying5 Tryd.underlying9 HR388.out; have hcv13 := fun (m_ : Nat) => Kd.C_string (P := Tryd.prog) (A := A11) (c := (c0 - t386.toNat)) Tryd.underlying32 Tryd.underlying5 Tryd.underlying9 (Kd.C_drewN HR388.out m_)); have hl_ : ((l0.take (((wrap64 (t386 + t385))) : Int).toNat).drop (t386 : Int).toNat).length = ((wrap64 (t386 + t385)) : Int).toNat - (t386 : Int).toNat := (by (have h_ : (wrap64 (t386 + t385)) ≤ (l0.length : Int) := (by first | exact of_decide_eq_true (by assumption) | omega)); rw [List.length_drop, List.length_take, Nat.min_eq_left (by omega)]); have hcv12b := hcv12; (try rw [hl_] at hcv12b); have hcv13b := hcv13; (try simp only [hl_] at hcv13b); clear hl_ | ((with_reducible refine gate_callee (f := 19) rfl ?_); refine goesL_ (some 34) rfl rfl Tryd.func19 (by kernel_rfl) rfl #[.string (strOfNums ((l0.take ((wrap64 (t386 + t385)) : Int).toNat).drop (t386 : Int).toNat))] rfl (by (try simp only [List.map_toArray, List.map_cons, List.map_nil]); first | done | rfl | (simp only [List.length_drop, List.length_take]; rfl)) ?_; (with_reducible refine (epitomeref01_Valid.calls k (strOfNums ((l0.take ((wrap64 (t386 + t385)) : Int).toNat).drop (t386 : Int).toNat)) true _ A9.out).mono ?_); rintro e w14 ⟨rfl, hb⟩; refine ⟨_, rfl, ?_⟩; have n0_ := Aside0.mk (below_step (by repeat (first | (with_reducible first | exact HB.out | apply below_alloc | apply pw_below_drewN | apply below_drew1) | exact HB.out)) hb); clear HB; have HB := n0_; clear n0_; (try clear hb); (try clear hb2); (try clear hk); (try clear hi)))
                go_ret3
                exact ⟨by first | rfl | (simp [errW_none, errW_some] <;> rfl) | (simp [*, errW_none, errW_some] <;> rfl), by repeat (first | (with_reducible first | exact HB.out | apply below_alloc | apply pw_below_drewN | apply below_drew1) | exact HB.out)⟩
              · replace c10 := Bool.eq_false_iff.mpr c10
                subst c10
                have H1 : (some ((⟨#[]⟩ : ByteArray), 0, 8)) = some (r1, r2, r3) := by rw [if_neg (show ¬ (false = true) by decide)] at H; exact H
                clear H
                have H := H1
                clear H1
                simp only [Option.some.injEq, Prod.mk.injEq] at H
                obtain ⟨rfl, rfl, rfl⟩ := H
                go_enter Tryd.func36, Tryd.ntmps36
                go_wp2_with (first | ((with_reducible refine gate_callee (f := 46) rfl ?_); refine goesL_ (some 11) rfl rfl Tryd.func46 (by kernel_rfl) rfl #[.slice A0 l0.length c0] rfl (by (try simp only [List.map_toArray, List.map_cons, List.map_nil]); first | done | rfl | (simp only [List.length_drop, List.length_take]; rfl)) ?_; (with_reducible refine (epitomeref02_Take.calls k _ _ l0 t385 t386 t387 _ ?side1 ?side2 A2.out).mono ?_); (case side1 => repeat (first | exact HR0.out | (with_reducible refine Kd.C_alloc ?_ _) | (with_reducible refine Kd.C_drewN ?_ _) | (with_reducible refine Kd.C_drew ?_))); (case side2 => exact HC0.out); rintro e w' ⟨rfl, ⟨nd, rfl⟩⟩; refine ⟨_, rfl, ?_⟩; obtain ⟨i015, hi015, _, hsz15, _⟩ := info_parts info5; obtain ⟨A15, hcut15, hA15, hC15⟩ := print_mid_of (P := Tryd.prog) (Value.int .u8) 0 32 5 .i64 .i64 Tryd.underlying32 hi015 hsz15 A0 c0 l0 t386 (wrap64 (t386 + t385)) (of_decide_eq_true (by first | (with_reducible assumption) | assumption)) (by first | omega | exact of_decide_eq_true (by first | (with_reducible assumption) | assumption)) (of_decide_eq_true (by first | (with_reducible assumption) | assumption)) HC0.out; have HR388 := Aside0.mk (Kd.C_of_reads (h1 := fun _ => rfl) (hA15 _ (Kd.reads_of_C HR0.out))); have HC388 := Aside0.mk hC15; clear hA15 hC15 hi015 hsz15; have hcv16 := Kd.C_string (P := Tryd.prog) (A := A15) (c := (c0 - t386.toNat)) Tryd.underlying32 Tryd.underlying5 Tryd.underlying9 HR388.out; have hcv17 := fun (m_ : Nat) => Kd.C_string (P := Tryd.prog) (A := A15) (c := (c0 - t386.toNat)) Tryd.underlying32 Tryd.underlying5 Tryd.underlying9 (Kd.C_drewN HR388.out m_)); have hl_ : ((l0.take (((wrap64 (t386 + t385))) : Int).toNat).drop (t386 : Int).toNat).length = ((wrap64 (t386 + t385)) : Int).toNat - (t386 : Int).toNat := (by (have h_ : (wrap64 (t386 + t385)) ≤ (l0.length : Int) := (by first | exact of_decide_eq_true (by assumption) | omega)); rw [List.length_drop, List.length_take, Nat.min_eq_left (by omega)]); have hcv16b := hcv16; (try rw [hl_] at hcv16b); have hcv17b := hcv17; (try simp only [hl_] at hcv17b); clear hl_ | ((with_reducible refine gate_callee (f := 19) rfl ?_); refine goesL_ (some 34) rfl rfl Tryd.func19 (by kernel_rfl) rfl #[.string (strOfNums ((l0.take ((wrap64 (t386 + t385)) : Int).toNat).drop (t386 : Int).toNat))] rfl (by (try simp only [List.map_toArray, List.map_cons, List.map_nil]); first | done | rfl | (simp only [List.length_drop, List.length_take]; rfl)) ?_; (with_reducible refine (epitomeref01_Valid.calls k (strOfNums ((l0.take ((wrap64 (t386 + t385)) : Int).toNat).drop (t386 : Int).toNat)) false _ A9.out).mono ?_); rintro e w18 ⟨rfl, hb⟩; refine ⟨_, rfl, ?_⟩; have n0_ := Aside0.mk (below_step (by repeat (first | (with_reducible first | exact HB.out | apply below_alloc | apply pw_below_drewN | apply below_drew1) | exact HB.out)) hb); clear HB; have HB := n0_; clear n0_; (try clear hb); (try clear hb2); (try clear hk); (try clear hi)))
                go_ret3
                exact ⟨by first | rfl | (simp [errW_none, errW_some] <;> rfl) | (simp [*, errW_none, errW_some] <;> rfl), by repeat (first | (with_reducible first | exact HB.out | apply below_alloc | apply pw_below_drewN | apply below_drew1) | exact HB.out)⟩
            · rw [if_neg c8] at H
              exact absurd H (by simp)
          · rw [if_neg c7] at H
            exact absurd H (by simp)
        · rw [if_neg c6] at H
          exact absurd H (by simp)
  · rw [if_neg c3] at H
    have c3b0 : (t387 == 0) = false := beq_eq_false_iff_ne.mpr c3
    have c3b1 : (t387 != 0) = true := bne_iff_ne.mpr c3
    simp only [Option.some.injEq, Prod.mk.injEq] at H
    obtain ⟨rfl, rfl, rfl⟩ := H
    go_enter Tryd.func36, Tryd.ntmps36
    go_wp2_with (first | ((with_reducible refine gate_callee (f := 46) rfl ?_); refine goesL_ (some 11) rfl rfl Tryd.func46 (by kernel_rfl) rfl #[.slice A0 l0.length c0] rfl (by (try simp only [List.map_toArray, List.map_cons, List.map_nil]); first | done | rfl | (simp only [List.length_drop, List.length_take]; rfl)) ?_; (with_reducible refine (epitomeref02_Take.calls k _ _ l0 t385 t386 t387 _ ?side1 ?side2 A2.out).mono ?_); (case side1 => repeat (first | exact HR0.out | (with_reducible refine Kd.C_alloc ?_ _) | (with_reducible refine Kd.C_drewN ?_ _) | (with_reducible refine Kd.C_drew ?_))); (case side2 => exact HC0.out); rintro e w' ⟨rfl, ⟨nd, rfl⟩⟩; refine ⟨_, rfl, ?_⟩))
    go_ret3
    exact ⟨by first | rfl | (simp [errW_none, errW_some] <;> rfl) | (simp [*, errW_none, errW_some] <;> rfl), by repeat (first | (with_reducible first | exact HB.out | apply below_alloc | apply pw_below_drewN | apply below_drew1) | exact HB.out)⟩

end Go.Proofs.YtolljobehfmffaaDoor.P
