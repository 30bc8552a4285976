-- WRITTEN BY A PROGRAM OF THIS SESSION (wip/pp in its repo), made after the kit's print
import Derived.Test.YtolljobehfmffaaDoorPx0
import Derived.Test.YtolljobehfmffaaDoorPx1
import Derived.Test.YtolljobehfmffaaDoorPx13
namespace Go.Proofs.YtolljobehfmffaaDoor.P
open Go.RowKit Go.Proofs.YtolljobehfmffaaDoorW.PrintWords Go.Proofs.YtolljobehfmffaaDoorW.PrintLast Go.Proofs.YtolljobehfmffaaDoorW.PrintMore
attribute [local go_sem] max2_int min2_int max_two min_two max_three min_three max_four min_four   -- for this text's walks alone
set_option linter.unusedVariables false
set_option linter.unusedSimpArgs false

/-! ### epitomeref15_SameRow: function 32 -/
def epitomeref15_SameRow.l0 : Nat → List Int → List Int → Int → Option (Bool)
  | 0, _, _, _ => none
  | k + 1, x0, x1, x5 => if x5 < (x0.length : Int) then (if 0 ≤ x5 then (if x5 < (x1.length : Int) then (if (rd x0 x5) = (rd x1 x5) then (epitomeref15_SameRow.l0 k x0 x1 (wrap64 (x5 + 1))) else (some false)) else (none)) else (none)) else (some true)
def epitomeref15_SameRow.f (k : Nat) (l0 : List Int) (l1 : List Int) : Option (Bool) := if (l0.length : Int) = (l1.length : Int) then (epitomeref15_SameRow.l0 k l0 l1 0) else (some false)
theorem epitomeref15_SameRow.mono_l : ∀ k, (∀ y0 y1 y2, LeO (epitomeref15_SameRow.l0 k y0 y1 y2) (epitomeref15_SameRow.l0 (k + 1) y0 y1 y2))
  | 0 => fun _ _ _ r h => by simp [epitomeref15_SameRow.l0] at h
  | k + 1 => by
    have ih0 := epitomeref15_SameRow.mono_l k
    · intro y0 y1 y2
      unfold epitomeref15_SameRow.l0
      repeat' first
      | (with_reducible exact ih0 _ _ _)
      | (with_reducible exact LeO.refl _)
      | (with_reducible exact LeO.none _)
      | (with_reducible refine LeO.ite ?_ ?_)
      | (with_reducible refine LeO.bind ?_ (fun _ => ?_))
      | exact ih0 _ _ _
      | exact LeO.none _
      | refine LeO.ite ?_ ?_
      | refine LeO.bind ?_ (fun _ => ?_)
theorem epitomeref15_SameRow.mono : ∀ a0 a1 k, LeO (epitomeref15_SameRow.f k a0 a1) (epitomeref15_SameRow.f (k + 1) a0 a1) := by
  intro a0 a1 k
  have ih0 := epitomeref15_SameRow.mono_l k
  unfold epitomeref15_SameRow.f
  repeat' first
      | (with_reducible exact ih0 _ _ _)
      | (with_reducible exact LeO.refl _)
      | (with_reducible exact LeO.none _)
      | (with_reducible refine LeO.ite ?_ ?_)
      | (with_reducible refine LeO.bind ?_ (fun _ => ?_))
      | exact ih0 _ _ _
      | exact LeO.none _
      | refine LeO.ite ?_ ?_
      | refine LeO.bind ?_ (fun _ => ?_)
set_option maxHeartbeats 8000000 in
set_option maxRecDepth 100000 in
theorem epitomeref15_SameRow.calls (k : Nat) (A0 : Option Addr) (c0 : Nat) (l0 : List Int) (A1 : Option Addr) (c1 : Nat) (l1 : List Int) (r : Bool) (w : World) (hr0 : Kd.C (Kd.int .i64) w A0 l0.length l0) (hc0 : l0.length ≤ c0) (hr1 : Kd.C (Kd.int .i64) w A1 l1.length l1) (hc1 : l1.length ≤ c1) (h : epitomeref15_SameRow.f k l0 l1 = some r) :
    Calls Tryd.prog 32 #[.slice A0 l0.length c0, .slice A1 l1.length c1] w fun e w' => e = .returned (.bool r) ∧ Drawn0 w w' := by
  have HR0 := Aside0.mk hr0
  have HC0 := Aside0.mk hc0
  clear hr0 hc0
  have HR1 := Aside0.mk hr1
  have HC1 := Aside0.mk hc1
  clear hr1 hc1
  have H : (if (l0.length : Int) = (l1.length : Int) then (epitomeref15_SameRow.l0 k l0 l1 0) else (some false)) = some r := h
  clear h
  by_cases c3 : (l0.length : Int) = (l1.length : Int)
  · rw [if_pos c3] at H
    have c3b0 : ((l0.length : Int) == (l1.length : Int)) = true := beq_iff_eq.mpr c3
    have c3b1 : ((l0.length : Int) != (l1.length : Int)) = false := bne_eq_false_iff_eq.mpr c3
    have c3b2 : (l0.length == l1.length) = true := by first | simpa using c3 | (simp at c3 ⊢; omega)
    clear c3
    have H' := Aside0.mk H
    clear H
    go_enter Tryd.func32, Tryd.ntmps32
    go_wp2
    repeat (go_quiet (fail); try go_wp2)
    go_loopg [5] k (fun kq v5 w' => ∃ (x5_1 : Int), v5 = .int .i64 x5_1 ∧ Aside0 (epitomeref15_SameRow.l0 kq l0 l1 x5_1 = some r) ∧ Aside0 (kq ≤ k) ∧ Drawn0 w w')
    case atStart => exact ⟨(0), (by first | rfl | (simp; done) | (simp [*]; done)), H', ⟨Nat.le_refl _⟩, by repeat (first | exact Drawn0.refl _ | apply Drawn0.step)⟩
    case round =>
      clear H'
      try clear c1
      try clear p2
      try clear c3
      try clear c3b0
      try clear c3b1
      try clear c3b2
      obtain ⟨x5_1, rfl, HA, HK1, ⟨m1, rfl⟩⟩ := hrel
      cases gk with
      | zero => exact absurd HA.out (by simp [epitomeref15_SameRow.l0])
      | succ k1 =>
        have H := HA.out
        clear HA
        simp only [epitomeref15_SameRow.l0] at H
        by_cases c4 : x5_1 < (l0.length : Int)
        · rw [if_pos c4] at H
          have c4b0 : decide (x5_1 < (l0.length : Int)) = true := decide_eq_true c4
          clear c4
          by_cases c5 : 0 ≤ x5_1
          · rw [if_pos c5] at H
            have c5b0 : decide (0 ≤ x5_1) = true := decide_eq_true c5
            clear c5
            by_cases c6 : x5_1 < (l1.length : Int)
            · rw [if_pos c6] at H
              have c6b0 : decide (x5_1 < (l1.length : Int)) = true := decide_eq_true c6
              clear c6
              by_cases c7 : (rd l0 x5_1) = (rd l1 x5_1)
              · rw [if_pos c7] at H
                have c7b0 : ((rd l0 x5_1) == (rd l1 x5_1)) = true := beq_iff_eq.mpr c7
                have c7b1 : ((rd l0 x5_1) != (rd l1 x5_1)) = false := bne_eq_false_iff_eq.mpr c7
                clear c7
                have H' := Aside0.mk H
                clear H
                have p243 : 0 ≤ (x5_1 : Int) := of_decide_eq_true (by first | (with_reducible assumption) | assumption)
                have q243 : x5_1 < (l0.length : Int) := of_decide_eq_true (by first | (with_reducible assumption) | assumption)
                obtain ⟨ad243, e243, hx243_0⟩ := Kd.at_int HR0.out x5_1 p243 q243
                cases e243
                replace p243 := eq_true p243
                replace q243 := eq_true q243
                have p244 : 0 ≤ (x5_1 : Int) := of_decide_eq_true (by first | (with_reducible assumption) | assumption)
                have q244 : x5_1 < (l1.length : Int) := of_decide_eq_true (by first | (with_reducible assumption) | assumption)
                obtain ⟨ad244, e244, hx244_0⟩ := Kd.at_int HR1.out x5_1 p244 q244
                cases e244
                replace p244 := eq_true p244
                replace q244 := eq_true q244
                go_wp2
                repeat (go_quiet (fail); try go_wp2)
                go_roundg k1
                case measure => have := HK1.out; omega
                case rel => exact ⟨(wrap64 (x5_1 + 1)), (by first | rfl | (simp; done) | (simp [*]; done)), H', ⟨by have := HK1.out; omega⟩, by repeat (first | exact Drawn0.refl _ | apply Drawn0.step)⟩
              · rw [if_neg c7] at H
                have c7b0 : ((rd l0 x5_1) == (rd l1 x5_1)) = false := beq_eq_false_iff_ne.mpr c7
                have c7b1 : ((rd l0 x5_1) != (rd l1 x5_1)) = true := bne_iff_ne.mpr c7
                obtain rfl := Option.some.inj H
                simp only [Option.some.injEq, Prod.mk.injEq] at H
                obtain ⟨rfl⟩ := H
                have p243 : 0 ≤ (x5_1 : Int) := of_decide_eq_true (by first | (with_reducible assumption) | assumption)
                have q243 : x5_1 < (l0.length : Int) := of_decide_eq_true (by first | (with_reducible assumption) | assumption)
                obtain ⟨ad243, e243, hx243_0⟩ := Kd.at_int HR0.out x5_1 p243 q243
                cases e243
                replace p243 := eq_true p243
                replace q243 := eq_true q243
                have p244 : 0 ≤ (x5_1 : Int) := of_decide_eq_true (by first | (with_reducible assumption) | assumption)
                have q244 : x5_1 < (l1.length : Int) := of_decide_eq_true (by first | (with_reducible assumption) | assumption)
                obtain ⟨ad244, e244, hx244_0⟩ := Kd.at_int HR1.out x5_1 p244 q244
                cases e244
                replace p244 := eq_true p244
                replace q244 := eq_true q244
                go_wp2
                repeat (go_quiet (fail); try go_wp2)
                go_ret
                exact ⟨by first | rfl | (simp; done) | (simp [*]; done), by repeat (first | exact Drawn0.refl _ | apply Drawn0.step)⟩
            · rw [if_neg c6] at H
              exact absurd H (by simp)
          · rw [if_neg c5] at H
            exact absurd H (by simp)
        · rw [if_neg c4] at H
          have c4b0 : decide (x5_1 < (l0.length : Int)) = false := decide_eq_false c4
          clear c4
          obtain rfl := Option.some.inj H
          simp only [Option.some.injEq, Prod.mk.injEq] at H
          obtain ⟨rfl⟩ := H
          go_wp2
          repeat (go_quiet (fail); try go_wp2)
          go_ret
          exact ⟨by first | rfl | (simp; done) | (simp [*]; done), by repeat (first | exact Drawn0.refl _ | apply Drawn0.step)⟩
  · rw [if_neg c3] at H
    have c3b0 : ((l0.length : Int) == (l1.length : Int)) = false := beq_eq_false_iff_ne.mpr c3
    have c3b1 : ((l0.length : Int) != (l1.length : Int)) = true := bne_iff_ne.mpr c3
    have c3b2 : (l0.length == l1.length) = false := by first | simpa using c3 | (simp at c3 ⊢; omega)
    obtain rfl := Option.some.inj H
    simp only [Option.some.injEq, Prod.mk.injEq] at H
    obtain ⟨rfl⟩ := H
    go_enter Tryd.func32, Tryd.ntmps32
    go_wp2
    repeat (go_quiet (fail); try go_wp2)
    go_ret
    exact ⟨by first | rfl | (simp; done) | (simp [*]; done), by repeat (first | exact Drawn0.refl _ | apply Drawn0.step)⟩

/-! ### snap_Put: function 33 -/
def snap_Put.f (a0 : ByteArray) : Option (List Int × Int) := if a0.size < 9223372036854775807 then (if validT a0 then (if a0.size > 65536 then some ([], 2) else some (number_Put.l 3 a0.size [] ++ bytesOf a0, 0)) else some ([], 3)) else none
set_option maxHeartbeats 8000000 in
set_option maxRecDepth 100000 in
theorem snap_Put.calls (a0 : ByteArray) (r1 : List Int) (r2 : Int) (w : World) (hT : Tabs w) (h : snap_Put.f a0 = some (r1, r2)) :
    Calls Tryd.prog 33 #[.string a0] w fun e w' => ∃ v0_ : Value, e = .returned (.tuple #[v0_, .int .i64 r2]) ∧ Kd.R (Kd.int .u8) 5 w' w.heap.size (fun _ => True) v0_ r1 ∧ Below w.heap.size w w' := by
  unfold snap_Put.f at h
  by_cases c : a0.size < 9223372036854775807
  · rw [if_pos c] at h
    have HV := Aside0.mk (points_Valid.calls a0 (validT a0) w hT (by unfold points_Valid.f; rw [if_pos c]))
    clear c
    by_cases v : validT a0 = true
    · rw [if_pos v] at h
      rw [v] at HV
      clear v
      by_cases z : a0.size > 65536
      · rw [if_pos z] at h
        simp only [Option.some.injEq, Prod.mk.injEq] at h
        obtain ⟨rfl, rfl⟩ := h
        have z0 : decide (65536 < (a0.size : Int)) = true := decide_eq_true (by omega)
        have z1 : decide (65536 < a0.size) = true := decide_eq_true z
        clear z
        go_enter Tryd.func33, Tryd.ntmps33
        go_wp2_with (go_at_call 18; (with_reducible refine (HV.out).mono ?_); rintro e w1 ⟨rfl, hb⟩)
        go_ret2
        exact ⟨_, rfl, Kd.R_nil _ _ _ _ _, hb⟩
      · rw [if_neg z] at h
        simp only [Option.some.injEq, Prod.mk.injEq] at h
        obtain ⟨rfl, rfl⟩ := h
        have z0 : decide (65536 < (a0.size : Int)) = false := decide_eq_false (by omega)
        have z1 : decide (65536 < a0.size) = false := decide_eq_false z
        have HZ := Aside0.mk z
        have HP : Aside0 (number_Put.f (a0.size : Int) = some (number_Put.l 3 (a0.size : Int) [], 0)) := ⟨by unfold number_Put.f; rw [if_neg (by omega), if_neg (by omega)]⟩
        have HL := Aside0.mk (number_Put.f_len HP.out)
        generalize number_Put.l 3 (a0.size : Int) [] = r1 at *
        clear z
        go_enter Tryd.func33, Tryd.ntmps33
        go_wp2_with (first | (go_at_call 18; (with_reducible refine (HV.out).mono ?_); rintro e w1 ⟨rfl, hb⟩; have HB1 := Aside0.mk hb; clear hb) | (go_at_call 42; (with_reducible refine (snap_writer_number.calls (a0.size : Int) r1 0 [] w.heap.size w1.heap.size (.slice none 0 0) _ HP.out HL.out (heap_alloc_new w1 _) (Kd.R_nil _ _ _ _ _) (Nat.le_trans HB1.out.size (by simp)) HB1.out.size (by simp)).mono ?_); rintro e w2 ⟨rfl, v2, hf, ho, hb⟩; have HB2 := Aside0.mk ((below_alloc HB1.out _).trans hb); have HO2 := Aside0.mk ho; have HF2 := Aside0.mk hf; clear hb ho hf; have hcell : w2.cell? ⟨w1.heap.size, 0, none⟩ = some v2 := (blk_cell HF2.out 0).trans rfl) | ((with_reducible refine gate_builtin (b := .append) (xs := #[.tmp 17, .tmp 18]) rfl ?_); (at_builtin; refine print_append_str (w0 := w) w.heap.size rfl (.tmp 17) _ 32 9 5 rfl Tryd.underlying32 Tryd.underlying9 info5 v2 r1 a0 rfl rfl ?aO ?aB ?aS ?aL ?_; (case aB => exact HB2.out); (case aO => exact Kd.own_of_R HO2.out); (case aS => exact HB2.out.size); (case aL => have := HL.out; have := HZ.out; omega); intro v3 w3 ho0 hb hg; have ho := Kd.R_of_own (h1 := fun _ => rfl) (ok := fun _ => True) ho0 (fun _ _ => trivial); clear ho0 hg; change Kd.R (Kd.int .u8) 5 w3 w.heap.size (fun _ => True) v3 (r1 ++ bytesOf a0) at ho; have HB3 := Aside0.mk hb; have HO3 := Aside0.mk ho; clear ho hb hcell)))
        go_ret2
        exact ⟨_, rfl, HO3.out, HB3.out⟩
    · rw [if_neg v] at h
      simp only [Option.some.injEq, Prod.mk.injEq] at h
      obtain ⟨rfl, rfl⟩ := h
      rw [Bool.eq_false_iff.mpr v] at HV
      clear v
      go_enter Tryd.func33, Tryd.ntmps33
      go_wp2_with (go_at_call 18; (with_reducible refine (HV.out).mono ?_); rintro e w1 ⟨rfl, hb⟩)
      go_ret2
      exact ⟨_, rfl, Kd.R_nil _ _ _ _ _, hb⟩
  · rw [if_neg c] at h; cases h

end Go.Proofs.YtolljobehfmffaaDoor.P
