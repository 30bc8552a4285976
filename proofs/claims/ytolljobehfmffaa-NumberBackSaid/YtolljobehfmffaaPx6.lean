-- WRITTEN BY A PROGRAM OF THIS SESSION (wip/pp in its repo), made after the kit's print
import Derived.Test.YtolljobehfmffaaPx0
import Derived.Test.YtolljobehfmffaaPx1
import Derived.Test.YtolljobehfmffaaPx2
import Derived.Test.YtolljobehfmffaaPx3
namespace Go.Proofs.Ytolljobehfmffaa.P
open Go.RowKit Go.Proofs.YtolljobehfmffaaW.PrintWords Go.Proofs.YtolljobehfmffaaW.PrintLast Go.Proofs.YtolljobehfmffaaW.PrintMore
attribute [local go_sem] max2_int min2_int max_two min_two max_three min_three max_four min_four   -- for this text's walks alone
set_option linter.unusedVariables false
set_option linter.unusedSimpArgs false

/-! ### epitomelaw02_NumberBack: function 4 -/
def epitomelaw02_NumberBack.l0 : Nat → Bool → Int → List Int → Int → Int → Int → Int → Int → Option (Bool)
  | 0, _, _, _, _, _, _, _, _ => none
  | k + 1, x5, x6, x7, x8, x9, x10, x11, x12 => if x12 < (x7.length : Int) then (if 0 ≤ x12 then (if x12 ≤ (x7.length : Int) then ((number_Take.f k (x7.take (x12 : Int).toNat)).bind fun bt175 => (if bt175.2.2 = 7 then (epitomelaw02_NumberBack.l0 k x5 x6 x7 x8 x9 x10 x11 (wrap64 (x12 + 1))) else (some false))) else (none)) else (none)) else (if (x7.length : Int) ≥ 1 then (if (x7.length : Int) ≤ 4 then (if (x7.length : Int) = 1 then (if 0 ≤ (wrap64 (7 * (x7.length : Int))) then (if x5 = true then (if x8 = 0 then (if x11 = 0 then (if x9 = x6 then (if x10 = (x7.length : Int) then (some (decide (x6 < (shl .i64 1 (wrap64 (7 * (x7.length : Int))))))) else (some false)) else (some false)) else (some false)) else (some false)) else (some false)) else (none)) else (if 0 ≤ (wrap64 (7 * (wrap64 ((x7.length : Int) - 1)))) then (if x6 ≥ (shl .i64 1 (wrap64 (7 * (wrap64 ((x7.length : Int) - 1))))) then (if 0 ≤ (wrap64 (7 * (x7.length : Int))) then (if x5 = true then (if x8 = 0 then (if x11 = 0 then (if x9 = x6 then (if x10 = (x7.length : Int) then (some (decide (x6 < (shl .i64 1 (wrap64 (7 * (x7.length : Int))))))) else (some false)) else (some false)) else (some false)) else (some false)) else (some false)) else (none)) else (if x5 = true then (if x8 = 0 then (if x11 = 0 then (if x9 = x6 then (if x10 = (x7.length : Int) then (some false) else (some false)) else (some false)) else (some false)) else (some false)) else (some false))) else (none))) else (if x5 = true then (if x8 = 0 then (if x11 = 0 then (if x9 = x6 then (if x10 = (x7.length : Int) then (some false) else (some false)) else (some false)) else (some false)) else (some false)) else (some false))) else (if x5 = true then (if x8 = 0 then (if x11 = 0 then (if x9 = x6 then (if x10 = (x7.length : Int) then (some false) else (some false)) else (some false)) else (some false)) else (some false)) else (some false)))
def epitomelaw02_NumberBack.f (k : Nat) (a0 : Int) (l1 : List Int) : Option (Bool) := (epitomelaw02_shown.f k).bind fun t151 => ((number_Put.f (Go.bits .and .i64 (wrap64 (a0)) 268435455)).bind fun bt152 => ((some (([] : List Int) : List Int)).bind fun y156 => (if y156.length + bt152.1.length < 140737488355328 then ((some (y156 ++ bt152.1 : List Int)).bind fun y159 => ((epitomelaw02_few.f l1).bind fun t162 => (if y159.length + t162.length < 140737488355328 then ((number_Take.f k (y159 ++ t162)).bind fun bt168 => (epitomelaw02_NumberBack.l0 k t151 (Go.bits .and .i64 (wrap64 (a0)) 268435455) bt152.1 bt152.2 bt168.1 bt168.2.1 bt168.2.2 0)) else (none)))) else (none))))
theorem epitomelaw02_NumberBack.mono_l : ∀ k, (∀ y0 y1 y2 y3 y4 y5 y6 y7, LeO (epitomelaw02_NumberBack.l0 k y0 y1 y2 y3 y4 y5 y6 y7) (epitomelaw02_NumberBack.l0 (k + 1) y0 y1 y2 y3 y4 y5 y6 y7))
  | 0 => fun _ _ _ _ _ _ _ _ r h => by simp [epitomelaw02_NumberBack.l0] at h
  | k + 1 => by
    have ih0 := epitomelaw02_NumberBack.mono_l k
    · intro y0 y1 y2 y3 y4 y5 y6 y7
      unfold epitomelaw02_NumberBack.l0
      repeat' first
      | (with_reducible exact ih0 _ _ _ _ _ _ _ _)
      | (with_reducible exact epitomelaw02_shown.mono _)
      | (with_reducible exact number_Take.mono _ _)
      | (with_reducible exact LeO.refl _)
      | (with_reducible exact LeO.none _)
      | (with_reducible refine LeO.ite ?_ ?_)
      | (with_reducible refine LeO.bind ?_ (fun _ => ?_))
      | exact ih0 _ _ _ _ _ _ _ _
      | exact epitomelaw02_shown.mono _
      | exact number_Take.mono _ _
      | exact LeO.none _
      | refine LeO.ite ?_ ?_
      | refine LeO.bind ?_ (fun _ => ?_)
theorem epitomelaw02_NumberBack.mono : ∀ a0 a1 k, LeO (epitomelaw02_NumberBack.f k a0 a1) (epitomelaw02_NumberBack.f (k + 1) a0 a1) := by
  intro a0 a1 k
  have ih0 := epitomelaw02_NumberBack.mono_l k
  unfold epitomelaw02_NumberBack.f
  repeat' first
      | (with_reducible exact ih0 _ _ _ _ _ _ _ _)
      | (with_reducible exact epitomelaw02_shown.mono _)
      | (with_reducible exact number_Take.mono _ _)
      | (with_reducible exact LeO.refl _)
      | (with_reducible exact LeO.none _)
      | (with_reducible refine LeO.ite ?_ ?_)
      | (with_reducible refine LeO.bind ?_ (fun _ => ?_))
      | exact ih0 _ _ _ _ _ _ _ _
      | exact epitomelaw02_shown.mono _
      | exact number_Take.mono _ _
      | exact LeO.none _
      | refine LeO.ite ?_ ?_
      | refine LeO.bind ?_ (fun _ => ?_)
set_option maxHeartbeats 8000000 in
set_option maxRecDepth 100000 in
theorem epitomelaw02_NumberBack.calls (k : Nat) (a0 : Int) (A1 : Option Addr) (c1 : Nat) (l1 : List Int) (r : Bool) (w : World) (hr1 : Kd.C (Kd.int .u8) w A1 l1.length l1) (hc1 : l1.length ≤ c1) (h : epitomelaw02_NumberBack.f k a0 l1 = some r) :
    Calls Try.prog 4 #[.int .u32 a0, .slice A1 l1.length c1] w fun e w' => e = .returned (.bool r) ∧ Below w.heap.size w w' := by
  have HR1 := Aside0.mk hr1
  have HC1 := Aside0.mk hc1
  clear hr1 hc1
  have HB := Aside0.mk (Below.refl w.heap.size w)
  have H : ((epitomelaw02_shown.f k).bind fun t151 => ((number_Put.f (Go.bits .and .i64 (wrap64 (a0)) 268435455)).bind fun bt152 => ((some (([] : List Int) : List Int)).bind fun y156 => (if y156.length + bt152.1.length < 140737488355328 then ((some (y156 ++ bt152.1 : List Int)).bind fun y159 => ((epitomelaw02_few.f l1).bind fun t162 => (if y159.length + t162.length < 140737488355328 then ((number_Take.f k (y159 ++ t162)).bind fun bt168 => (epitomelaw02_NumberBack.l0 k t151 (Go.bits .and .i64 (wrap64 (a0)) 268435455) bt152.1 bt152.2 bt168.1 bt168.2.1 bt168.2.2 0)) else (none)))) else (none))))) = some r := h
  clear h
  replace H := Option.bind_eq_some_iff.mp H
  obtain ⟨t151, A30, H⟩ := H
  replace H : ((number_Put.f (Go.bits .and .i64 (wrap64 (a0)) 268435455)).bind fun bt152 => ((some (([] : List Int) : List Int)).bind fun y156 => (if y156.length + bt152.1.length < 140737488355328 then ((some (y156 ++ bt152.1 : List Int)).bind fun y159 => ((epitomelaw02_few.f l1).bind fun t162 => (if y159.length + t162.length < 140737488355328 then ((number_Take.f k (y159 ++ t162)).bind fun bt168 => (epitomelaw02_NumberBack.l0 k t151 (Go.bits .and .i64 (wrap64 (a0)) 268435455) bt152.1 bt152.2 bt168.1 bt168.2.1 bt168.2.2 0)) else (none)))) else (none)))) = some r := H
  have A3 := Aside0.mk A30
  clear A30
  replace H := Option.bind_eq_some_iff.mp H
  obtain ⟨⟨t152, t153⟩, A40, H⟩ := H
  replace H : ((some (([] : List Int) : List Int)).bind fun y156 => (if y156.length + t152.length < 140737488355328 then ((some (y156 ++ t152 : List Int)).bind fun y159 => ((epitomelaw02_few.f l1).bind fun t162 => (if y159.length + t162.length < 140737488355328 then ((number_Take.f k (y159 ++ t162)).bind fun bt168 => (epitomelaw02_NumberBack.l0 k t151 (Go.bits .and .i64 (wrap64 (a0)) 268435455) t152 t153 bt168.1 bt168.2.1 bt168.2.2 0)) else (none)))) else (none))) = some r := H
  have A4 := Aside0.mk A40
  clear A40
  obtain ⟨y156, hy156⟩ : ∃ y_ : List Int, y_ = (([] : List Int)) := ⟨_, rfl⟩
  replace H : (if y156.length + t152.length < 140737488355328 then ((some (y156 ++ t152 : List Int)).bind fun y159 => ((epitomelaw02_few.f l1).bind fun t162 => (if y159.length + t162.length < 140737488355328 then ((number_Take.f k (y159 ++ t162)).bind fun bt168 => (epitomelaw02_NumberBack.l0 k t151 (Go.bits .and .i64 (wrap64 (a0)) 268435455) t152 t153 bt168.1 bt168.2.1 bt168.2.2 0)) else (none)))) else (none)) = some r := by first | (rw [hy156]; with_reducible exact H) | (have H2_ := (Option.bind_some _ _).symm.trans H; rw [hy156]; with_reducible exact H2_) | (have H2_ := (Option.bind_some _ _).symm.trans H; with_reducible exact H2_) | with_reducible exact H | (rw [hy156]; exact H) | exact H
  have Ny156 := Aside0.mk hy156
  clear hy156
  by_cases c5 : y156.length + t152.length < 140737488355328
  · rw [if_pos c5] at H
    have LMc5 := Aside0.mk c5
    clear c5
    obtain ⟨y159, hy159⟩ : ∃ y_ : List Int, y_ = (y156 ++ t152) := ⟨_, rfl⟩
    replace H : ((epitomelaw02_few.f l1).bind fun t162 => (if y159.length + t162.length < 140737488355328 then ((number_Take.f k (y159 ++ t162)).bind fun bt168 => (epitomelaw02_NumberBack.l0 k t151 (Go.bits .and .i64 (wrap64 (a0)) 268435455) t152 t153 bt168.1 bt168.2.1 bt168.2.2 0)) else (none))) = some r := by first | (rw [hy159]; with_reducible exact H) | (have H2_ := (Option.bind_some _ _).symm.trans H; rw [hy159]; with_reducible exact H2_) | (have H2_ := (Option.bind_some _ _).symm.trans H; with_reducible exact H2_) | with_reducible exact H | (rw [hy159]; exact H) | exact H
    have Ny159 := Aside0.mk hy159
    clear hy159
    replace H := Option.bind_eq_some_iff.mp H
    obtain ⟨t162, A60, H⟩ := H
    replace H : (if y159.length + t162.length < 140737488355328 then ((number_Take.f k (y159 ++ t162)).bind fun bt168 => (epitomelaw02_NumberBack.l0 k t151 (Go.bits .and .i64 (wrap64 (a0)) 268435455) t152 t153 bt168.1 bt168.2.1 bt168.2.2 0)) else (none)) = some r := H
    have A6 := Aside0.mk A60
    clear A60
    by_cases c7 : y159.length + t162.length < 140737488355328
    · rw [if_pos c7] at H
      have LMc7 := Aside0.mk c7
      clear c7
      obtain ⟨y165, hy165⟩ : ∃ y_ : List Int, y_ = (y159 ++ t162) := ⟨_, rfl⟩
      replace H : ((number_Take.f k y165).bind fun bt168 => (epitomelaw02_NumberBack.l0 k t151 (Go.bits .and .i64 (wrap64 (a0)) 268435455) t152 t153 bt168.1 bt168.2.1 bt168.2.2 0)) = some r := by first | (rw [hy165]; with_reducible exact H) | (have H2_ := (Option.bind_some _ _).symm.trans H; rw [hy165]; with_reducible exact H2_) | (have H2_ := (Option.bind_some _ _).symm.trans H; with_reducible exact H2_) | with_reducible exact H | (rw [hy165]; exact H) | exact H
      have Ny165 := Aside0.mk hy165
      clear hy165
      replace H := Option.bind_eq_some_iff.mp H
      obtain ⟨⟨t168, t169, t170⟩, A80, H⟩ := H
      replace H : (epitomelaw02_NumberBack.l0 k t151 (Go.bits .and .i64 (wrap64 (a0)) 268435455) t152 t153 t168 t169 t170 0) = some r := H
      have A8 := Aside0.mk A80
      clear A80
      have H' := Aside0.mk H
      clear H
      go_enter Try.func4, Try.ntmps4
      go_wp2_with (first | ((with_reducible refine gate_callee (f := 9) rfl ?_); refine goesL_ (some 17) rfl rfl Try.func9 (by kernel_rfl) rfl #[] rfl (by (try simp only [List.map_toArray, List.map_cons, List.map_nil]); first | done | rfl | (simp only [List.length_drop, List.length_take]; rfl)) ?_; (with_reducible refine (epitomelaw02_shown.calls k  t151 _ A3.out).mono ?_); rintro e w9 ⟨rfl, hb⟩; refine ⟨_, rfl, ?_⟩; have n0_ := Aside0.mk (below_step (by repeat (first | (with_reducible first | exact HB.out | apply below_alloc | apply pw_below_drewN | apply below_drew1) | exact HB.out)) hb); clear HB; have HB := n0_; clear n0_; (try clear hb); (try clear hb2); (try clear hk); (try clear hi)) | ((with_reducible refine gate_callee (f := 10) rfl ?_); refine goesL_ (some 23) rfl rfl Try.func10 (by kernel_rfl) rfl #[.int .i64 (Go.bits .and .i64 (wrap64 (a0)) 268435455)] rfl (by (try simp only [List.map_toArray, List.map_cons, List.map_nil]); first | done | rfl | (simp only [List.length_drop, List.length_take]; rfl)) ?_; (with_reducible refine (number_Put.calls (Go.bits .and .i64 (wrap64 (a0)) 268435455) t152 t153 _ A4.out).mono ?_); rintro e w10 ⟨v154, rfl, ho0, hb⟩; refine ⟨_, rfl, ?_⟩; have n0_ := Aside0.mk (Kd.R_lower ho0 (below_size (by repeat (first | (with_reducible first | exact HB.out | apply below_alloc | apply pw_below_drewN | apply below_drew1) | exact HB.out)))); have n1_ := Aside0.mk (below_step (by repeat (first | (with_reducible first | exact HB.out | apply below_alloc | apply pw_below_drewN | apply below_drew1) | exact HB.out)) hb); clear HB; have HO155 := n0_; have HB := n1_; clear n0_ n1_; (try clear hb); (try clear hb2); (try clear hk); (try clear hi); (try clear ho0)) | ((with_reducible refine gate_dst (N := 27) rfl ?_); (try (refine gate_guard (by rfl) ?_; dsimp only)); refine Kd.R_lit (Kd.int .u8) _ 5 ?hg (N := 27) ?hd (xs := ([] : List Int)) (inner := []) (ok := fun _ => True) (okp := fun _ => True) ?hr ?hp (fun _ hk => hk) trivial (Below.refl _ _) (Nat.le_refl _) (by simp) ?_; (case hd => rfl); (case hg => rfl); (case hr => first | (go_simp; done) | (go_simp; rfl)); (case hp => exact (Reps.none _ _)); intro v157 w11 ho12 hb hg_ hnew_; clear hg_ hnew_; (first | rw [← Ny156.out] at ho12 | (simp only [Int.reduceToNat] at ho12; rw [← Ny156.out] at ho12)); have n0_ := Aside0.mk (Kd.R_elder' (by (with_reducible repeat (first | apply Kd.R_alloc | apply Kd.R_drewN | apply Kd.R_drew)); exact HO155.out) (Kd.R_base ho12) hb); have n1_ := Aside0.mk (Kd.R_lower (Kd.R_new' ho12 (Kd.R_lt (by (with_reducible repeat (first | apply Kd.R_alloc | apply Kd.R_drewN | apply Kd.R_drew)); exact HO155.out))) (below_size (by repeat (first | (with_reducible first | exact HB.out | apply below_alloc | apply pw_below_drewN | apply below_drew1) | exact HB.out)))); have n2_ := Aside0.mk (below_step (by repeat (first | (with_reducible first | exact HB.out | apply below_alloc | apply pw_below_drewN | apply below_drew1) | exact HB.out)) hb); clear HO155; clear HB; have HO155 := n0_; have HO158 := n1_; have HB := n2_; clear n0_ n1_ n2_; clear hb ho12; obtain ⟨Ao14, co14, eo14⟩ := Kd.R_slice HO155.out; subst eo14) | ((with_reducible refine gate_builtin (b := .append) (xs := #[.tmp 27, .tmp 28]) rfl ?_); (try (refine gate_guard (by rfl) ?_; dsimp only)); at_builtin; refine Kd.R_append_rows (Kd.int .u8) (w0 := w) w.heap.size rfl (.tmp 27) (.tmp 28) 22 5 (.int .u8 0) 1 rfl Try.underlying22 info5 rfl (by decide) (by omega) v157 y156 t152 _ _ _ (fun k_ => some k_ ≠ (.slice Ao14 t152.length co14 : Value).ownBlock) (fun _ => False) rfl rfl ?aO ?aR (fun _ _ h => h) (fun _ h => h.elim) ?aF ?aB ?aS ?aL ?_; (case aR => repeat (first | exact (Kd.R_reads' HO155.out).2.2 | (with_reducible refine Kd.C_alloc ?_ _) | (with_reducible refine Kd.C_drewN ?_ _) | (with_reducible refine Kd.C_drew ?_))); (case aB => exact (by repeat (first | (with_reducible first | exact HB.out | apply below_alloc | apply pw_below_drewN | apply below_drew1) | exact HB.out))); (case aF => exact (fun k_ hk => Kd.fresh' (Kd.R_lt (by (with_reducible repeat (first | apply Kd.R_alloc | apply Kd.R_drewN | apply Kd.R_drew)); exact HO155.out)) k_ hk)); (case aO => exact (by (with_reducible repeat (first | apply Kd.R_alloc | apply Kd.R_drewN | apply Kd.R_drew)); exact Kd.R_mono HO158.out (fun _ hk => hk.2))); (case aS => exact (below_size (by repeat (first | (with_reducible first | exact HB.out | apply below_alloc | apply pw_below_drewN | apply below_drew1) | exact HB.out)))); (case aL => have := LMc5.out; omega); intro v160 w13 ho hb hg hat; rw [← Ny159.out] at ho; have n0_ := Aside0.mk (Kd.R_after (ok := (fun _ => True)) (by (with_reducible repeat (first | apply Kd.R_alloc | apply Kd.R_drewN | apply Kd.R_drew)); exact HO155.out) hg hat); have n1_ := Aside0.mk (hb); have n2_ := Aside0.mk (ho); clear HO155; clear HB; clear HO158; have HO155 := n0_; have HB := n1_; have HO161 := n2_; clear n0_ n1_ n2_; clear ho hb hg hat) | ((with_reducible refine gate_callee (f := 13) rfl ?_); refine goesL_ (some 31) rfl rfl Try.func13 (by kernel_rfl) rfl #[.slice A1 l1.length c1] rfl (by (try simp only [List.map_toArray, List.map_cons, List.map_nil]); first | done | rfl | (simp only [List.length_drop, List.length_take]; rfl)) ?_; (with_reducible refine (epitomelaw02_few.calls (fun k_ => k_ < w.heap.size) _ _ l1 t162 _ ?side1 A6.out).mono ?_); (case side1 => exact Kd.V_mk HC1.out (Kd.F_below (Kd.C_F (Kd.heap_int .u8) HR1.out) (by repeat (first | (with_reducible first | exact HB.out | apply below_alloc | apply pw_below_drewN | apply below_drew1) | exact HB.out)))); rintro e w15 ⟨v163, rfl, ho0, hb⟩; refine ⟨_, rfl, ?_⟩; have n0_ := Aside0.mk (Kd.R_below (by (with_reducible repeat (first | apply Kd.R_alloc | apply Kd.R_drewN | apply Kd.R_drew)); exact HO155.out) hb); have n1_ := Aside0.mk (Kd.R_below (by (with_reducible repeat (first | apply Kd.R_alloc | apply Kd.R_drewN | apply Kd.R_drew)); exact HO161.out) hb); have n2_ := Aside0.mk (Kd.V_lower (Kd.V_mono (ok' := fun k_ => some k_ ≠ (.slice Ao14 t152.length co14 : Value).ownBlock ∧ some k_ ≠ (v160 : Value).ownBlock) ho0 (fun k_ hk_ => ⟨Or.elim hk_ (fun hs_ => fun e_ => Nat.not_le.2 hs_ (Kd.R_base HO155.out k_ e_.symm)) (fun hn_ => (Kd.fresh' (Kd.R_lt (by (with_reducible repeat (first | apply Kd.R_alloc | apply Kd.R_drewN | apply Kd.R_drew)); exact HO155.out)) k_ hn_)), Or.elim hk_ (fun hs_ => fun e_ => Nat.not_le.2 hs_ (Kd.R_base HO161.out k_ e_.symm)) (fun hn_ => (Kd.fresh' (Kd.R_lt (by (with_reducible repeat (first | apply Kd.R_alloc | apply Kd.R_drewN | apply Kd.R_drew)); exact HO161.out)) k_ hn_))⟩)) (below_size (by repeat (first | (with_reducible first | exact HB.out | apply below_alloc | apply pw_below_drewN | apply below_drew1) | exact HB.out)))); have n3_ := Aside0.mk (below_step (by repeat (first | (with_reducible first | exact HB.out | apply below_alloc | apply pw_below_drewN | apply below_drew1) | exact HB.out)) hb); clear HO155; clear HO161; clear HB; have HO155 := n0_; have HO161 := n1_; have HO164 := n2_; have HB := n3_; clear n0_ n1_ n2_ n3_; (try clear hb); (try clear hb2); (try clear hk); (try clear hi); (try clear ho0); obtain ⟨Ao17, co17, eo17⟩ := Kd.V_slice HO164.out; subst eo17) | ((with_reducible refine gate_builtin (b := .append) (xs := #[.tmp 29, .tmp 31]) rfl ?_); (try (refine gate_guard (by rfl) ?_; dsimp only)); at_builtin; refine Kd.R_append_rows (Kd.int .u8) (w0 := w) w.heap.size rfl (.tmp 29) (.tmp 31) 22 5 (.int .u8 0) 1 rfl Try.underlying22 info5 rfl (by decide) (by omega) v160 y159 t162 _ _ _ (fun k_ => some k_ ≠ (.slice Ao14 t152.length co14 : Value).ownBlock) (fun _ => False) rfl rfl ?aO ?aR (fun _ _ h => h) (fun _ h => h.elim) ?aF ?aB ?aS ?aL ?_; (case aR => repeat (first | exact (Kd.V_reads' HO164.out).2.2 | (with_reducible refine Kd.C_alloc ?_ _) | (with_reducible refine Kd.C_drewN ?_ _) | (with_reducible refine Kd.C_drew ?_))); (case aB => exact (by repeat (first | (with_reducible first | exact HB.out | apply below_alloc | apply pw_below_drewN | apply below_drew1) | exact HB.out))); (case aF => exact (fun k_ hk => Kd.fresh' (Kd.R_lt (by (with_reducible repeat (first | apply Kd.R_alloc | apply Kd.R_drewN | apply Kd.R_drew)); exact HO155.out)) k_ hk)); (case aO => exact (by (with_reducible repeat (first | apply Kd.R_alloc | apply Kd.R_drewN | apply Kd.R_drew)); exact HO161.out)); (case aS => exact (below_size (by repeat (first | (with_reducible first | exact HB.out | apply below_alloc | apply pw_below_drewN | apply below_drew1) | exact HB.out)))); (case aL => have := LMc7.out; omega); intro v166 w16 ho hb hg hat; rw [← Ny165.out] at ho; have n0_ := Aside0.mk (Kd.R_after (ok := (fun _ => True)) (by (with_reducible repeat (first | apply Kd.R_alloc | apply Kd.R_drewN | apply Kd.R_drew)); exact HO155.out) hg hat); have n1_ := Aside0.mk (Kd.V_afterv (ok := (fun k_ => some k_ ≠ (.slice Ao14 t152.length co14 : Value).ownBlock)) (by (with_reducible repeat (first | apply Kd.V_alloc | apply Kd.V_drewN | apply Kd.V_drew)); exact HO164.out) hg hat); have n2_ := Aside0.mk (hb); have n3_ := Aside0.mk (ho); clear HO155; clear HO164; clear HB; clear HO161; have HO155 := n0_; have HO164 := n1_; have HB := n2_; have HO167 := n3_; clear n0_ n1_ n2_ n3_; clear ho hb hg hat; obtain ⟨Ao18, co18, eo18⟩ := Kd.R_slice HO167.out; subst eo18) | ((with_reducible refine gate_callee (f := 12) rfl ?_); refine goesL_ (some 33) rfl rfl Try.func12 (by kernel_rfl) rfl #[.slice Ao18 y165.length co18] rfl (by (try simp only [List.map_toArray, List.map_cons, List.map_nil]); first | done | rfl | (simp only [List.length_drop, List.length_take]; rfl)) ?_; (with_reducible refine (number_Take.calls k _ _ y165 t168 t169 t170 _ ?side1 ?side2 A8.out).mono ?_); (case side1 => repeat (first | exact (Kd.R_reads' HO167.out).2.2 | (with_reducible refine Kd.C_alloc ?_ _) | (with_reducible refine Kd.C_drewN ?_ _) | (with_reducible refine Kd.C_drew ?_))); (case side2 => exact (Kd.R_reads' HO167.out).2.1); rintro e w' ⟨rfl, ⟨nd, rfl⟩⟩; refine ⟨_, rfl, ?_⟩))
      go_loopg [12] k (fun kq v12 w' => ∃ (x12_1 : Int), v12 = .int .i64 x12_1 ∧ Aside0 (epitomelaw02_NumberBack.l0 kq t151 (Go.bits .and .i64 (wrap64 (a0)) 268435455) t152 t153 t168 t169 t170 x12_1 = some r) ∧ Aside0 (kq ≤ k) ∧ Aside0 (Kd.R (Kd.int .u8) 5 w' w.heap.size (fun _ => True) (.slice Ao14 t152.length co14) t152) ∧ Aside0 (Below w.heap.size w w'))
      case atStart => exact ⟨(0), (by first | rfl | (simp; done) | (simp [*]; done)), H', ⟨Nat.le_refl _⟩, ⟨by (with_reducible repeat (first | apply Kd.R_alloc | apply Kd.R_drewN | apply Kd.R_drew)); exact Kd.R_mono HO155.out (fun _ hk => trivial)⟩, ⟨by repeat (first | (with_reducible first | exact HB.out | apply below_alloc | apply pw_below_drewN | apply below_drew1) | exact HB.out)⟩⟩
      case round =>
        clear H'
        try clear c1
        try clear p2
        try clear c4
        try clear c5
        try clear p6
        try clear c7
        try clear c9
        try clear c10
        try clear c12
        try clear c13
        obtain ⟨x12_1, rfl, HA, HK1, HO_7, HB⟩ := hrel
        cases gk with
        | zero => exact absurd HA.out (by simp [epitomelaw02_NumberBack.l0])
        | succ k1 =>
          have H := HA.out
          clear HA
          simp only [epitomelaw02_NumberBack.l0] at H
          by_cases c19 : x12_1 < (t152.length : Int)
          · rw [if_pos c19] at H
            have c19b0 : decide (x12_1 < (t152.length : Int)) = true := decide_eq_true c19
            clear c19
            by_cases c20 : 0 ≤ x12_1
            · rw [if_pos c20] at H
              have c20b0 := eq_true c20
              have c20b1 : decide (0 ≤ x12_1) = true := decide_eq_true c20
              clear c20
              by_cases c21 : x12_1 ≤ (t152.length : Int)
              · rw [if_pos c21] at H
                have c21b0 := eq_true c21
                have c21b1 : decide (x12_1 ≤ (t152.length : Int)) = true := decide_eq_true c21
                clear c21
                obtain ⟨y171, hy171⟩ : ∃ y_ : List Int, y_ = (t152.take (x12_1 : Int).toNat) := ⟨_, rfl⟩
                replace H : ((number_Take.f k1 y171).bind fun bt175 => (if bt175.2.2 = 7 then (epitomelaw02_NumberBack.l0 k1 t151 (Go.bits .and .i64 (wrap64 (a0)) 268435455) t152 t153 t168 t169 t170 (wrap64 (x12_1 + 1))) else (some false))) = some r := by first | (rw [hy171]; with_reducible exact H) | (have H2_ := (Option.bind_some _ _).symm.trans H; rw [hy171]; with_reducible exact H2_) | (have H2_ := (Option.bind_some _ _).symm.trans H; with_reducible exact H2_) | with_reducible exact H | (rw [hy171]; exact H) | exact H
                have Ny171 := Aside0.mk hy171
                clear hy171
                replace H := Option.bind_eq_some_iff.mp H
                obtain ⟨⟨t175, t176, t177⟩, A220, H⟩ := H
                replace H : (if t177 = 7 then (epitomelaw02_NumberBack.l0 k1 t151 (Go.bits .and .i64 (wrap64 (a0)) 268435455) t152 t153 t168 t169 t170 (wrap64 (x12_1 + 1))) else (some false)) = some r := H
                have A22 := Aside0.mk A220
                clear A220
                by_cases c23 : t177 = 7
                · rw [if_pos c23] at H
                  have c23b0 : (t177 == 7) = true := beq_iff_eq.mpr c23
                  have c23b1 : (t177 != 7) = false := bne_eq_false_iff_eq.mpr c23
                  clear c23
                  have H' := Aside0.mk H
                  clear H
                  have q24 : (x12_1 : Int) ≤ ((t152.length : Int) : Int) := of_decide_eq_true (by first | (with_reducible assumption) | assumption)
                  obtain ⟨i024, hi024, _, hsz24, _⟩ := info_parts info5
                  have hroom24 : t152.length ≤ co14 := (Kd.R_reads' HO_7.out).2.1
                  have hC24 : Kd.C (Kd.int .u8) _ Ao14 t152.length t152 := (Kd.R_reads' HO_7.out).2.2
                  have hcut24 := cut_to (P := Try.prog) 22 5 .i64 Try.underlying22 hi024 Ao14 t152.length co14 x12_1 (of_decide_eq_true (by first | (with_reducible assumption) | assumption)) q24 hroom24
                  have hr24 := Kd.C_take (m := (x12_1 : Int).toNat) hC24 (by omega)
                  have hy24 : y171.length = (x12_1 : Int).toNat := (by rw [Ny171.out, List.length_take]; omega)
                  rw [← Ny171.out] at hr24
                  rw [← hy24] at hcut24
                  have HR174 := Aside0.mk hr24
                  have HC174 := Aside0.mk (show y171.length ≤ co14 from by omega)
                  clear hr24 hC24 hroom24 hi024 hsz24
                  have KY24 := Aside0.mk hy24
                  clear hy24
                  have KL24 := Aside0.mk (show (x12_1 : Int).toNat ≤ t152.length from by omega)
                  replace q24 := eq_true q24
                  go_wp2_with (first | ((with_reducible refine gate_callee (f := 12) rfl ?_); refine goesL_ (some 47) rfl rfl Try.func12 (by kernel_rfl) rfl #[.slice Ao14 y171.length co14] rfl (by (try simp only [List.map_toArray, List.map_cons, List.map_nil]); first | done | rfl | (simp only [List.length_drop, List.length_take]; rfl)) ?_; (with_reducible refine (number_Take.calls k1 _ _ y171 t175 t176 t177 _ ?side1 ?side2 A22.out).mono ?_); (case side1 => repeat (first | exact (by repeat (first | (with_reducible exact HR174.out) | (with_reducible refine Kd.C_alloc ?_ _) | (with_reducible refine Kd.C_drewN ?_ _) | (with_reducible refine Kd.C_drew ?_) | exact HR174.out)) | (with_reducible refine Kd.C_alloc ?_ _) | (with_reducible refine Kd.C_drewN ?_ _) | (with_reducible refine Kd.C_drew ?_))); (case side2 => exact HC174.out); rintro e w' ⟨rfl, ⟨nd, rfl⟩⟩; refine ⟨_, rfl, ?_⟩))
                  go_roundg k1
                  case measure => have := HK1.out; omega
                  case rel => exact ⟨(wrap64 (x12_1 + 1)), (by first | rfl | (simp; done) | (simp [*]; done)), H', ⟨by have := HK1.out; omega⟩, ⟨by (with_reducible repeat (first | apply Kd.R_alloc | apply Kd.R_drewN | apply Kd.R_drew)); exact HO_7.out⟩, ⟨by repeat (first | (with_reducible first | exact HB.out | apply below_alloc | apply pw_below_drewN | apply below_drew1) | exact HB.out)⟩⟩
                · rw [if_neg c23] at H
                  have c23b0 : (t177 == 7) = false := beq_eq_false_iff_ne.mpr c23
                  have c23b1 : (t177 != 7) = true := bne_iff_ne.mpr c23
                  obtain rfl := Option.some.inj H
                  have q25 : (x12_1 : Int) ≤ ((t152.length : Int) : Int) := of_decide_eq_true (by first | (with_reducible assumption) | assumption)
                  obtain ⟨i025, hi025, _, hsz25, _⟩ := info_parts info5
                  have hroom25 : t152.length ≤ co14 := (Kd.R_reads' HO_7.out).2.1
                  have hC25 : Kd.C (Kd.int .u8) _ Ao14 t152.length t152 := (Kd.R_reads' HO_7.out).2.2
                  have hcut25 := cut_to (P := Try.prog) 22 5 .i64 Try.underlying22 hi025 Ao14 t152.length co14 x12_1 (of_decide_eq_true (by first | (with_reducible assumption) | assumption)) q25 hroom25
                  have hr25 := Kd.C_take (m := (x12_1 : Int).toNat) hC25 (by omega)
                  have hy25 : y171.length = (x12_1 : Int).toNat := (by rw [Ny171.out, List.length_take]; omega)
                  rw [← Ny171.out] at hr25
                  rw [← hy25] at hcut25
                  have HR174 := Aside0.mk hr25
                  have HC174 := Aside0.mk (show y171.length ≤ co14 from by omega)
                  clear hr25 hC25 hroom25 hi025 hsz25
                  have KY25 := Aside0.mk hy25
                  clear hy25
                  have KL25 := Aside0.mk (show (x12_1 : Int).toNat ≤ t152.length from by omega)
                  replace q25 := eq_true q25
                  go_wp2_with (first | ((with_reducible refine gate_callee (f := 12) rfl ?_); refine goesL_ (some 47) rfl rfl Try.func12 (by kernel_rfl) rfl #[.slice Ao14 y171.length co14] rfl (by (try simp only [List.map_toArray, List.map_cons, List.map_nil]); first | done | rfl | (simp only [List.length_drop, List.length_take]; rfl)) ?_; (with_reducible refine (number_Take.calls k1 _ _ y171 t175 t176 t177 _ ?side1 ?side2 A22.out).mono ?_); (case side1 => repeat (first | exact (by repeat (first | (with_reducible exact HR174.out) | (with_reducible refine Kd.C_alloc ?_ _) | (with_reducible refine Kd.C_drewN ?_ _) | (with_reducible refine Kd.C_drew ?_) | exact HR174.out)) | (with_reducible refine Kd.C_alloc ?_ _) | (with_reducible refine Kd.C_drewN ?_ _) | (with_reducible refine Kd.C_drew ?_))); (case side2 => exact HC174.out); rintro e w' ⟨rfl, ⟨nd, rfl⟩⟩; refine ⟨_, rfl, ?_⟩))
                  go_ret
                  exact ⟨by first | rfl | (simp [errW_none, errW_some] <;> rfl) | (simp [*, errW_none, errW_some] <;> rfl), by repeat (first | (with_reducible first | exact HB.out | apply below_alloc | apply pw_below_drewN | apply below_drew1) | exact HB.out)⟩
              · rw [if_neg c21] at H
                exact absurd H (by simp)
            · rw [if_neg c20] at H
              exact absurd H (by simp)
          · rw [if_neg c19] at H
            have c19b0 : decide (x12_1 < (t152.length : Int)) = false := decide_eq_false c19
            clear c19
            by_cases c26 : (t152.length : Int) ≥ 1
            · rw [if_pos c26] at H
              have c26b0 : decide (1 ≤ (t152.length : Int)) = true := decide_eq_true c26
              have c26b1 : decide (1 ≤ t152.length) = true := decide_eq_true (by omega)
              clear c26
              by_cases c27 : (t152.length : Int) ≤ 4
              · rw [if_pos c27] at H
                have c27b0 : decide ((t152.length : Int) ≤ 4) = true := decide_eq_true c27
                have c27b1 : decide (t152.length ≤ 4) = true := decide_eq_true (by omega)
                clear c27
                by_cases c28 : (t152.length : Int) = 1
                · rw [if_pos c28] at H
                  have c28b0 : ((t152.length : Int) == 1) = true := beq_iff_eq.mpr c28
                  have c28b1 : ((t152.length : Int) != 1) = false := bne_eq_false_iff_eq.mpr c28
                  clear c28
                  obtain ⟨ji29, hji29⟩ : ∃ j_ : Int, (wrap64 (7 * (t152.length : Int))) = j_ := ⟨_, rfl⟩
                  replace H : (if 0 ≤ (ji29) then (if t151 = true then (if t153 = 0 then (if t170 = 0 then (if t168 = (Go.bits .and .i64 (wrap64 (a0)) 268435455) then (if t169 = (t152.length : Int) then (some (decide ((Go.bits .and .i64 (wrap64 (a0)) 268435455) < (shl .i64 1 (ji29))))) else (some false)) else (some false)) else (some false)) else (some false)) else (some false)) else (none)) = some r := by first | (rw [hji29] at H; exact H) | (simp only [hji29] at H ⊢; exact H)
                  have hji29w : (IntKind.i64.wrap (7 * (t152.length : Int))) = ji29 := (i64_w _).trans hji29
                  by_cases c30 : 0 ≤ (ji29)
                  · rw [if_pos c30] at H
                    have c30b0 := eq_true c30
                    have c30b1 : decide (0 ≤ (ji29)) = true := decide_eq_true c30
                    clear c30
                    obtain ⟨ji31, hji31⟩ : ∃ j_ : Int, (shl .i64 1 (ji29)) = j_ := ⟨_, rfl⟩
                    replace H : (if t151 = true then (if t153 = 0 then (if t170 = 0 then (if t168 = (Go.bits .and .i64 (wrap64 (a0)) 268435455) then (if t169 = (t152.length : Int) then (some (decide ((Go.bits .and .i64 (wrap64 (a0)) 268435455) < (ji31)))) else (some false)) else (some false)) else (some false)) else (some false)) else (some false)) = some r := by first | (rw [hji31] at H; exact H) | (simp only [hji31] at H ⊢; exact H)
                    have hji31_ : (IntKind.i64.wrap (1 * 2 ^ min (ji29).toNat 64)) = ji31 := hji31
                    have hji31z : (ji29) ≤ 64 → (IntKind.i64.wrap (1 * 2 ^ (ji29).toNat)) = ji31 := shl_small hji31
                    have hji31u : (IntKind.i64.wrap (2 ^ min (ji29).toNat 64)) = ji31 := by have h_ := hji31_; rw [Int.one_mul] at h_; exact h_
                    have hji31v : (ji29) ≤ 64 → (IntKind.i64.wrap (2 ^ (ji29).toNat)) = ji31 := fun hle_ => by have h_ := hji31z hle_; rw [Int.one_mul] at h_; exact h_
                    have hji31y : (wrap64 (1 * 2 ^ min (ji29).toNat 64)) = ji31 := (i64_w _).symm.trans hji31_
                    have hji31x : (ji29) ≤ 64 → (wrap64 (1 * 2 ^ (ji29).toNat)) = ji31 := fun h_ => (i64_w _).symm.trans (hji31z h_)
                    by_cases c32 : t151 = true
                    · subst c32
                      have H1 : (if t153 = 0 then (if t170 = 0 then (if t168 = (Go.bits .and .i64 (wrap64 (a0)) 268435455) then (if t169 = (t152.length : Int) then (some (decide ((Go.bits .and .i64 (wrap64 (a0)) 268435455) < (ji31)))) else (some false)) else (some false)) else (some false)) else (some false)) = some r := by rw [if_pos rfl] at H; exact H
                      clear H
                      have H := H1
                      clear H1
                      by_cases c33 : t153 = 0
                      · rw [if_pos c33] at H
                        have c33b0 : (t153 == 0) = true := beq_iff_eq.mpr c33
                        have c33b1 : (t153 != 0) = false := bne_eq_false_iff_eq.mpr c33
                        clear c33
                        by_cases c34 : t170 = 0
                        · rw [if_pos c34] at H
                          have c34b0 : (t170 == 0) = true := beq_iff_eq.mpr c34
                          have c34b1 : (t170 != 0) = false := bne_eq_false_iff_eq.mpr c34
                          clear c34
                          by_cases c35 : t168 = (Go.bits .and .i64 (wrap64 (a0)) 268435455)
                          · rw [if_pos c35] at H
                            have c35b0 : (t168 == (Go.bits .and .i64 (wrap64 (a0)) 268435455)) = true := beq_iff_eq.mpr c35
                            have c35b1 : (t168 != (Go.bits .and .i64 (wrap64 (a0)) 268435455)) = false := bne_eq_false_iff_eq.mpr c35
                            clear c35
                            by_cases c36 : t169 = (t152.length : Int)
                            · rw [if_pos c36] at H
                              have c36b0 : (t169 == (t152.length : Int)) = true := beq_iff_eq.mpr c36
                              have c36b1 : (t169 != (t152.length : Int)) = false := bne_eq_false_iff_eq.mpr c36
                              clear c36
                              obtain rfl := Option.some.inj H
                              go_wp2
                              go_ret
                              exact ⟨by first | rfl | (simp [errW_none, errW_some] <;> rfl) | (simp only [← hji29, ← hji31]; first | rfl | (simp [errW_none, errW_some] <;> rfl)) | (simp [*, errW_none, errW_some] <;> rfl), by repeat (first | (with_reducible first | exact HB.out | apply below_alloc | apply pw_below_drewN | apply below_drew1) | exact HB.out)⟩
                            · rw [if_neg c36] at H
                              have c36b0 : (t169 == (t152.length : Int)) = false := beq_eq_false_iff_ne.mpr c36
                              have c36b1 : (t169 != (t152.length : Int)) = true := bne_iff_ne.mpr c36
                              obtain rfl := Option.some.inj H
                              go_wp2
                              go_ret
                              exact ⟨by first | rfl | (simp [errW_none, errW_some] <;> rfl) | (simp only [← hji29, ← hji31]; first | rfl | (simp [errW_none, errW_some] <;> rfl)) | (simp [*, errW_none, errW_some] <;> rfl), by repeat (first | (with_reducible first | exact HB.out | apply below_alloc | apply pw_below_drewN | apply below_drew1) | exact HB.out)⟩
                          · rw [if_neg c35] at H
                            have c35b0 : (t168 == (Go.bits .and .i64 (wrap64 (a0)) 268435455)) = false := beq_eq_false_iff_ne.mpr c35
                            have c35b1 : (t168 != (Go.bits .and .i64 (wrap64 (a0)) 268435455)) = true := bne_iff_ne.mpr c35
                            obtain rfl := Option.some.inj H
                            go_wp2
                            go_ret
                            exact ⟨by first | rfl | (simp [errW_none, errW_some] <;> rfl) | (simp only [← hji29, ← hji31]; first | rfl | (simp [errW_none, errW_some] <;> rfl)) | (simp [*, errW_none, errW_some] <;> rfl), by repeat (first | (with_reducible first | exact HB.out | apply below_alloc | apply pw_below_drewN | apply below_drew1) | exact HB.out)⟩
                        · rw [if_neg c34] at H
                          have c34b0 : (t170 == 0) = false := beq_eq_false_iff_ne.mpr c34
                          have c34b1 : (t170 != 0) = true := bne_iff_ne.mpr c34
                          obtain rfl := Option.some.inj H
                          go_wp2
                          go_ret
                          exact ⟨by first | rfl | (simp [errW_none, errW_some] <;> rfl) | (simp only [← hji29, ← hji31]; first | rfl | (simp [errW_none, errW_some] <;> rfl)) | (simp [*, errW_none, errW_some] <;> rfl), by repeat (first | (with_reducible first | exact HB.out | apply below_alloc | apply pw_below_drewN | apply below_drew1) | exact HB.out)⟩
                      · rw [if_neg c33] at H
                        have c33b0 : (t153 == 0) = false := beq_eq_false_iff_ne.mpr c33
                        have c33b1 : (t153 != 0) = true := bne_iff_ne.mpr c33
                        obtain rfl := Option.some.inj H
                        go_wp2
                        go_ret
                        exact ⟨by first | rfl | (simp [errW_none, errW_some] <;> rfl) | (simp only [← hji29, ← hji31]; first | rfl | (simp [errW_none, errW_some] <;> rfl)) | (simp [*, errW_none, errW_some] <;> rfl), by repeat (first | (with_reducible first | exact HB.out | apply below_alloc | apply pw_below_drewN | apply below_drew1) | exact HB.out)⟩
                    · replace c32 := Bool.eq_false_iff.mpr c32
                      subst c32
                      have H1 : (some false) = some r := by rw [if_neg (show ¬ (false = true) by decide)] at H; exact H
                      clear H
                      have H := H1
                      clear H1
                      obtain rfl := Option.some.inj H
                      go_wp2
                      go_ret
                      exact ⟨by first | rfl | (simp [errW_none, errW_some] <;> rfl) | (simp only [← hji29, ← hji31]; first | rfl | (simp [errW_none, errW_some] <;> rfl)) | (simp [*, errW_none, errW_some] <;> rfl), by repeat (first | (with_reducible first | exact HB.out | apply below_alloc | apply pw_below_drewN | apply below_drew1) | exact HB.out)⟩
                  · rw [if_neg c30] at H
                    exact absurd H (by simp)
                · rw [if_neg c28] at H
                  have c28b0 : ((t152.length : Int) == 1) = false := beq_eq_false_iff_ne.mpr c28
                  have c28b1 : ((t152.length : Int) != 1) = true := bne_iff_ne.mpr c28
                  obtain ⟨ji37, hji37⟩ : ∃ j_ : Int, (wrap64 (7 * (wrap64 ((t152.length : Int) - 1)))) = j_ := ⟨_, rfl⟩
                  replace H : (if 0 ≤ (ji37) then (if (Go.bits .and .i64 (wrap64 (a0)) 268435455) ≥ (shl .i64 1 (ji37)) then (if 0 ≤ (wrap64 (7 * (t152.length : Int))) then (if t151 = true then (if t153 = 0 then (if t170 = 0 then (if t168 = (Go.bits .and .i64 (wrap64 (a0)) 268435455) then (if t169 = (t152.length : Int) then (some (decide ((Go.bits .and .i64 (wrap64 (a0)) 268435455) < (shl .i64 1 (wrap64 (7 * (t152.length : Int))))))) else (some false)) else (some false)) else (some false)) else (some false)) else (some false)) else (none)) else (if t151 = true then (if t153 = 0 then (if t170 = 0 then (if t168 = (Go.bits .and .i64 (wrap64 (a0)) 268435455) then (if t169 = (t152.length : Int) then (some false) else (some false)) else (some false)) else (some false)) else (some false)) else (some false))) else (none)) = some r := by first | (rw [hji37] at H; exact H) | (simp only [hji37] at H ⊢; exact H)
                  have hji37w : (IntKind.i64.wrap (7 * (wrap64 ((t152.length : Int) - 1)))) = ji37 := (i64_w _).trans hji37
                  by_cases c38 : 0 ≤ (ji37)
                  · rw [if_pos c38] at H
                    have c38b0 := eq_true c38
                    have c38b1 : decide (0 ≤ (ji37)) = true := decide_eq_true c38
                    clear c38
                    obtain ⟨ji39, hji39⟩ : ∃ j_ : Int, (shl .i64 1 (ji37)) = j_ := ⟨_, rfl⟩
                    replace H : (if (Go.bits .and .i64 (wrap64 (a0)) 268435455) ≥ (ji39) then (if 0 ≤ (wrap64 (7 * (t152.length : Int))) then (if t151 = true then (if t153 = 0 then (if t170 = 0 then (if t168 = (Go.bits .and .i64 (wrap64 (a0)) 268435455) then (if t169 = (t152.length : Int) then (some (decide ((Go.bits .and .i64 (wrap64 (a0)) 268435455) < (shl .i64 1 (wrap64 (7 * (t152.length : Int))))))) else (some false)) else (some false)) else (some false)) else (some false)) else (some false)) else (none)) else (if t151 = true then (if t153 = 0 then (if t170 = 0 then (if t168 = (Go.bits .and .i64 (wrap64 (a0)) 268435455) then (if t169 = (t152.length : Int) then (some false) else (some false)) else (some false)) else (some false)) else (some false)) else (some false))) = some r := by first | (rw [hji39] at H; exact H) | (simp only [hji39] at H ⊢; exact H)
                    have hji39_ : (IntKind.i64.wrap (1 * 2 ^ min (ji37).toNat 64)) = ji39 := hji39
                    have hji39z : (ji37) ≤ 64 → (IntKind.i64.wrap (1 * 2 ^ (ji37).toNat)) = ji39 := shl_small hji39
                    have hji39u : (IntKind.i64.wrap (2 ^ min (ji37).toNat 64)) = ji39 := by have h_ := hji39_; rw [Int.one_mul] at h_; exact h_
                    have hji39v : (ji37) ≤ 64 → (IntKind.i64.wrap (2 ^ (ji37).toNat)) = ji39 := fun hle_ => by have h_ := hji39z hle_; rw [Int.one_mul] at h_; exact h_
                    have hji39y : (wrap64 (1 * 2 ^ min (ji37).toNat 64)) = ji39 := (i64_w _).symm.trans hji39_
                    have hji39x : (ji37) ≤ 64 → (wrap64 (1 * 2 ^ (ji37).toNat)) = ji39 := fun h_ => (i64_w _).symm.trans (hji39z h_)
                    by_cases c40 : (Go.bits .and .i64 (wrap64 (a0)) 268435455) ≥ (ji39)
                    · rw [if_pos c40] at H
                      have c40b0 : decide ((ji39) ≤ (Go.bits .and .i64 (wrap64 (a0)) 268435455)) = true := decide_eq_true c40
                      clear c40
                      obtain ⟨ji41, hji41⟩ : ∃ j_ : Int, (wrap64 (7 * (t152.length : Int))) = j_ := ⟨_, rfl⟩
                      replace H : (if 0 ≤ (ji41) then (if t151 = true then (if t153 = 0 then (if t170 = 0 then (if t168 = (Go.bits .and .i64 (wrap64 (a0)) 268435455) then (if t169 = (t152.length : Int) then (some (decide ((Go.bits .and .i64 (wrap64 (a0)) 268435455) < (shl .i64 1 (ji41))))) else (some false)) else (some false)) else (some false)) else (some false)) else (some false)) else (none)) = some r := by first | (rw [hji41] at H; exact H) | (simp only [hji41] at H ⊢; exact H)
                      have hji41w : (IntKind.i64.wrap (7 * (t152.length : Int))) = ji41 := (i64_w _).trans hji41
                      by_cases c42 : 0 ≤ (ji41)
                      · rw [if_pos c42] at H
                        have c42b0 := eq_true c42
                        have c42b1 : decide (0 ≤ (ji41)) = true := decide_eq_true c42
                        clear c42
                        obtain ⟨ji43, hji43⟩ : ∃ j_ : Int, (shl .i64 1 (ji41)) = j_ := ⟨_, rfl⟩
                        replace H : (if t151 = true then (if t153 = 0 then (if t170 = 0 then (if t168 = (Go.bits .and .i64 (wrap64 (a0)) 268435455) then (if t169 = (t152.length : Int) then (some (decide ((Go.bits .and .i64 (wrap64 (a0)) 268435455) < (ji43)))) else (some false)) else (some false)) else (some false)) else (some false)) else (some false)) = some r := by first | (rw [hji43] at H; exact H) | (simp only [hji43] at H ⊢; exact H)
                        have hji43_ : (IntKind.i64.wrap (1 * 2 ^ min (ji41).toNat 64)) = ji43 := hji43
                        have hji43z : (ji41) ≤ 64 → (IntKind.i64.wrap (1 * 2 ^ (ji41).toNat)) = ji43 := shl_small hji43
                        have hji43u : (IntKind.i64.wrap (2 ^ min (ji41).toNat 64)) = ji43 := by have h_ := hji43_; rw [Int.one_mul] at h_; exact h_
                        have hji43v : (ji41) ≤ 64 → (IntKind.i64.wrap (2 ^ (ji41).toNat)) = ji43 := fun hle_ => by have h_ := hji43z hle_; rw [Int.one_mul] at h_; exact h_
                        have hji43y : (wrap64 (1 * 2 ^ min (ji41).toNat 64)) = ji43 := (i64_w _).symm.trans hji43_
                        have hji43x : (ji41) ≤ 64 → (wrap64 (1 * 2 ^ (ji41).toNat)) = ji43 := fun h_ => (i64_w _).symm.trans (hji43z h_)
                        by_cases c44 : t151 = true
                        · subst c44
                          have H1 : (if t153 = 0 then (if t170 = 0 then (if t168 = (Go.bits .and .i64 (wrap64 (a0)) 268435455) then (if t169 = (t152.length : Int) then (some (decide ((Go.bits .and .i64 (wrap64 (a0)) 268435455) < (ji43)))) else (some false)) else (some false)) else (some false)) else (some false)) = some r := by rw [if_pos rfl] at H; exact H
                          clear H
                          have H := H1
                          clear H1
                          by_cases c45 : t153 = 0
                          · rw [if_pos c45] at H
                            have c45b0 : (t153 == 0) = true := beq_iff_eq.mpr c45
                            have c45b1 : (t153 != 0) = false := bne_eq_false_iff_eq.mpr c45
                            clear c45
                            by_cases c46 : t170 = 0
                            · rw [if_pos c46] at H
                              have c46b0 : (t170 == 0) = true := beq_iff_eq.mpr c46
                              have c46b1 : (t170 != 0) = false := bne_eq_false_iff_eq.mpr c46
                              clear c46
                              by_cases c47 : t168 = (Go.bits .and .i64 (wrap64 (a0)) 268435455)
                              · rw [if_pos c47] at H
                                have c47b0 : (t168 == (Go.bits .and .i64 (wrap64 (a0)) 268435455)) = true := beq_iff_eq.mpr c47
                                have c47b1 : (t168 != (Go.bits .and .i64 (wrap64 (a0)) 268435455)) = false := bne_eq_false_iff_eq.mpr c47
                                clear c47
                                by_cases c48 : t169 = (t152.length : Int)
                                · rw [if_pos c48] at H
                                  have c48b0 : (t169 == (t152.length : Int)) = true := beq_iff_eq.mpr c48
                                  have c48b1 : (t169 != (t152.length : Int)) = false := bne_eq_false_iff_eq.mpr c48
                                  clear c48
                                  obtain rfl := Option.some.inj H
                                  go_wp2
                                  go_ret
                                  exact ⟨by first | rfl | (simp [errW_none, errW_some] <;> rfl) | (simp only [← hji37, ← hji39, ← hji41, ← hji43]; first | rfl | (simp [errW_none, errW_some] <;> rfl)) | (simp [*, errW_none, errW_some] <;> rfl), by repeat (first | (with_reducible first | exact HB.out | apply below_alloc | apply pw_below_drewN | apply below_drew1) | exact HB.out)⟩
                                · rw [if_neg c48] at H
                                  have c48b0 : (t169 == (t152.length : Int)) = false := beq_eq_false_iff_ne.mpr c48
                                  have c48b1 : (t169 != (t152.length : Int)) = true := bne_iff_ne.mpr c48
                                  obtain rfl := Option.some.inj H
                                  go_wp2
                                  go_ret
                                  exact ⟨by first | rfl | (simp [errW_none, errW_some] <;> rfl) | (simp only [← hji37, ← hji39, ← hji41, ← hji43]; first | rfl | (simp [errW_none, errW_some] <;> rfl)) | (simp [*, errW_none, errW_some] <;> rfl), by repeat (first | (with_reducible first | exact HB.out | apply below_alloc | apply pw_below_drewN | apply below_drew1) | exact HB.out)⟩
                              · rw [if_neg c47] at H
                                have c47b0 : (t168 == (Go.bits .and .i64 (wrap64 (a0)) 268435455)) = false := beq_eq_false_iff_ne.mpr c47
                                have c47b1 : (t168 != (Go.bits .and .i64 (wrap64 (a0)) 268435455)) = true := bne_iff_ne.mpr c47
                                obtain rfl := Option.some.inj H
                                go_wp2
                                go_ret
                                exact ⟨by first | rfl | (simp [errW_none, errW_some] <;> rfl) | (simp only [← hji37, ← hji39, ← hji41, ← hji43]; first | rfl | (simp [errW_none, errW_some] <;> rfl)) | (simp [*, errW_none, errW_some] <;> rfl), by repeat (first | (with_reducible first | exact HB.out | apply below_alloc | apply pw_below_drewN | apply below_drew1) | exact HB.out)⟩
                            · rw [if_neg c46] at H
                              have c46b0 : (t170 == 0) = false := beq_eq_false_iff_ne.mpr c46
                              have c46b1 : (t170 != 0) = true := bne_iff_ne.mpr c46
                              obtain rfl := Option.some.inj H
                              go_wp2
                              go_ret
                              exact ⟨by first | rfl | (simp [errW_none, errW_some] <;> rfl) | (simp only [← hji37, ← hji39, ← hji41, ← hji43]; first | rfl | (simp [errW_none, errW_some] <;> rfl)) | (simp [*, errW_none, errW_some] <;> rfl), by repeat (first | (with_reducible first | exact HB.out | apply below_alloc | apply pw_below_drewN | apply below_drew1) | exact HB.out)⟩
                          · rw [if_neg c45] at H
                            have c45b0 : (t153 == 0) = false := beq_eq_false_iff_ne.mpr c45
                            have c45b1 : (t153 != 0) = true := bne_iff_ne.mpr c45
                            obtain rfl := Option.some.inj H
                            go_wp2
                            go_ret
                            exact ⟨by first | rfl | (simp [errW_none, errW_some] <;> rfl) | (simp only [← hji37, ← hji39, ← hji41, ← hji43]; first | rfl | (simp [errW_none, errW_some] <;> rfl)) | (simp [*, errW_none, errW_some] <;> rfl), by repeat (first | (with_reducible first | exact HB.out | apply below_alloc | apply pw_below_drewN | apply below_drew1) | exact HB.out)⟩
                        · replace c44 := Bool.eq_false_iff.mpr c44
                          subst c44
                          have H1 : (some false) = some r := by rw [if_neg (show ¬ (false = true) by decide)] at H; exact H
                          clear H
                          have H := H1
                          clear H1
                          obtain rfl := Option.some.inj H
                          go_wp2
                          go_ret
                          exact ⟨by first | rfl | (simp [errW_none, errW_some] <;> rfl) | (simp only [← hji37, ← hji39, ← hji41, ← hji43]; first | rfl | (simp [errW_none, errW_some] <;> rfl)) | (simp [*, errW_none, errW_some] <;> rfl), by repeat (first | (with_reducible first | exact HB.out | apply below_alloc | apply pw_below_drewN | apply below_drew1) | exact HB.out)⟩
                      · rw [if_neg c42] at H
                        exact absurd H (by simp)
                    · rw [if_neg c40] at H
                      have c40b0 : decide ((ji39) ≤ (Go.bits .and .i64 (wrap64 (a0)) 268435455)) = false := decide_eq_false c40
                      clear c40
                      by_cases c49 : t151 = true
                      · subst c49
                        have H1 : (if t153 = 0 then (if t170 = 0 then (if t168 = (Go.bits .and .i64 (wrap64 (a0)) 268435455) then (if t169 = (t152.length : Int) then (some false) else (some false)) else (some false)) else (some false)) else (some false)) = some r := by rw [if_pos rfl] at H; exact H
                        clear H
                        have H := H1
                        clear H1
                        by_cases c50 : t153 = 0
                        · rw [if_pos c50] at H
                          have c50b0 : (t153 == 0) = true := beq_iff_eq.mpr c50
                          have c50b1 : (t153 != 0) = false := bne_eq_false_iff_eq.mpr c50
                          clear c50
                          by_cases c51 : t170 = 0
                          · rw [if_pos c51] at H
                            have c51b0 : (t170 == 0) = true := beq_iff_eq.mpr c51
                            have c51b1 : (t170 != 0) = false := bne_eq_false_iff_eq.mpr c51
                            clear c51
                            by_cases c52 : t168 = (Go.bits .and .i64 (wrap64 (a0)) 268435455)
                            · rw [if_pos c52] at H
                              have c52b0 : (t168 == (Go.bits .and .i64 (wrap64 (a0)) 268435455)) = true := beq_iff_eq.mpr c52
                              have c52b1 : (t168 != (Go.bits .and .i64 (wrap64 (a0)) 268435455)) = false := bne_eq_false_iff_eq.mpr c52
                              clear c52
                              by_cases c53 : t169 = (t152.length : Int)
                              · rw [if_pos c53] at H
                                have c53b0 : (t169 == (t152.length : Int)) = true := beq_iff_eq.mpr c53
                                have c53b1 : (t169 != (t152.length : Int)) = false := bne_eq_false_iff_eq.mpr c53
                                clear c53
                                obtain rfl := Option.some.inj H
                                go_wp2
                                go_ret
                                exact ⟨by first | rfl | (simp [errW_none, errW_some] <;> rfl) | (simp only [← hji37, ← hji39]; first | rfl | (simp [errW_none, errW_some] <;> rfl)) | (simp [*, errW_none, errW_some] <;> rfl), by repeat (first | (with_reducible first | exact HB.out | apply below_alloc | apply pw_below_drewN | apply below_drew1) | exact HB.out)⟩
                              · rw [if_neg c53] at H
                                have c53b0 : (t169 == (t152.length : Int)) = false := beq_eq_false_iff_ne.mpr c53
                                have c53b1 : (t169 != (t152.length : Int)) = true := bne_iff_ne.mpr c53
                                obtain rfl := Option.some.inj H
                                go_wp2
                                go_ret
                                exact ⟨by first | rfl | (simp [errW_none, errW_some] <;> rfl) | (simp only [← hji37, ← hji39]; first | rfl | (simp [errW_none, errW_some] <;> rfl)) | (simp [*, errW_none, errW_some] <;> rfl), by repeat (first | (with_reducible first | exact HB.out | apply below_alloc | apply pw_below_drewN | apply below_drew1) | exact HB.out)⟩
                            · rw [if_neg c52] at H
                              have c52b0 : (t168 == (Go.bits .and .i64 (wrap64 (a0)) 268435455)) = false := beq_eq_false_iff_ne.mpr c52
                              have c52b1 : (t168 != (Go.bits .and .i64 (wrap64 (a0)) 268435455)) = true := bne_iff_ne.mpr c52
                              obtain rfl := Option.some.inj H
                              go_wp2
                              go_ret
                              exact ⟨by first | rfl | (simp [errW_none, errW_some] <;> rfl) | (simp only [← hji37, ← hji39]; first | rfl | (simp [errW_none, errW_some] <;> rfl)) | (simp [*, errW_none, errW_some] <;> rfl), by repeat (first | (with_reducible first | exact HB.out | apply below_alloc | apply pw_below_drewN | apply below_drew1) | exact HB.out)⟩
                          · rw [if_neg c51] at H
                            have c51b0 : (t170 == 0) = false := beq_eq_false_iff_ne.mpr c51
                            have c51b1 : (t170 != 0) = true := bne_iff_ne.mpr c51
                            obtain rfl := Option.some.inj H
                            go_wp2
                            go_ret
                            exact ⟨by first | rfl | (simp [errW_none, errW_some] <;> rfl) | (simp only [← hji37, ← hji39]; first | rfl | (simp [errW_none, errW_some] <;> rfl)) | (simp [*, errW_none, errW_some] <;> rfl), by repeat (first | (with_reducible first | exact HB.out | apply below_alloc | apply pw_below_drewN | apply below_drew1) | exact HB.out)⟩
                        · rw [if_neg c50] at H
                          have c50b0 : (t153 == 0) = false := beq_eq_false_iff_ne.mpr c50
                          have c50b1 : (t153 != 0) = true := bne_iff_ne.mpr c50
                          obtain rfl := Option.some.inj H
                          go_wp2
                          go_ret
                          exact ⟨by first | rfl | (simp [errW_none, errW_some] <;> rfl) | (simp only [← hji37, ← hji39]; first | rfl | (simp [errW_none, errW_some] <;> rfl)) | (simp [*, errW_none, errW_some] <;> rfl), by repeat (first | (with_reducible first | exact HB.out | apply below_alloc | apply pw_below_drewN | apply below_drew1) | exact HB.out)⟩
                      · replace c49 := Bool.eq_false_iff.mpr c49
                        subst c49
                        have H1 : (some false) = some r := by rw [if_neg (show ¬ (false = true) by decide)] at H; exact H
                        clear H
                        have H := H1
                        clear H1
                        obtain rfl := Option.some.inj H
                        go_wp2
                        go_ret
                        exact ⟨by first | rfl | (simp [errW_none, errW_some] <;> rfl) | (simp only [← hji37, ← hji39]; first | rfl | (simp [errW_none, errW_some] <;> rfl)) | (simp [*, errW_none, errW_some] <;> rfl), by repeat (first | (with_reducible first | exact HB.out | apply below_alloc | apply pw_below_drewN | apply below_drew1) | exact HB.out)⟩
                  · rw [if_neg c38] at H
                    exact absurd H (by simp)
              · rw [if_neg c27] at H
                have c27b0 : decide ((t152.length : Int) ≤ 4) = false := decide_eq_false c27
                have c27b1 : decide (t152.length ≤ 4) = false := decide_eq_false (by omega)
                clear c27
                by_cases c54 : t151 = true
                · subst c54
                  have H1 : (if t153 = 0 then (if t170 = 0 then (if t168 = (Go.bits .and .i64 (wrap64 (a0)) 268435455) then (if t169 = (t152.length : Int) then (some false) else (some false)) else (some false)) else (some false)) else (some false)) = some r := by rw [if_pos rfl] at H; exact H
                  clear H
                  have H := H1
                  clear H1
                  by_cases c55 : t153 = 0
                  · rw [if_pos c55] at H
                    have c55b0 : (t153 == 0) = true := beq_iff_eq.mpr c55
                    have c55b1 : (t153 != 0) = false := bne_eq_false_iff_eq.mpr c55
                    clear c55
                    by_cases c56 : t170 = 0
                    · rw [if_pos c56] at H
                      have c56b0 : (t170 == 0) = true := beq_iff_eq.mpr c56
                      have c56b1 : (t170 != 0) = false := bne_eq_false_iff_eq.mpr c56
                      clear c56
                      by_cases c57 : t168 = (Go.bits .and .i64 (wrap64 (a0)) 268435455)
                      · rw [if_pos c57] at H
                        have c57b0 : (t168 == (Go.bits .and .i64 (wrap64 (a0)) 268435455)) = true := beq_iff_eq.mpr c57
                        have c57b1 : (t168 != (Go.bits .and .i64 (wrap64 (a0)) 268435455)) = false := bne_eq_false_iff_eq.mpr c57
                        clear c57
                        by_cases c58 : t169 = (t152.length : Int)
                        · rw [if_pos c58] at H
                          have c58b0 : (t169 == (t152.length : Int)) = true := beq_iff_eq.mpr c58
                          have c58b1 : (t169 != (t152.length : Int)) = false := bne_eq_false_iff_eq.mpr c58
                          clear c58
                          obtain rfl := Option.some.inj H
                          go_wp2
                          go_ret
                          exact ⟨by first | rfl | (simp [errW_none, errW_some] <;> rfl) | (simp [*, errW_none, errW_some] <;> rfl), by repeat (first | (with_reducible first | exact HB.out | apply below_alloc | apply pw_below_drewN | apply below_drew1) | exact HB.out)⟩
                        · rw [if_neg c58] at H
                          have c58b0 : (t169 == (t152.length : Int)) = false := beq_eq_false_iff_ne.mpr c58
                          have c58b1 : (t169 != (t152.length : Int)) = true := bne_iff_ne.mpr c58
                          obtain rfl := Option.some.inj H
                          go_wp2
                          go_ret
                          exact ⟨by first | rfl | (simp [errW_none, errW_some] <;> rfl) | (simp [*, errW_none, errW_some] <;> rfl), by repeat (first | (with_reducible first | exact HB.out | apply below_alloc | apply pw_below_drewN | apply below_drew1) | exact HB.out)⟩
                      · rw [if_neg c57] at H
                        have c57b0 : (t168 == (Go.bits .and .i64 (wrap64 (a0)) 268435455)) = false := beq_eq_false_iff_ne.mpr c57
                        have c57b1 : (t168 != (Go.bits .and .i64 (wrap64 (a0)) 268435455)) = true := bne_iff_ne.mpr c57
                        obtain rfl := Option.some.inj H
                        go_wp2
                        go_ret
                        exact ⟨by first | rfl | (simp [errW_none, errW_some] <;> rfl) | (simp [*, errW_none, errW_some] <;> rfl), by repeat (first | (with_reducible first | exact HB.out | apply below_alloc | apply pw_below_drewN | apply below_drew1) | exact HB.out)⟩
                    · rw [if_neg c56] at H
                      have c56b0 : (t170 == 0) = false := beq_eq_false_iff_ne.mpr c56
                      have c56b1 : (t170 != 0) = true := bne_iff_ne.mpr c56
                      obtain rfl := Option.some.inj H
                      go_wp2
                      go_ret
                      exact ⟨by first | rfl | (simp [errW_none, errW_some] <;> rfl) | (simp [*, errW_none, errW_some] <;> rfl), by repeat (first | (with_reducible first | exact HB.out | apply below_alloc | apply pw_below_drewN | apply below_drew1) | exact HB.out)⟩
                  · rw [if_neg c55] at H
                    have c55b0 : (t153 == 0) = false := beq_eq_false_iff_ne.mpr c55
                    have c55b1 : (t153 != 0) = true := bne_iff_ne.mpr c55
                    obtain rfl := Option.some.inj H
                    go_wp2
                    go_ret
                    exact ⟨by first | rfl | (simp [errW_none, errW_some] <;> rfl) | (simp [*, errW_none, errW_some] <;> rfl), by repeat (first | (with_reducible first | exact HB.out | apply below_alloc | apply pw_below_drewN | apply below_drew1) | exact HB.out)⟩
                · replace c54 := Bool.eq_false_iff.mpr c54
                  subst c54
                  have H1 : (some false) = some r := by rw [if_neg (show ¬ (false = true) by decide)] at H; exact H
                  clear H
                  have H := H1
                  clear H1
                  obtain rfl := Option.some.inj H
                  go_wp2
                  go_ret
                  exact ⟨by first | rfl | (simp [errW_none, errW_some] <;> rfl) | (simp [*, errW_none, errW_some] <;> rfl), by repeat (first | (with_reducible first | exact HB.out | apply below_alloc | apply pw_below_drewN | apply below_drew1) | exact HB.out)⟩
            · rw [if_neg c26] at H
              have c26b0 : decide (1 ≤ (t152.length : Int)) = false := decide_eq_false c26
              have c26b1 : decide (1 ≤ t152.length) = false := decide_eq_false (by omega)
              clear c26
              by_cases c59 : t151 = true
              · subst c59
                have H1 : (if t153 = 0 then (if t170 = 0 then (if t168 = (Go.bits .and .i64 (wrap64 (a0)) 268435455) then (if t169 = (t152.length : Int) then (some false) else (some false)) else (some false)) else (some false)) else (some false)) = some r := by rw [if_pos rfl] at H; exact H
                clear H
                have H := H1
                clear H1
                by_cases c60 : t153 = 0
                · rw [if_pos c60] at H
                  have c60b0 : (t153 == 0) = true := beq_iff_eq.mpr c60
                  have c60b1 : (t153 != 0) = false := bne_eq_false_iff_eq.mpr c60
                  clear c60
                  by_cases c61 : t170 = 0
                  · rw [if_pos c61] at H
                    have c61b0 : (t170 == 0) = true := beq_iff_eq.mpr c61
                    have c61b1 : (t170 != 0) = false := bne_eq_false_iff_eq.mpr c61
                    clear c61
                    by_cases c62 : t168 = (Go.bits .and .i64 (wrap64 (a0)) 268435455)
                    · rw [if_pos c62] at H
                      have c62b0 : (t168 == (Go.bits .and .i64 (wrap64 (a0)) 268435455)) = true := beq_iff_eq.mpr c62
                      have c62b1 : (t168 != (Go.bits .and .i64 (wrap64 (a0)) 268435455)) = false := bne_eq_false_iff_eq.mpr c62
                      clear c62
                      by_cases c63 : t169 = (t152.length : Int)
                      · rw [if_pos c63] at H
                        have c63b0 : (t169 == (t152.length : Int)) = true := beq_iff_eq.mpr c63
                        have c63b1 : (t169 != (t152.length : Int)) = false := bne_eq_false_iff_eq.mpr c63
                        clear c63
                        obtain rfl := Option.some.inj H
                        go_wp2
                        go_ret
                        exact ⟨by first | rfl | (simp [errW_none, errW_some] <;> rfl) | (simp [*, errW_none, errW_some] <;> rfl), by repeat (first | (with_reducible first | exact HB.out | apply below_alloc | apply pw_below_drewN | apply below_drew1) | exact HB.out)⟩
                      · rw [if_neg c63] at H
                        have c63b0 : (t169 == (t152.length : Int)) = false := beq_eq_false_iff_ne.mpr c63
                        have c63b1 : (t169 != (t152.length : Int)) = true := bne_iff_ne.mpr c63
                        obtain rfl := Option.some.inj H
                        go_wp2
                        go_ret
                        exact ⟨by first | rfl | (simp [errW_none, errW_some] <;> rfl) | (simp [*, errW_none, errW_some] <;> rfl), by repeat (first | (with_reducible first | exact HB.out | apply below_alloc | apply pw_below_drewN | apply below_drew1) | exact HB.out)⟩
                    · rw [if_neg c62] at H
                      have c62b0 : (t168 == (Go.bits .and .i64 (wrap64 (a0)) 268435455)) = false := beq_eq_false_iff_ne.mpr c62
                      have c62b1 : (t168 != (Go.bits .and .i64 (wrap64 (a0)) 268435455)) = true := bne_iff_ne.mpr c62
                      obtain rfl := Option.some.inj H
                      go_wp2
                      go_ret
                      exact ⟨by first | rfl | (simp [errW_none, errW_some] <;> rfl) | (simp [*, errW_none, errW_some] <;> rfl), by repeat (first | (with_reducible first | exact HB.out | apply below_alloc | apply pw_below_drewN | apply below_drew1) | exact HB.out)⟩
                  · rw [if_neg c61] at H
                    have c61b0 : (t170 == 0) = false := beq_eq_false_iff_ne.mpr c61
                    have c61b1 : (t170 != 0) = true := bne_iff_ne.mpr c61
                    obtain rfl := Option.some.inj H
                    go_wp2
                    go_ret
                    exact ⟨by first | rfl | (simp [errW_none, errW_some] <;> rfl) | (simp [*, errW_none, errW_some] <;> rfl), by repeat (first | (with_reducible first | exact HB.out | apply below_alloc | apply pw_below_drewN | apply below_drew1) | exact HB.out)⟩
                · rw [if_neg c60] at H
                  have c60b0 : (t153 == 0) = false := beq_eq_false_iff_ne.mpr c60
                  have c60b1 : (t153 != 0) = true := bne_iff_ne.mpr c60
                  obtain rfl := Option.some.inj H
                  go_wp2
                  go_ret
                  exact ⟨by first | rfl | (simp [errW_none, errW_some] <;> rfl) | (simp [*, errW_none, errW_some] <;> rfl), by repeat (first | (with_reducible first | exact HB.out | apply below_alloc | apply pw_below_drewN | apply below_drew1) | exact HB.out)⟩
              · replace c59 := Bool.eq_false_iff.mpr c59
                subst c59
                have H1 : (some false) = some r := by rw [if_neg (show ¬ (false = true) by decide)] at H; exact H
                clear H
                have H := H1
                clear H1
                obtain rfl := Option.some.inj H
                go_wp2
                go_ret
                exact ⟨by first | rfl | (simp [errW_none, errW_some] <;> rfl) | (simp [*, errW_none, errW_some] <;> rfl), by repeat (first | (with_reducible first | exact HB.out | apply below_alloc | apply pw_below_drewN | apply below_drew1) | exact HB.out)⟩
    · rw [if_neg c7] at H
      exact absurd H (by simp)
  · rw [if_neg c5] at H
    exact absurd H (by simp)

/-- THE ONE PURE STATEMENT of epitomelaw02_NumberBack: yours. -/
def epitomelaw02_NumberBack.Pure : Prop := ∀ (a0 : Int) (l1 : List Int), (Lit.int .u32 a0).wf = true → l1.length ≤ maxLen → l1.length * 1 ≤ 140737488351232 → (∀ x ∈ l1, (Lit.int .u8 x).wf = true) → ∃ k, epitomelaw02_NumberBack.f k a0 l1 = some true
theorem epitomelaw02_NumberBack.walk (P : epitomelaw02_NumberBack.Pure) (a0 : Int) (a1 : Option Addr) (len1 cap1 : Nat) (z1 : List Int) (w : World) (w0 : (Lit.int .u32 a0).wf = true) (w1 : (a1 = none ∧ len1 = 0 ∧ cap1 = 0 ∧ z1 = []) ∨ ∃ x, a1 = some x ∧ len1 ≤ cap1 ∧ cap1 ≤ maxLen ∧ z1.length = cap1 ∧ (∀ i, i < z1.length → w.cell? (x.add i) = some (.int .u8 (z1.getD i 0))) ∧ ∀ n ∈ z1, (Lit.int .u8 n).wf = true) (y1 : len1 * 1 ≤ 140737488351232) :
    Calls Try.prog 4 #[.int .u32 a0, .slice a1 len1 cap1] w fun e w' => e = .returned (.bool true) ∧ Below w.heap.size w w' := by
  obtain ⟨l1, rfl, hr1, hm1, hw1, hc1⟩ := ReadsInt.ofRowC w1
  obtain ⟨k, h⟩ := P a0 l1 w0 hm1 y1 hw1
  refine (epitomelaw02_NumberBack.calls k a0 _ _ l1 true w (Kd.C_of_reads (d := (0 : Int)) (h1 := fun _ => rfl) hr1) hc1 h).mono ?_
  rintro e w' ⟨rfl, hd⟩
  exact ⟨rfl, hd⟩

end Go.Proofs.Ytolljobehfmffaa.P
