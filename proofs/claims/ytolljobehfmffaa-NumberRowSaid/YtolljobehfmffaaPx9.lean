-- WRITTEN BY A PROGRAM OF THIS SESSION (wip/pp in its repo), made after the kit's print
import Derived.Test.YtolljobehfmffaaPx0
import Derived.Test.YtolljobehfmffaaPx1
import Derived.Test.YtolljobehfmffaaPx2
namespace Go.Proofs.Ytolljobehfmffaa.P
open Go.RowKit Go.Proofs.YtolljobehfmffaaW.PrintWords Go.Proofs.YtolljobehfmffaaW.PrintLast Go.Proofs.YtolljobehfmffaaW.PrintMore
attribute [local go_sem] max2_int min2_int max_two min_two max_three min_three max_four min_four   -- for this text's walks alone
set_option linter.unusedVariables false
set_option linter.unusedSimpArgs false

/-! ### epitomelaw02_NumberRow: function 7 -/
mutual
def epitomelaw02_NumberRow.l0 : Nat → List Int → Bool → List Int → Int → Option (Bool)
  | 0, _, _, _, _ => none
  | k + 1, x0, x3, x4, x5 => if x5 < (x0.length : Int) then (epitomelaw02_NumberRow.j1 k x0 x3 x4 x5 (decide (x5 < 20))) else (epitomelaw02_NumberRow.j1 k x0 x3 x4 x5 false)
def epitomelaw02_NumberRow.j1 : Nat → List Int → Bool → List Int → Int → Bool → Option (Bool)
  | 0, _, _, _, _, _ => none
  | k + 1, x0, x3, x4, x5, x22 => if x22 = true then (if 0 ≤ x5 then (if x5 < (x0.length : Int) then ((number_Put.f (Go.bits .and .i64 (wrap64 (rd x0 x5)) 268435455)).bind fun bt232 => (if bt232.2 = 0 then (if x4.length + bt232.1.length < 140737488355328 then (epitomelaw02_NumberRow.l0 k x0 x3 (x4 ++ bt232.1) (wrap64 (x5 + 1))) else (none)) else (some false))) else (none)) else (none)) else (epitomelaw02_NumberRow.l1 k x0 x3 x4 0 0)
def epitomelaw02_NumberRow.l1 : Nat → List Int → Bool → List Int → Int → Int → Option (Bool)
  | 0, _, _, _, _, _ => none
  | k + 1, x0, x3, x4, x8, x9 => if x9 < (x0.length : Int) then (epitomelaw02_NumberRow.j3 k x0 x3 x4 x8 x9 (decide (x9 < 20))) else (epitomelaw02_NumberRow.j3 k x0 x3 x4 x8 x9 false)
def epitomelaw02_NumberRow.j3 : Nat → List Int → Bool → List Int → Int → Int → Bool → Option (Bool)
  | 0, _, _, _, _, _, _ => none
  | k + 1, x0, x3, x4, x8, x9, x47 => if x47 = true then (if x8 > (x4.length : Int) then (some false) else (if 0 ≤ x8 then (if x8 ≤ (x4.length : Int) then ((number_Take.f k (x4.drop (x8 : Int).toNat)).bind fun bt243 => (if bt243.2.2 = 0 then (if 0 ≤ x9 then (if x9 < (x0.length : Int) then (if bt243.1 = (Go.bits .and .i64 (wrap64 (rd x0 x9)) 268435455) then (if bt243.2.1 < 1 then (some false) else (epitomelaw02_NumberRow.l1 k x0 x3 x4 (wrap64 (x8 + bt243.2.1)) (wrap64 (x9 + 1)))) else (some false)) else (none)) else (none)) else (some false))) else (none)) else (none))) else (if x3 = true then (some (x8 == (x4.length : Int))) else (some false))
end
def epitomelaw02_NumberRow.f (k : Nat) (l0 : List Int) : Option (Bool) := (epitomelaw02_shown.f k).bind fun t227 => (epitomelaw02_NumberRow.l0 k l0 t227 (([] : List Int)) 0)
theorem epitomelaw02_NumberRow.mono_l : ∀ k, (∀ y0 y1 y2 y3, LeO (epitomelaw02_NumberRow.l0 k y0 y1 y2 y3) (epitomelaw02_NumberRow.l0 (k + 1) y0 y1 y2 y3)) ∧ (∀ y0 y1 y2 y3 y4, LeO (epitomelaw02_NumberRow.j1 k y0 y1 y2 y3 y4) (epitomelaw02_NumberRow.j1 (k + 1) y0 y1 y2 y3 y4)) ∧ (∀ y0 y1 y2 y3 y4, LeO (epitomelaw02_NumberRow.l1 k y0 y1 y2 y3 y4) (epitomelaw02_NumberRow.l1 (k + 1) y0 y1 y2 y3 y4)) ∧ (∀ y0 y1 y2 y3 y4 y5, LeO (epitomelaw02_NumberRow.j3 k y0 y1 y2 y3 y4 y5) (epitomelaw02_NumberRow.j3 (k + 1) y0 y1 y2 y3 y4 y5))
  | 0 => ⟨fun _ _ _ _ r h => by simp [epitomelaw02_NumberRow.l0] at h, fun _ _ _ _ _ r h => by simp [epitomelaw02_NumberRow.j1] at h, fun _ _ _ _ _ r h => by simp [epitomelaw02_NumberRow.l1] at h, fun _ _ _ _ _ _ r h => by simp [epitomelaw02_NumberRow.j3] at h⟩
  | k + 1 => by
    obtain ⟨ih0, ih1, ih2, ih3⟩ := epitomelaw02_NumberRow.mono_l k
    refine ⟨?_, ?_, ?_, ?_⟩
    · intro y0 y1 y2 y3
      unfold epitomelaw02_NumberRow.l0
      repeat' first
      | (with_reducible exact ih0 _ _ _ _)
      | (with_reducible exact ih1 _ _ _ _ _)
      | (with_reducible exact ih2 _ _ _ _ _)
      | (with_reducible exact ih3 _ _ _ _ _ _)
      | (with_reducible exact epitomelaw02_shown.mono _)
      | (with_reducible exact number_Take.mono _ _)
      | (with_reducible exact LeO.refl _)
      | (with_reducible exact LeO.none _)
      | (with_reducible refine LeO.ite ?_ ?_)
      | (with_reducible refine LeO.bind ?_ (fun _ => ?_))
      | exact ih0 _ _ _ _
      | exact ih1 _ _ _ _ _
      | exact ih2 _ _ _ _ _
      | exact ih3 _ _ _ _ _ _
      | exact epitomelaw02_shown.mono _
      | exact number_Take.mono _ _
      | exact LeO.none _
      | refine LeO.ite ?_ ?_
      | refine LeO.bind ?_ (fun _ => ?_)
    · intro y0 y1 y2 y3 y4
      unfold epitomelaw02_NumberRow.j1
      repeat' first
      | (with_reducible exact ih0 _ _ _ _)
      | (with_reducible exact ih1 _ _ _ _ _)
      | (with_reducible exact ih2 _ _ _ _ _)
      | (with_reducible exact ih3 _ _ _ _ _ _)
      | (with_reducible exact epitomelaw02_shown.mono _)
      | (with_reducible exact number_Take.mono _ _)
      | (with_reducible exact LeO.refl _)
      | (with_reducible exact LeO.none _)
      | (with_reducible refine LeO.ite ?_ ?_)
      | (with_reducible refine LeO.bind ?_ (fun _ => ?_))
      | exact ih0 _ _ _ _
      | exact ih1 _ _ _ _ _
      | exact ih2 _ _ _ _ _
      | exact ih3 _ _ _ _ _ _
      | exact epitomelaw02_shown.mono _
      | exact number_Take.mono _ _
      | exact LeO.none _
      | refine LeO.ite ?_ ?_
      | refine LeO.bind ?_ (fun _ => ?_)
    · intro y0 y1 y2 y3 y4
      unfold epitomelaw02_NumberRow.l1
      repeat' first
      | (with_reducible exact ih0 _ _ _ _)
      | (with_reducible exact ih1 _ _ _ _ _)
      | (with_reducible exact ih2 _ _ _ _ _)
      | (with_reducible exact ih3 _ _ _ _ _ _)
      | (with_reducible exact epitomelaw02_shown.mono _)
      | (with_reducible exact number_Take.mono _ _)
      | (with_reducible exact LeO.refl _)
      | (with_reducible exact LeO.none _)
      | (with_reducible refine LeO.ite ?_ ?_)
      | (with_reducible refine LeO.bind ?_ (fun _ => ?_))
      | exact ih0 _ _ _ _
      | exact ih1 _ _ _ _ _
      | exact ih2 _ _ _ _ _
      | exact ih3 _ _ _ _ _ _
      | exact epitomelaw02_shown.mono _
      | exact number_Take.mono _ _
      | exact LeO.none _
      | refine LeO.ite ?_ ?_
      | refine LeO.bind ?_ (fun _ => ?_)
    · intro y0 y1 y2 y3 y4 y5
      unfold epitomelaw02_NumberRow.j3
      repeat' first
      | (with_reducible exact ih0 _ _ _ _)
      | (with_reducible exact ih1 _ _ _ _ _)
      | (with_reducible exact ih2 _ _ _ _ _)
      | (with_reducible exact ih3 _ _ _ _ _ _)
      | (with_reducible exact epitomelaw02_shown.mono _)
      | (with_reducible exact number_Take.mono _ _)
      | (with_reducible exact LeO.refl _)
      | (with_reducible exact LeO.none _)
      | (with_reducible refine LeO.ite ?_ ?_)
      | (with_reducible refine LeO.bind ?_ (fun _ => ?_))
      | exact ih0 _ _ _ _
      | exact ih1 _ _ _ _ _
      | exact ih2 _ _ _ _ _
      | exact ih3 _ _ _ _ _ _
      | exact epitomelaw02_shown.mono _
      | exact number_Take.mono _ _
      | exact LeO.none _
      | refine LeO.ite ?_ ?_
      | refine LeO.bind ?_ (fun _ => ?_)
theorem epitomelaw02_NumberRow.mono : ∀ a0 k, LeO (epitomelaw02_NumberRow.f k a0) (epitomelaw02_NumberRow.f (k + 1) a0) := by
  intro a0 k
  obtain ⟨ih0, ih1, ih2, ih3⟩ := epitomelaw02_NumberRow.mono_l k
  unfold epitomelaw02_NumberRow.f
  repeat' first
      | (with_reducible exact ih0 _ _ _ _)
      | (with_reducible exact ih1 _ _ _ _ _)
      | (with_reducible exact ih2 _ _ _ _ _)
      | (with_reducible exact ih3 _ _ _ _ _ _)
      | (with_reducible exact epitomelaw02_shown.mono _)
      | (with_reducible exact number_Take.mono _ _)
      | (with_reducible exact LeO.refl _)
      | (with_reducible exact LeO.none _)
      | (with_reducible refine LeO.ite ?_ ?_)
      | (with_reducible refine LeO.bind ?_ (fun _ => ?_))
      | exact ih0 _ _ _ _
      | exact ih1 _ _ _ _ _
      | exact ih2 _ _ _ _ _
      | exact ih3 _ _ _ _ _ _
      | exact epitomelaw02_shown.mono _
      | exact number_Take.mono _ _
      | exact LeO.none _
      | refine LeO.ite ?_ ?_
      | refine LeO.bind ?_ (fun _ => ?_)
set_option maxHeartbeats 8000000 in
set_option maxRecDepth 100000 in
theorem epitomelaw02_NumberRow.calls (k : Nat) (A0 : Option Addr) (c0 : Nat) (l0 : List Int) (r : Bool) (w : World) (hr0 : Kd.C (Kd.int .u32) w A0 l0.length l0) (hc0 : l0.length ≤ c0) (h : epitomelaw02_NumberRow.f k l0 = some r) :
    Calls Try.prog 7 #[.slice A0 l0.length c0] w fun e w' => e = .returned (.bool r) ∧ Below w.heap.size w w' := by
  have HR0 := Aside0.mk hr0
  have HC0 := Aside0.mk hc0
  clear hr0 hc0
  have HB := Aside0.mk (Below.refl w.heap.size w)
  have H : ((epitomelaw02_shown.f k).bind fun t227 => (epitomelaw02_NumberRow.l0 k l0 t227 (([] : List Int)) 0)) = some r := h
  clear h
  replace H := Option.bind_eq_some_iff.mp H
  obtain ⟨t227, A20, H⟩ := H
  replace H : (epitomelaw02_NumberRow.l0 k l0 t227 (([] : List Int)) 0) = some r := H
  have A2 := Aside0.mk A20
  clear A20
  obtain ⟨y228, hy228⟩ : ∃ y_ : List Int, y_ = (([] : List Int)) := ⟨_, rfl⟩
  replace H : (epitomelaw02_NumberRow.l0 k l0 t227 y228 0) = some r := by first | (rw [hy228]; with_reducible exact H) | (have H2_ := (Option.bind_some _ _).symm.trans H; rw [hy228]; with_reducible exact H2_) | (have H2_ := (Option.bind_some _ _).symm.trans H; with_reducible exact H2_) | with_reducible exact H | (rw [hy228]; exact H) | exact H
  have Ny228 := Aside0.mk hy228
  clear hy228
  have H' := Aside0.mk H
  clear H
  go_enter Try.func7, Try.ntmps7
  go_wp2_with (first | ((with_reducible refine gate_callee (f := 9) rfl ?_); refine goesL_ (some 13) rfl rfl Try.func9 (by kernel_rfl) rfl #[] rfl (by (try simp only [List.map_toArray, List.map_cons, List.map_nil]); first | done | rfl | (simp only [List.length_drop, List.length_take]; rfl)) ?_; (with_reducible refine (epitomelaw02_shown.calls k  t227 _ A2.out).mono ?_); rintro e w3 ⟨rfl, hb⟩; refine ⟨_, rfl, ?_⟩; have n0_ := Aside0.mk (below_step (by repeat (first | (with_reducible first | exact HB.out | apply below_alloc | apply pw_below_drewN | apply below_drew1) | exact HB.out)) hb); clear HB; have HB := n0_; clear n0_; (try clear hb); (try clear hb2); (try clear hk); (try clear hi)) | ((with_reducible refine gate_dst (N := 14) rfl ?_); (try (refine gate_guard (by rfl) ?_; dsimp only)); refine Kd.R_lit (Kd.int .u8) _ 5 ?hg (N := 14) ?hd (xs := ([] : List Int)) (inner := []) (ok := fun _ => True) (okp := fun _ => True) ?hr ?hp (fun _ hk => hk) trivial (Below.refl _ _) (Nat.le_refl _) (by simp) ?_; (case hd => rfl); (case hg => rfl); (case hr => first | (go_simp; done) | (go_simp; rfl)); (case hp => exact (Reps.none _ _)); intro v229 w4 ho5 hb hg_ hnew_; clear hg_ hnew_; (first | rw [← Ny228.out] at ho5 | (simp only [Int.reduceToNat] at ho5; rw [← Ny228.out] at ho5)); have n0_ := Aside0.mk (Kd.R_lower ho5 (below_size (by repeat (first | (with_reducible first | exact HB.out | apply below_alloc | apply pw_below_drewN | apply below_drew1) | exact HB.out)))); have n1_ := Aside0.mk (below_step (by repeat (first | (with_reducible first | exact HB.out | apply below_alloc | apply pw_below_drewN | apply below_drew1) | exact HB.out)) hb); clear HB; have HO230 := n0_; have HB := n1_; clear n0_ n1_; clear hb ho5))
  go_loopg [4, 5] k (fun kq v4 v5 w' => ∃ (x4_1 : List Int) (x5_1 : Int), v5 = .int .i64 x5_1 ∧ Aside0 (epitomelaw02_NumberRow.l0 kq l0 t227 x4_1 x5_1 = some r) ∧ Aside0 (kq ≤ k) ∧ Aside0 (Kd.R (Kd.int .u8) 5 w' w.heap.size (fun _ => True) v4 x4_1) ∧ Aside0 (Below w.heap.size w w'))
  case atStart => exact ⟨(y228), (0), (by first | rfl | (simp; done) | (simp [*]; done)), H', ⟨Nat.le_refl _⟩, ⟨by (with_reducible repeat (first | apply Kd.R_alloc | apply Kd.R_drewN | apply Kd.R_drew)); exact HO230.out⟩, ⟨by repeat (first | (with_reducible first | exact HB.out | apply below_alloc | apply pw_below_drewN | apply below_drew1) | exact HB.out)⟩⟩
  case round =>
    clear H'
    try clear p2
    obtain ⟨x4_1, x5_1, rfl, HA, HK1, HO_4, HB⟩ := hrel
    cases gk with
    | zero => exact absurd HA.out (by simp [epitomelaw02_NumberRow.l0])
    | succ k1 =>
      have H := HA.out
      clear HA
      simp only [epitomelaw02_NumberRow.l0] at H
      have HC6 := Aside0.mk H
      clear H
      go_upto_region 4 with (fail)
      go_cut [22] (fun v22 wc => ∃ (kq : Nat) (x22_5 : Bool), v22 = .bool x22_5 ∧ Aside0 (epitomelaw02_NumberRow.j1 kq l0 t227 x4_1 x5_1 x22_5 = some r) ∧ Aside0 (kq ≤ k1) ∧ Aside0 (Kd.R (Kd.int .u8) 5 wc w.heap.size (fun _ => True) u4 x4_1) ∧ Aside0 (Below w.heap.size w wc))
      case first =>
        have H := HC6.out
        clear HC6
        by_cases c7 : x5_1 < (l0.length : Int)
        · rw [if_pos c7] at H
          have c7b0 : decide (x5_1 < (l0.length : Int)) = true := decide_eq_true c7
          clear c7
          (first | rw [c7b0] | (simp only [i64_w, i32_w]; rw [c7b0]) | skip)
          have H' := Aside0.mk H
          clear H
          go_wp2
          go_meet
          case rel => exact ⟨_, (decide (x5_1 < 20)), (by first | rfl | (simp; done) | (simp [*]; done)), H', ⟨by have := HK1.out; first | omega | exact Nat.le_refl _⟩, ⟨by (with_reducible repeat (first | apply Kd.R_alloc | apply Kd.R_drewN | apply Kd.R_drew)); exact HO_4.out⟩, ⟨by repeat (first | (with_reducible first | exact HB.out | apply below_alloc | apply pw_below_drewN | apply below_drew1) | exact HB.out)⟩⟩
        · rw [if_neg c7] at H
          have c7b0 : decide (x5_1 < (l0.length : Int)) = false := decide_eq_false c7
          clear c7
          (first | rw [c7b0] | (simp only [i64_w, i32_w]; rw [c7b0]) | skip)
          have H' := Aside0.mk H
          clear H
          go_wp2
          go_meet
          case rel => exact ⟨_, (false), (by first | rfl | (simp; done) | (simp [*]; done)), H', ⟨by have := HK1.out; first | omega | exact Nat.le_refl _⟩, ⟨by (with_reducible repeat (first | apply Kd.R_alloc | apply Kd.R_drewN | apply Kd.R_drew)); exact HO_4.out⟩, ⟨by repeat (first | (with_reducible first | exact HB.out | apply below_alloc | apply pw_below_drewN | apply below_drew1) | exact HB.out)⟩⟩
      case rest =>
        clear HC6
        try clear p2
        try clear c7
        try clear c7b0
        try clear p2
        obtain ⟨kq, x22_5, rfl, HA, HJ5, HO_4, HB⟩ := hcut
        cases kq with
        | zero => exact absurd HA.out (by simp [epitomelaw02_NumberRow.j1])
        | succ kj5 =>
          have H := HA.out
          clear HA
          simp only [epitomelaw02_NumberRow.j1] at H
          by_cases c8 : x22_5 = true
          · subst c8
            have H1 : (if 0 ≤ x5_1 then (if x5_1 < (l0.length : Int) then ((number_Put.f (Go.bits .and .i64 (wrap64 (rd l0 x5_1)) 268435455)).bind fun bt232 => (if bt232.2 = 0 then (if x4_1.length + bt232.1.length < 140737488355328 then (epitomelaw02_NumberRow.l0 kj5 l0 t227 (x4_1 ++ bt232.1) (wrap64 (x5_1 + 1))) else (none)) else (some false))) else (none)) else (none)) = some r := by rw [if_pos rfl] at H; exact H
            clear H
            have H := H1
            clear H1
            by_cases c9 : 0 ≤ x5_1
            · rw [if_pos c9] at H
              have c9b0 : decide (0 ≤ x5_1) = true := decide_eq_true c9
              clear c9
              by_cases c10 : x5_1 < (l0.length : Int)
              · rw [if_pos c10] at H
                have c10b0 : decide (x5_1 < (l0.length : Int)) = true := decide_eq_true c10
                clear c10
                replace H := Option.bind_eq_some_iff.mp H
                obtain ⟨⟨t232, t233⟩, A110, H⟩ := H
                replace H : (if t233 = 0 then (if x4_1.length + t232.length < 140737488355328 then (epitomelaw02_NumberRow.l0 kj5 l0 t227 (x4_1 ++ t232) (wrap64 (x5_1 + 1))) else (none)) else (some false)) = some r := H
                have A11 := Aside0.mk A110
                clear A110
                by_cases c12 : t233 = 0
                · rw [if_pos c12] at H
                  have c12b0 : (t233 == 0) = true := beq_iff_eq.mpr c12
                  have c12b1 : (t233 != 0) = false := bne_eq_false_iff_eq.mpr c12
                  clear c12
                  by_cases c13 : x4_1.length + t232.length < 140737488355328
                  · rw [if_pos c13] at H
                    have LMc13 := Aside0.mk c13
                    clear c13
                    obtain ⟨y236, hy236⟩ : ∃ y_ : List Int, y_ = (x4_1 ++ t232) := ⟨_, rfl⟩
                    replace H : (epitomelaw02_NumberRow.l0 kj5 l0 t227 y236 (wrap64 (x5_1 + 1))) = some r := by first | (rw [hy236]; with_reducible exact H) | (have H2_ := (Option.bind_some _ _).symm.trans H; rw [hy236]; with_reducible exact H2_) | (have H2_ := (Option.bind_some _ _).symm.trans H; with_reducible exact H2_) | with_reducible exact H | (rw [hy236]; exact H) | exact H
                    have Ny236 := Aside0.mk hy236
                    clear hy236
                    have H' := Aside0.mk H
                    clear H
                    have p231 : 0 ≤ (x5_1 : Int) := of_decide_eq_true (by first | (with_reducible assumption) | assumption)
                    have q231 : x5_1 < (l0.length : Int) := of_decide_eq_true (by first | (with_reducible assumption) | assumption)
                    obtain ⟨ad231, e231, hx231_0⟩ := Kd.at_int HR0.out x5_1 p231 q231
                    cases e231
                    replace hx231_0 := (HB.out.cell (World.block_lt_of_cell? w _ hx231_0)).trans hx231_0
                    replace p231 := eq_true p231
                    replace q231 := eq_true q231
                    go_wp2_with (first | ((with_reducible refine gate_callee (f := 10) rfl ?_); refine goesL_ (some 32) rfl rfl Try.func10 (by kernel_rfl) rfl #[.int .i64 (Go.bits .and .i64 (wrap64 (rd l0 x5_1)) 268435455)] rfl (by (try simp only [List.map_toArray, List.map_cons, List.map_nil]); first | done | rfl | (simp only [List.length_drop, List.length_take]; rfl)) ?_; (with_reducible refine (number_Put.calls (Go.bits .and .i64 (wrap64 (rd l0 x5_1)) 268435455) t232 t233 _ A11.out).mono ?_); rintro e w14 ⟨v234, rfl, ho0, hb⟩; refine ⟨_, rfl, ?_⟩; have n0_ := Aside0.mk (Kd.R_elder' (by (with_reducible repeat (first | apply Kd.R_alloc | apply Kd.R_drewN | apply Kd.R_drew)); exact HO_4.out) (Kd.R_base ho0) hb); have n1_ := Aside0.mk (Kd.R_lower (Kd.R_new' ho0 (Kd.R_lt (by (with_reducible repeat (first | apply Kd.R_alloc | apply Kd.R_drewN | apply Kd.R_drew)); exact HO_4.out))) (below_size (by repeat (first | (with_reducible first | exact HB.out | apply below_alloc | apply pw_below_drewN | apply below_drew1) | exact HB.out)))); have n2_ := Aside0.mk (below_step (by repeat (first | (with_reducible first | exact HB.out | apply below_alloc | apply pw_below_drewN | apply below_drew1) | exact HB.out)) hb); clear HO_4; clear HB; have HO_4 := n0_; have HO235 := n1_; have HB := n2_; clear n0_ n1_ n2_; (try clear hb); (try clear hb2); (try clear hk); (try clear hi); (try clear ho0); obtain ⟨Ao16, co16, eo16⟩ := Kd.R_slice HO235.out; subst eo16) | ((with_reducible refine gate_builtin (b := .append) (xs := #[.tmp 37, .tmp 38]) rfl ?_); (try (refine gate_guard (by rfl) ?_; dsimp only)); at_builtin; refine Kd.R_append_rows (Kd.int .u8) (w0 := w) w.heap.size rfl (.tmp 37) (.tmp 38) 22 5 (.int .u8 0) 1 rfl Try.underlying22 info5 rfl (by decide) (by omega) u4 x4_1 t232 _ _ _ (fun k_ => some k_ ≠ (.slice Ao16 t232.length co16 : Value).ownBlock) (fun _ => False) rfl rfl ?aO ?aR (fun _ _ h => h) (fun _ h => h.elim) ?aF ?aB ?aS ?aL ?_; (case aR => repeat (first | exact (Kd.R_reads' HO235.out).2.2 | (with_reducible refine Kd.C_alloc ?_ _) | (with_reducible refine Kd.C_drewN ?_ _) | (with_reducible refine Kd.C_drew ?_))); (case aB => exact (by repeat (first | (with_reducible first | exact HB.out | apply below_alloc | apply pw_below_drewN | apply below_drew1) | exact HB.out))); (case aF => exact (fun k_ hk => Kd.fresh' (Kd.R_lt (by (with_reducible repeat (first | apply Kd.R_alloc | apply Kd.R_drewN | apply Kd.R_drew)); exact HO235.out)) k_ hk)); (case aO => exact (by (with_reducible repeat (first | apply Kd.R_alloc | apply Kd.R_drewN | apply Kd.R_drew)); exact Kd.R_mono HO_4.out (fun _ hk => hk.2))); (case aS => exact (below_size (by repeat (first | (with_reducible first | exact HB.out | apply below_alloc | apply pw_below_drewN | apply below_drew1) | exact HB.out)))); (case aL => have := LMc13.out; omega); intro v237 w15 ho hb hg hat; rw [← Ny236.out] at ho; have n0_ := Aside0.mk (Kd.R_after (ok := (fun _ => True)) (by (with_reducible repeat (first | apply Kd.R_alloc | apply Kd.R_drewN | apply Kd.R_drew)); exact HO235.out) hg hat); have n1_ := Aside0.mk (hb); have n2_ := Aside0.mk (ho); clear HO235; clear HB; clear HO_4; have HO235 := n0_; have HB := n1_; have HO238 := n2_; clear n0_ n1_ n2_; clear ho hb hg hat))
                    go_roundg kj5
                    case measure => have := HK1.out; have := HJ5.out; omega
                    case rel => exact ⟨(y236), (wrap64 (x5_1 + 1)), (by first | rfl | (simp; done) | (simp [*]; done)), H', ⟨by have := HK1.out; have := HJ5.out; omega⟩, ⟨by (with_reducible repeat (first | apply Kd.R_alloc | apply Kd.R_drewN | apply Kd.R_drew)); exact Kd.R_mono HO238.out (fun _ hk => trivial)⟩, ⟨by repeat (first | (with_reducible first | exact HB.out | apply below_alloc | apply pw_below_drewN | apply below_drew1) | exact HB.out)⟩⟩
                  · rw [if_neg c13] at H
                    exact absurd H (by simp)
                · rw [if_neg c12] at H
                  have c12b0 : (t233 == 0) = false := beq_eq_false_iff_ne.mpr c12
                  have c12b1 : (t233 != 0) = true := bne_iff_ne.mpr c12
                  obtain rfl := Option.some.inj H
                  have p231 : 0 ≤ (x5_1 : Int) := of_decide_eq_true (by first | (with_reducible assumption) | assumption)
                  have q231 : x5_1 < (l0.length : Int) := of_decide_eq_true (by first | (with_reducible assumption) | assumption)
                  obtain ⟨ad231, e231, hx231_0⟩ := Kd.at_int HR0.out x5_1 p231 q231
                  cases e231
                  replace hx231_0 := (HB.out.cell (World.block_lt_of_cell? w _ hx231_0)).trans hx231_0
                  replace p231 := eq_true p231
                  replace q231 := eq_true q231
                  go_wp2_with (first | ((with_reducible refine gate_callee (f := 10) rfl ?_); refine goesL_ (some 32) rfl rfl Try.func10 (by kernel_rfl) rfl #[.int .i64 (Go.bits .and .i64 (wrap64 (rd l0 x5_1)) 268435455)] rfl (by (try simp only [List.map_toArray, List.map_cons, List.map_nil]); first | done | rfl | (simp only [List.length_drop, List.length_take]; rfl)) ?_; (with_reducible refine (number_Put.calls (Go.bits .and .i64 (wrap64 (rd l0 x5_1)) 268435455) t232 t233 _ A11.out).mono ?_); rintro e w17 ⟨v234, rfl, ho0, hb⟩; refine ⟨_, rfl, ?_⟩; have n0_ := Aside0.mk (Kd.R_elder' (by (with_reducible repeat (first | apply Kd.R_alloc | apply Kd.R_drewN | apply Kd.R_drew)); exact HO_4.out) (Kd.R_base ho0) hb); have n1_ := Aside0.mk (Kd.R_lower (Kd.R_new' ho0 (Kd.R_lt (by (with_reducible repeat (first | apply Kd.R_alloc | apply Kd.R_drewN | apply Kd.R_drew)); exact HO_4.out))) (below_size (by repeat (first | (with_reducible first | exact HB.out | apply below_alloc | apply pw_below_drewN | apply below_drew1) | exact HB.out)))); have n2_ := Aside0.mk (below_step (by repeat (first | (with_reducible first | exact HB.out | apply below_alloc | apply pw_below_drewN | apply below_drew1) | exact HB.out)) hb); clear HO_4; clear HB; have HO_4 := n0_; have HO235 := n1_; have HB := n2_; clear n0_ n1_ n2_; (try clear hb); (try clear hb2); (try clear hk); (try clear hi); (try clear ho0)))
                  go_ret
                  exact ⟨by first | rfl | (simp [errW_none, errW_some] <;> rfl) | (simp [*, errW_none, errW_some] <;> rfl), by repeat (first | (with_reducible first | exact HB.out | apply below_alloc | apply pw_below_drewN | apply below_drew1) | exact HB.out)⟩
              · rw [if_neg c10] at H
                exact absurd H (by simp)
            · rw [if_neg c9] at H
              exact absurd H (by simp)
          · replace c8 := Bool.eq_false_iff.mpr c8
            subst c8
            have H1 : (epitomelaw02_NumberRow.l1 kj5 l0 t227 x4_1 0 0) = some r := by rw [if_neg (show ¬ (false = true) by decide)] at H; exact H
            clear H
            have H := H1
            clear H1
            have H' := Aside0.mk H
            clear H
            go_wp2
            go_loopg [8, 9] kj5 (fun kq v8 v9 w' => ∃ (x8_3 : Int) (x9_3 : Int), v8 = .int .i64 x8_3 ∧ v9 = .int .i64 x9_3 ∧ Aside0 (epitomelaw02_NumberRow.l1 kq l0 t227 x4_1 x8_3 x9_3 = some r) ∧ Aside0 (kq ≤ kj5) ∧ Aside0 (Kd.R (Kd.int .u8) 5 w' w.heap.size (fun _ => True) u4 x4_1) ∧ Aside0 (Below w.heap.size w w'))
            case atStart => exact ⟨(0), (0), (by first | rfl | (simp; done) | (simp [*]; done)), (by first | rfl | (simp; done) | (simp [*]; done)), H', ⟨Nat.le_refl _⟩, ⟨by (with_reducible repeat (first | apply Kd.R_alloc | apply Kd.R_drewN | apply Kd.R_drew)); exact HO_4.out⟩, ⟨by repeat (first | (with_reducible first | exact HB.out | apply below_alloc | apply pw_below_drewN | apply below_drew1) | exact HB.out)⟩⟩
            case round =>
              clear H'
              try clear c1
              try clear p2
              try clear q2
              try clear hx2
              try clear p6
              try clear c7
              try clear c7b0
              try clear c8
              try clear c9
              try clear c9b0
              try clear c10
              try clear c10b0
              try clear c12
              try clear c12b0
              try clear c12b1
              try clear c13
              try clear hx231_0
              try clear p2
              try clear p231
              try clear q231
              obtain ⟨x8_3, x9_3, rfl, rfl, HA, HK3, HO_4, HB⟩ := hrel
              cases gk with
              | zero => exact absurd HA.out (by simp [epitomelaw02_NumberRow.l1])
              | succ k3 =>
                have H := HA.out
                clear HA
                simp only [epitomelaw02_NumberRow.l1] at H
                have HC18 := Aside0.mk H
                clear H
                go_upto_region 12 with (fail)
                go_cut [47] (fun v47 wc => ∃ (kq : Nat) (x47_17 : Bool), v47 = .bool x47_17 ∧ Aside0 (epitomelaw02_NumberRow.j3 kq l0 t227 x4_1 x8_3 x9_3 x47_17 = some r) ∧ Aside0 (kq ≤ k3) ∧ Aside0 (Kd.R (Kd.int .u8) 5 wc w.heap.size (fun _ => True) u4 x4_1) ∧ Aside0 (Below w.heap.size w wc))
                case first =>
                  have H := HC18.out
                  clear HC18
                  by_cases c19 : x9_3 < (l0.length : Int)
                  · rw [if_pos c19] at H
                    have c19b0 : decide (x9_3 < (l0.length : Int)) = true := decide_eq_true c19
                    clear c19
                    (first | rw [c19b0] | (simp only [i64_w, i32_w]; rw [c19b0]) | skip)
                    have H' := Aside0.mk H
                    clear H
                    go_wp2
                    go_meet
                    case rel => exact ⟨_, (decide (x9_3 < 20)), (by first | rfl | (simp; done) | (simp [*]; done)), H', ⟨by have := HK1.out; have := HJ5.out; have := HK3.out; first | omega | exact Nat.le_refl _⟩, ⟨by (with_reducible repeat (first | apply Kd.R_alloc | apply Kd.R_drewN | apply Kd.R_drew)); exact HO_4.out⟩, ⟨by repeat (first | (with_reducible first | exact HB.out | apply below_alloc | apply pw_below_drewN | apply below_drew1) | exact HB.out)⟩⟩
                  · rw [if_neg c19] at H
                    have c19b0 : decide (x9_3 < (l0.length : Int)) = false := decide_eq_false c19
                    clear c19
                    (first | rw [c19b0] | (simp only [i64_w, i32_w]; rw [c19b0]) | skip)
                    have H' := Aside0.mk H
                    clear H
                    go_wp2
                    go_meet
                    case rel => exact ⟨_, (false), (by first | rfl | (simp; done) | (simp [*]; done)), H', ⟨by have := HK1.out; have := HJ5.out; have := HK3.out; first | omega | exact Nat.le_refl _⟩, ⟨by (with_reducible repeat (first | apply Kd.R_alloc | apply Kd.R_drewN | apply Kd.R_drew)); exact HO_4.out⟩, ⟨by repeat (first | (with_reducible first | exact HB.out | apply below_alloc | apply pw_below_drewN | apply below_drew1) | exact HB.out)⟩⟩
                case rest =>
                  clear HC18
                  try clear c1
                  try clear p2
                  try clear q2
                  try clear hx2
                  try clear p6
                  try clear c7
                  try clear c7b0
                  try clear c8
                  try clear c9
                  try clear c9b0
                  try clear c10
                  try clear c10b0
                  try clear c12
                  try clear c12b0
                  try clear c12b1
                  try clear c13
                  try clear c19
                  try clear c19b0
                  try clear hx231_0
                  try clear p2
                  try clear p231
                  try clear p6
                  try clear q2
                  try clear q231
                  obtain ⟨kq, x47_17, rfl, HA, HJ17, HO_4, HB⟩ := hcut
                  cases kq with
                  | zero => exact absurd HA.out (by simp [epitomelaw02_NumberRow.j3])
                  | succ kj17 =>
                    have H := HA.out
                    clear HA
                    simp only [epitomelaw02_NumberRow.j3] at H
                    by_cases c20 : x47_17 = true
                    · subst c20
                      have H1 : (if x8_3 > (x4_1.length : Int) then (some false) else (if 0 ≤ x8_3 then (if x8_3 ≤ (x4_1.length : Int) then ((number_Take.f kj17 (x4_1.drop (x8_3 : Int).toNat)).bind fun bt243 => (if bt243.2.2 = 0 then (if 0 ≤ x9_3 then (if x9_3 < (l0.length : Int) then (if bt243.1 = (Go.bits .and .i64 (wrap64 (rd l0 x9_3)) 268435455) then (if bt243.2.1 < 1 then (some false) else (epitomelaw02_NumberRow.l1 kj17 l0 t227 x4_1 (wrap64 (x8_3 + bt243.2.1)) (wrap64 (x9_3 + 1)))) else (some false)) else (none)) else (none)) else (some false))) else (none)) else (none))) = some r := by rw [if_pos rfl] at H; exact H
                      clear H
                      have H := H1
                      clear H1
                      by_cases c21 : x8_3 > (x4_1.length : Int)
                      · rw [if_pos c21] at H
                        have c21b0 : decide ((x4_1.length : Int) < x8_3) = true := decide_eq_true c21
                        clear c21
                        obtain rfl := Option.some.inj H
                        obtain ⟨Ao22, co22, eo22⟩ := Kd.R_slice HO_4.out
                        subst eo22
                        go_wp2
                        go_ret
                        exact ⟨by first | rfl | (simp [errW_none, errW_some] <;> rfl) | (simp [*, errW_none, errW_some] <;> rfl), by repeat (first | (with_reducible first | exact HB.out | apply below_alloc | apply pw_below_drewN | apply below_drew1) | exact HB.out)⟩
                      · rw [if_neg c21] at H
                        have c21b0 : decide ((x4_1.length : Int) < x8_3) = false := decide_eq_false c21
                        clear c21
                        by_cases c23 : 0 ≤ x8_3
                        · rw [if_pos c23] at H
                          have c23b0 := eq_true c23
                          have c23b1 : decide (0 ≤ x8_3) = true := decide_eq_true c23
                          clear c23
                          by_cases c24 : x8_3 ≤ (x4_1.length : Int)
                          · rw [if_pos c24] at H
                            have c24b0 := eq_true c24
                            have c24b1 : decide (x8_3 ≤ (x4_1.length : Int)) = true := decide_eq_true c24
                            clear c24
                            obtain ⟨y239, hy239⟩ : ∃ y_ : List Int, y_ = (x4_1.drop (x8_3 : Int).toNat) := ⟨_, rfl⟩
                            replace H : ((number_Take.f kj17 y239).bind fun bt243 => (if bt243.2.2 = 0 then (if 0 ≤ x9_3 then (if x9_3 < (l0.length : Int) then (if bt243.1 = (Go.bits .and .i64 (wrap64 (rd l0 x9_3)) 268435455) then (if bt243.2.1 < 1 then (some false) else (epitomelaw02_NumberRow.l1 kj17 l0 t227 x4_1 (wrap64 (x8_3 + bt243.2.1)) (wrap64 (x9_3 + 1)))) else (some false)) else (none)) else (none)) else (some false))) = some r := by first | (rw [hy239]; with_reducible exact H) | (have H2_ := (Option.bind_some _ _).symm.trans H; rw [hy239]; with_reducible exact H2_) | (have H2_ := (Option.bind_some _ _).symm.trans H; with_reducible exact H2_) | with_reducible exact H | (rw [hy239]; exact H) | exact H
                            have Ny239 := Aside0.mk hy239
                            clear hy239
                            replace H := Option.bind_eq_some_iff.mp H
                            obtain ⟨⟨t243, t244, t245⟩, A250, H⟩ := H
                            replace H : (if t245 = 0 then (if 0 ≤ x9_3 then (if x9_3 < (l0.length : Int) then (if t243 = (Go.bits .and .i64 (wrap64 (rd l0 x9_3)) 268435455) then (if t244 < 1 then (some false) else (epitomelaw02_NumberRow.l1 kj17 l0 t227 x4_1 (wrap64 (x8_3 + t244)) (wrap64 (x9_3 + 1)))) else (some false)) else (none)) else (none)) else (some false)) = some r := H
                            have A25 := Aside0.mk A250
                            clear A250
                            by_cases c26 : t245 = 0
                            · rw [if_pos c26] at H
                              have c26b0 : (t245 == 0) = true := beq_iff_eq.mpr c26
                              have c26b1 : (t245 != 0) = false := bne_eq_false_iff_eq.mpr c26
                              clear c26
                              by_cases c27 : 0 ≤ x9_3
                              · rw [if_pos c27] at H
                                have c27b0 : decide (0 ≤ x9_3) = true := decide_eq_true c27
                                clear c27
                                by_cases c28 : x9_3 < (l0.length : Int)
                                · rw [if_pos c28] at H
                                  have c28b0 : decide (x9_3 < (l0.length : Int)) = true := decide_eq_true c28
                                  clear c28
                                  by_cases c29 : t243 = (Go.bits .and .i64 (wrap64 (rd l0 x9_3)) 268435455)
                                  · rw [if_pos c29] at H
                                    have c29b0 : (t243 == (Go.bits .and .i64 (wrap64 (rd l0 x9_3)) 268435455)) = true := beq_iff_eq.mpr c29
                                    have c29b1 : (t243 != (Go.bits .and .i64 (wrap64 (rd l0 x9_3)) 268435455)) = false := bne_eq_false_iff_eq.mpr c29
                                    clear c29
                                    by_cases c30 : t244 < 1
                                    · rw [if_pos c30] at H
                                      have c30b0 : decide (t244 < 1) = true := decide_eq_true c30
                                      clear c30
                                      obtain rfl := Option.some.inj H
                                      obtain ⟨Ao31, co31, eo31⟩ := Kd.R_slice HO_4.out
                                      subst eo31
                                      have q32 : (x8_3 : Int) ≤ ((x4_1.length : Int) : Int) := of_decide_eq_true (by first | (with_reducible assumption) | assumption)
                                      obtain ⟨i032, hi032, _, hsz32, _⟩ := info_parts info5
                                      have hroom32 : x4_1.length ≤ co31 := (Kd.R_reads' HO_4.out).2.1
                                      have hC32 : Kd.C (Kd.int .u8) _ Ao31 x4_1.length x4_1 := (Kd.R_reads' HO_4.out).2.2
                                      have q032 : (0 : Int) ≤ (x8_3 : Int) := of_decide_eq_true (by first | (with_reducible assumption) | assumption)
                                      have hcut32 := cut_from (P := Try.prog) 22 5 .i64 Try.underlying22 hi032 1 hsz32 Ao31 x4_1.length co31 x8_3 q032 q32
                                      have hr32 := Kd.C_drop (m := (x8_3 : Int).toNat) (c := co31) hC32 (by omega) hroom32
                                      obtain ⟨A32, hA32⟩ : ∃ A1, A1 = (if co31 = (x8_3 : Int).toNat then Ao31 else (Ao31 : Option Addr).map (·.add ((x8_3 : Int).toNat * 1))) := ⟨_, rfl⟩
                                      obtain ⟨c32, hc32⟩ : ∃ c1, c1 = co31 - (x8_3 : Int).toNat := ⟨_, rfl⟩
                                      have hy32 : y239.length = x4_1.length - (x8_3 : Int).toNat := (by rw [Ny239.out, List.length_drop] <;> omega)
                                      rw [show (x4_1).drop (x8_3 : Int).toNat = y239 from Ny239.out.symm] at hr32
                                      replace hr32 : Kd.C (Kd.int .u8) _ A32 y239.length y239 := (by rw [hA32]; exact hr32)
                                      rw [← hy32, ← hA32, ← hc32] at hcut32
                                      have HR242 := Aside0.mk hr32
                                      have HC242 := Aside0.mk (show y239.length ≤ c32 from by rw [hy32, hc32]; exact Nat.sub_le_sub_right hroom32 _)
                                      clear hr32 hC32 hroom32 hi032 hsz32 hc32
                                      have KY32 := Aside0.mk hy32
                                      have KA32 := Aside0.mk hA32
                                      clear hy32 hA32
                                      have KL32 := Aside0.mk (show (x8_3 : Int).toNat ≤ x4_1.length from by omega)
                                      replace q32 := eq_true q32
                                      go_wp2_with (first | ((with_reducible refine gate_callee (f := 12) rfl ?_); refine goesL_ (some 58) rfl rfl Try.func12 (by kernel_rfl) rfl #[.slice A32 y239.length c32] rfl (by (try simp only [List.map_toArray, List.map_cons, List.map_nil]); first | done | rfl | (simp only [List.length_drop, List.length_take]; rfl)) ?_; (with_reducible refine (number_Take.calls kj17 _ _ y239 t243 t244 t245 _ ?side1 ?side2 A25.out).mono ?_); (case side1 => repeat (first | exact (by repeat (first | (with_reducible exact HR242.out) | (with_reducible refine Kd.C_alloc ?_ _) | (with_reducible refine Kd.C_drewN ?_ _) | (with_reducible refine Kd.C_drew ?_) | exact HR242.out)) | (with_reducible refine Kd.C_alloc ?_ _) | (with_reducible refine Kd.C_drewN ?_ _) | (with_reducible refine Kd.C_drew ?_))); (case side2 => exact HC242.out); rintro e w' ⟨rfl, ⟨nd, rfl⟩⟩; refine ⟨_, rfl, ?_⟩; have p246 : 0 ≤ (x9_3 : Int) := of_decide_eq_true (by first | (with_reducible assumption) | assumption); have q246 : x9_3 < (l0.length : Int) := of_decide_eq_true (by first | (with_reducible assumption) | assumption); obtain ⟨ad246, e246, hx246_0⟩ := Kd.at_int HR0.out x9_3 p246 q246; cases e246; replace hx246_0 := (HB.out.cell (World.block_lt_of_cell? w _ hx246_0)).trans hx246_0; replace p246 := eq_true p246; replace q246 := eq_true q246))
                                      go_ret
                                      exact ⟨by first | rfl | (simp [errW_none, errW_some] <;> rfl) | (simp [*, errW_none, errW_some] <;> rfl), by repeat (first | (with_reducible first | exact HB.out | apply below_alloc | apply pw_below_drewN | apply below_drew1) | exact HB.out)⟩
                                    · rw [if_neg c30] at H
                                      have c30b0 : decide (t244 < 1) = false := decide_eq_false c30
                                      clear c30
                                      have H' := Aside0.mk H
                                      clear H
                                      obtain ⟨Ao33, co33, eo33⟩ := Kd.R_slice HO_4.out
                                      subst eo33
                                      have q34 : (x8_3 : Int) ≤ ((x4_1.length : Int) : Int) := of_decide_eq_true (by first | (with_reducible assumption) | assumption)
                                      obtain ⟨i034, hi034, _, hsz34, _⟩ := info_parts info5
                                      have hroom34 : x4_1.length ≤ co33 := (Kd.R_reads' HO_4.out).2.1
                                      have hC34 : Kd.C (Kd.int .u8) _ Ao33 x4_1.length x4_1 := (Kd.R_reads' HO_4.out).2.2
                                      have q034 : (0 : Int) ≤ (x8_3 : Int) := of_decide_eq_true (by first | (with_reducible assumption) | assumption)
                                      have hcut34 := cut_from (P := Try.prog) 22 5 .i64 Try.underlying22 hi034 1 hsz34 Ao33 x4_1.length co33 x8_3 q034 q34
                                      have hr34 := Kd.C_drop (m := (x8_3 : Int).toNat) (c := co33) hC34 (by omega) hroom34
                                      obtain ⟨A34, hA34⟩ : ∃ A1, A1 = (if co33 = (x8_3 : Int).toNat then Ao33 else (Ao33 : Option Addr).map (·.add ((x8_3 : Int).toNat * 1))) := ⟨_, rfl⟩
                                      obtain ⟨c34, hc34⟩ : ∃ c1, c1 = co33 - (x8_3 : Int).toNat := ⟨_, rfl⟩
                                      have hy34 : y239.length = x4_1.length - (x8_3 : Int).toNat := (by rw [Ny239.out, List.length_drop] <;> omega)
                                      rw [show (x4_1).drop (x8_3 : Int).toNat = y239 from Ny239.out.symm] at hr34
                                      replace hr34 : Kd.C (Kd.int .u8) _ A34 y239.length y239 := (by rw [hA34]; exact hr34)
                                      rw [← hy34, ← hA34, ← hc34] at hcut34
                                      have HR242 := Aside0.mk hr34
                                      have HC242 := Aside0.mk (show y239.length ≤ c34 from by rw [hy34, hc34]; exact Nat.sub_le_sub_right hroom34 _)
                                      clear hr34 hC34 hroom34 hi034 hsz34 hc34
                                      have KY34 := Aside0.mk hy34
                                      have KA34 := Aside0.mk hA34
                                      clear hy34 hA34
                                      have KL34 := Aside0.mk (show (x8_3 : Int).toNat ≤ x4_1.length from by omega)
                                      replace q34 := eq_true q34
                                      go_wp2_with (first | ((with_reducible refine gate_callee (f := 12) rfl ?_); refine goesL_ (some 58) rfl rfl Try.func12 (by kernel_rfl) rfl #[.slice A34 y239.length c34] rfl (by (try simp only [List.map_toArray, List.map_cons, List.map_nil]); first | done | rfl | (simp only [List.length_drop, List.length_take]; rfl)) ?_; (with_reducible refine (number_Take.calls kj17 _ _ y239 t243 t244 t245 _ ?side1 ?side2 A25.out).mono ?_); (case side1 => repeat (first | exact (by repeat (first | (with_reducible exact HR242.out) | (with_reducible refine Kd.C_alloc ?_ _) | (with_reducible refine Kd.C_drewN ?_ _) | (with_reducible refine Kd.C_drew ?_) | exact HR242.out)) | (with_reducible refine Kd.C_alloc ?_ _) | (with_reducible refine Kd.C_drewN ?_ _) | (with_reducible refine Kd.C_drew ?_))); (case side2 => exact HC242.out); rintro e w' ⟨rfl, ⟨nd, rfl⟩⟩; refine ⟨_, rfl, ?_⟩; have p246 : 0 ≤ (x9_3 : Int) := of_decide_eq_true (by first | (with_reducible assumption) | assumption); have q246 : x9_3 < (l0.length : Int) := of_decide_eq_true (by first | (with_reducible assumption) | assumption); obtain ⟨ad246, e246, hx246_0⟩ := Kd.at_int HR0.out x9_3 p246 q246; cases e246; replace hx246_0 := (HB.out.cell (World.block_lt_of_cell? w _ hx246_0)).trans hx246_0; replace p246 := eq_true p246; replace q246 := eq_true q246))
                                      go_roundg kj17
                                      case measure => have := HK1.out; have := HJ5.out; have := HK3.out; have := HJ17.out; omega
                                      case rel => exact ⟨(wrap64 (x8_3 + t244)), (wrap64 (x9_3 + 1)), (by first | rfl | (simp; done) | (simp [*]; done)), (by first | rfl | (simp; done) | (simp [*]; done)), H', ⟨by have := HK1.out; have := HJ5.out; have := HK3.out; have := HJ17.out; omega⟩, ⟨by (with_reducible repeat (first | apply Kd.R_alloc | apply Kd.R_drewN | apply Kd.R_drew)); exact HO_4.out⟩, ⟨by repeat (first | (with_reducible first | exact HB.out | apply below_alloc | apply pw_below_drewN | apply below_drew1) | exact HB.out)⟩⟩
                                  · rw [if_neg c29] at H
                                    have c29b0 : (t243 == (Go.bits .and .i64 (wrap64 (rd l0 x9_3)) 268435455)) = false := beq_eq_false_iff_ne.mpr c29
                                    have c29b1 : (t243 != (Go.bits .and .i64 (wrap64 (rd l0 x9_3)) 268435455)) = true := bne_iff_ne.mpr c29
                                    obtain rfl := Option.some.inj H
                                    obtain ⟨Ao35, co35, eo35⟩ := Kd.R_slice HO_4.out
                                    subst eo35
                                    have q36 : (x8_3 : Int) ≤ ((x4_1.length : Int) : Int) := of_decide_eq_true (by first | (with_reducible assumption) | assumption)
                                    obtain ⟨i036, hi036, _, hsz36, _⟩ := info_parts info5
                                    have hroom36 : x4_1.length ≤ co35 := (Kd.R_reads' HO_4.out).2.1
                                    have hC36 : Kd.C (Kd.int .u8) _ Ao35 x4_1.length x4_1 := (Kd.R_reads' HO_4.out).2.2
                                    have q036 : (0 : Int) ≤ (x8_3 : Int) := of_decide_eq_true (by first | (with_reducible assumption) | assumption)
                                    have hcut36 := cut_from (P := Try.prog) 22 5 .i64 Try.underlying22 hi036 1 hsz36 Ao35 x4_1.length co35 x8_3 q036 q36
                                    have hr36 := Kd.C_drop (m := (x8_3 : Int).toNat) (c := co35) hC36 (by omega) hroom36
                                    obtain ⟨A36, hA36⟩ : ∃ A1, A1 = (if co35 = (x8_3 : Int).toNat then Ao35 else (Ao35 : Option Addr).map (·.add ((x8_3 : Int).toNat * 1))) := ⟨_, rfl⟩
                                    obtain ⟨c36, hc36⟩ : ∃ c1, c1 = co35 - (x8_3 : Int).toNat := ⟨_, rfl⟩
                                    have hy36 : y239.length = x4_1.length - (x8_3 : Int).toNat := (by rw [Ny239.out, List.length_drop] <;> omega)
                                    rw [show (x4_1).drop (x8_3 : Int).toNat = y239 from Ny239.out.symm] at hr36
                                    replace hr36 : Kd.C (Kd.int .u8) _ A36 y239.length y239 := (by rw [hA36]; exact hr36)
                                    rw [← hy36, ← hA36, ← hc36] at hcut36
                                    have HR242 := Aside0.mk hr36
                                    have HC242 := Aside0.mk (show y239.length ≤ c36 from by rw [hy36, hc36]; exact Nat.sub_le_sub_right hroom36 _)
                                    clear hr36 hC36 hroom36 hi036 hsz36 hc36
                                    have KY36 := Aside0.mk hy36
                                    have KA36 := Aside0.mk hA36
                                    clear hy36 hA36
                                    have KL36 := Aside0.mk (show (x8_3 : Int).toNat ≤ x4_1.length from by omega)
                                    replace q36 := eq_true q36
                                    go_wp2_with (first | ((with_reducible refine gate_callee (f := 12) rfl ?_); refine goesL_ (some 58) rfl rfl Try.func12 (by kernel_rfl) rfl #[.slice A36 y239.length c36] rfl (by (try simp only [List.map_toArray, List.map_cons, List.map_nil]); first | done | rfl | (simp only [List.length_drop, List.length_take]; rfl)) ?_; (with_reducible refine (number_Take.calls kj17 _ _ y239 t243 t244 t245 _ ?side1 ?side2 A25.out).mono ?_); (case side1 => repeat (first | exact (by repeat (first | (with_reducible exact HR242.out) | (with_reducible refine Kd.C_alloc ?_ _) | (with_reducible refine Kd.C_drewN ?_ _) | (with_reducible refine Kd.C_drew ?_) | exact HR242.out)) | (with_reducible refine Kd.C_alloc ?_ _) | (with_reducible refine Kd.C_drewN ?_ _) | (with_reducible refine Kd.C_drew ?_))); (case side2 => exact HC242.out); rintro e w' ⟨rfl, ⟨nd, rfl⟩⟩; refine ⟨_, rfl, ?_⟩; have p246 : 0 ≤ (x9_3 : Int) := of_decide_eq_true (by first | (with_reducible assumption) | assumption); have q246 : x9_3 < (l0.length : Int) := of_decide_eq_true (by first | (with_reducible assumption) | assumption); obtain ⟨ad246, e246, hx246_0⟩ := Kd.at_int HR0.out x9_3 p246 q246; cases e246; replace hx246_0 := (HB.out.cell (World.block_lt_of_cell? w _ hx246_0)).trans hx246_0; replace p246 := eq_true p246; replace q246 := eq_true q246))
                                    go_ret
                                    exact ⟨by first | rfl | (simp [errW_none, errW_some] <;> rfl) | (simp [*, errW_none, errW_some] <;> rfl), by repeat (first | (with_reducible first | exact HB.out | apply below_alloc | apply pw_below_drewN | apply below_drew1) | exact HB.out)⟩
                                · rw [if_neg c28] at H
                                  exact absurd H (by simp)
                              · rw [if_neg c27] at H
                                exact absurd H (by simp)
                            · rw [if_neg c26] at H
                              have c26b0 : (t245 == 0) = false := beq_eq_false_iff_ne.mpr c26
                              have c26b1 : (t245 != 0) = true := bne_iff_ne.mpr c26
                              obtain rfl := Option.some.inj H
                              obtain ⟨Ao37, co37, eo37⟩ := Kd.R_slice HO_4.out
                              subst eo37
                              have q38 : (x8_3 : Int) ≤ ((x4_1.length : Int) : Int) := of_decide_eq_true (by first | (with_reducible assumption) | assumption)
                              obtain ⟨i038, hi038, _, hsz38, _⟩ := info_parts info5
                              have hroom38 : x4_1.length ≤ co37 := (Kd.R_reads' HO_4.out).2.1
                              have hC38 : Kd.C (Kd.int .u8) _ Ao37 x4_1.length x4_1 := (Kd.R_reads' HO_4.out).2.2
                              have q038 : (0 : Int) ≤ (x8_3 : Int) := of_decide_eq_true (by first | (with_reducible assumption) | assumption)
                              have hcut38 := cut_from (P := Try.prog) 22 5 .i64 Try.underlying22 hi038 1 hsz38 Ao37 x4_1.length co37 x8_3 q038 q38
                              have hr38 := Kd.C_drop (m := (x8_3 : Int).toNat) (c := co37) hC38 (by omega) hroom38
                              obtain ⟨A38, hA38⟩ : ∃ A1, A1 = (if co37 = (x8_3 : Int).toNat then Ao37 else (Ao37 : Option Addr).map (·.add ((x8_3 : Int).toNat * 1))) := ⟨_, rfl⟩
                              obtain ⟨c38, hc38⟩ : ∃ c1, c1 = co37 - (x8_3 : Int).toNat := ⟨_, rfl⟩
                              have hy38 : y239.length = x4_1.length - (x8_3 : Int).toNat := (by rw [Ny239.out, List.length_drop] <;> omega)
                              rw [show (x4_1).drop (x8_3 : Int).toNat = y239 from Ny239.out.symm] at hr38
                              replace hr38 : Kd.C (Kd.int .u8) _ A38 y239.length y239 := (by rw [hA38]; exact hr38)
                              rw [← hy38, ← hA38, ← hc38] at hcut38
                              have HR242 := Aside0.mk hr38
                              have HC242 := Aside0.mk (show y239.length ≤ c38 from by rw [hy38, hc38]; exact Nat.sub_le_sub_right hroom38 _)
                              clear hr38 hC38 hroom38 hi038 hsz38 hc38
                              have KY38 := Aside0.mk hy38
                              have KA38 := Aside0.mk hA38
                              clear hy38 hA38
                              have KL38 := Aside0.mk (show (x8_3 : Int).toNat ≤ x4_1.length from by omega)
                              replace q38 := eq_true q38
                              go_wp2_with (first | ((with_reducible refine gate_callee (f := 12) rfl ?_); refine goesL_ (some 58) rfl rfl Try.func12 (by kernel_rfl) rfl #[.slice A38 y239.length c38] rfl (by (try simp only [List.map_toArray, List.map_cons, List.map_nil]); first | done | rfl | (simp only [List.length_drop, List.length_take]; rfl)) ?_; (with_reducible refine (number_Take.calls kj17 _ _ y239 t243 t244 t245 _ ?side1 ?side2 A25.out).mono ?_); (case side1 => repeat (first | exact (by repeat (first | (with_reducible exact HR242.out) | (with_reducible refine Kd.C_alloc ?_ _) | (with_reducible refine Kd.C_drewN ?_ _) | (with_reducible refine Kd.C_drew ?_) | exact HR242.out)) | (with_reducible refine Kd.C_alloc ?_ _) | (with_reducible refine Kd.C_drewN ?_ _) | (with_reducible refine Kd.C_drew ?_))); (case side2 => exact HC242.out); rintro e w' ⟨rfl, ⟨nd, rfl⟩⟩; refine ⟨_, rfl, ?_⟩))
                              go_ret
                              exact ⟨by first | rfl | (simp [errW_none, errW_some] <;> rfl) | (simp [*, errW_none, errW_some] <;> rfl), by repeat (first | (with_reducible first | exact HB.out | apply below_alloc | apply pw_below_drewN | apply below_drew1) | exact HB.out)⟩
                          · rw [if_neg c24] at H
                            exact absurd H (by simp)
                        · rw [if_neg c23] at H
                          exact absurd H (by simp)
                    · replace c20 := Bool.eq_false_iff.mpr c20
                      subst c20
                      have H1 : (if t227 = true then (some (x8_3 == (x4_1.length : Int))) else (some false)) = some r := by rw [if_neg (show ¬ (false = true) by decide)] at H; exact H
                      clear H
                      have H := H1
                      clear H1
                      by_cases c39 : t227 = true
                      · subst c39
                        have H1 : (some (x8_3 == (x4_1.length : Int))) = some r := by rw [if_pos rfl] at H; exact H
                        clear H
                        have H := H1
                        clear H1
                        obtain rfl := Option.some.inj H
                        obtain ⟨Ao40, co40, eo40⟩ := Kd.R_slice HO_4.out
                        subst eo40
                        go_wp2
                        go_ret
                        exact ⟨by first | rfl | (simp [errW_none, errW_some] <;> rfl) | (simp [*, errW_none, errW_some] <;> rfl), by repeat (first | (with_reducible first | exact HB.out | apply below_alloc | apply pw_below_drewN | apply below_drew1) | exact HB.out)⟩
                      · replace c39 := Bool.eq_false_iff.mpr c39
                        subst c39
                        have H1 : (some false) = some r := by rw [if_neg (show ¬ (false = true) by decide)] at H; exact H
                        clear H
                        have H := H1
                        clear H1
                        obtain rfl := Option.some.inj H
                        go_wp2
                        go_ret
                        exact ⟨by first | rfl | (simp [errW_none, errW_some] <;> rfl) | (simp [*, errW_none, errW_some] <;> rfl), by repeat (first | (with_reducible first | exact HB.out | apply below_alloc | apply pw_below_drewN | apply below_drew1) | exact HB.out)⟩

/-- THE ONE PURE STATEMENT of epitomelaw02_NumberRow: yours. -/
def epitomelaw02_NumberRow.Pure : Prop := ∀ (l0 : List Int), l0.length ≤ maxLen → l0.length * 4 ≤ 140737488351232 → (∀ x ∈ l0, (Lit.int .u32 x).wf = true) → ∃ k, epitomelaw02_NumberRow.f k l0 = some true
theorem epitomelaw02_NumberRow.walk (P : epitomelaw02_NumberRow.Pure) (a0 : Option Addr) (len0 cap0 : Nat) (z0 : List Int) (w : World) (w0 : (a0 = none ∧ len0 = 0 ∧ cap0 = 0 ∧ z0 = []) ∨ ∃ x, a0 = some x ∧ len0 ≤ cap0 ∧ cap0 ≤ maxLen ∧ z0.length = cap0 ∧ (∀ i, i < z0.length → w.cell? (x.add i) = some (.int .u32 (z0.getD i 0))) ∧ ∀ n ∈ z0, (Lit.int .u32 n).wf = true) (y0 : len0 * 4 ≤ 140737488351232) :
    Calls Try.prog 7 #[.slice a0 len0 cap0] w fun e w' => e = .returned (.bool true) ∧ Below w.heap.size w w' := by
  obtain ⟨l0, rfl, hr0, hm0, hw0, hc0⟩ := ReadsInt.ofRowC w0
  obtain ⟨k, h⟩ := P l0 hm0 y0 hw0
  refine (epitomelaw02_NumberRow.calls k _ _ l0 true w (Kd.C_of_reads (d := (0 : Int)) (h1 := fun _ => rfl) hr0) hc0 h).mono ?_
  rintro e w' ⟨rfl, hd⟩
  exact ⟨rfl, hd⟩

end Go.Proofs.Ytolljobehfmffaa.P
