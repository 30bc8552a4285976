-- WRITTEN BY A PROGRAM OF THIS SESSION (wip/pp in its repo), made after the kit's print
import Derived.Test.YtegjegihcebimaaDoorPx0
namespace Go.Proofs.YtegjegihcebimaaDoor.P
open Go.RowKit Go.Proofs.YtegjegihcebimaaDoorW.PrintWords Go.Proofs.YtegjegihcebimaaDoorW.PrintLast Go.Proofs.YtegjegihcebimaaDoorW.PrintMore
attribute [local go_sem] max2_int min2_int max_two min_two max_three min_three max_four min_four   -- for this text's walks alone
set_option linter.unusedVariables false
set_option linter.unusedSimpArgs false

/-! ### epitometop_row: function 39 -/
def epitometop_row.l0 : Nat → ByteArray → List (S25) → Int → Option ((List (S25)))
 | 0, _, _, _ => none
 | k + 1, x0, x3, x4 => if (wrap64 (x4 + 1)) < (x0.size : Int) then (if 0 ≤ (wrap64 (x4 + 1)) then (if 0 ≤ x4 then (if x4 < (x0.size : Int) then (if (bt x0 x4) = 107 then (if x3.length < 4398046511104 then (epitometop_row.l0 k x0 (x3 ++ [(⟨1, ((bt x0 (wrap64 (x4 + 1))) - 48) % 256, (⟨#[]⟩ : ByteArray)⟩ : S25)]) (wrap64 (x4 + 2))) else (none)) else (if (bt x0 x4) = 100 then (if x3.length < 4398046511104 then (epitometop_row.l0 k x0 (x3 ++ [(⟨3, ((bt x0 (wrap64 (x4 + 1))) - 48) % 256, (⟨#[]⟩ : ByteArray)⟩ : S25)]) (wrap64 (x4 + 2))) else (none)) else (if x4 ≤ (wrap64 (x4 + 1)) then (if (wrap64 (x4 + 1)) ≤ (x0.size : Int) then (if x3.length < 4398046511104 then (epitometop_row.l0 k x0 (x3 ++ [(⟨2, 0, x0.extract (x4 : Int).toNat ((wrap64 (x4 + 1)) : Int).toNat⟩ : S25)]) (wrap64 (x4 + 2))) else (none)) else (none)) else (none)))) else (none)) else (none)) else (none)) else (some x3)
def epitometop_row.f (k : Nat) (a0 : ByteArray) : Option ((List (S25))) := epitometop_row.l0 k a0 (([] : List (S25))) 0
theorem epitometop_row.mono_l : ∀ k, (∀ y0 y1 y2, LeO (epitometop_row.l0 k y0 y1 y2) (epitometop_row.l0 (k + 1) y0 y1 y2))
 | 0 => fun _ _ _ r h => by simp [epitometop_row.l0] at h
 | k + 1 => by
  have ih0 := epitometop_row.mono_l k
  ·intro y0 y1 y2
   unfold epitometop_row.l0
   repeat' first
   | (with_reducible exact ih0 _ _ _)
   | (with_reducible exact LeO.refl _)
   | (with_reducible exact LeO.none _)
   | (with_reducible refine LeO.ite ?_ ?_)
   | (with_reducible refine LeO.bind ?_ (fun _ => ?_))
   | exact ih0 _ _ _
   | exact LeO.none _
   | refine LeO.ite ?_ ?_
   | refine LeO.bind ?_ (fun _ => ?_)
theorem epitometop_row.mono : ∀ a0 k, LeO (epitometop_row.f k a0) (epitometop_row.f (k + 1) a0) := by
 intro a0 k
 have ih0 := epitometop_row.mono_l k
 unfold epitometop_row.f
 repeat' first
   | (with_reducible exact ih0 _ _ _)
   | (with_reducible exact LeO.refl _)
   | (with_reducible exact LeO.none _)
   | (with_reducible refine LeO.ite ?_ ?_)
   | (with_reducible refine LeO.bind ?_ (fun _ => ?_))
   | exact ih0 _ _ _
   | exact LeO.none _
   | refine LeO.ite ?_ ?_
   | refine LeO.bind ?_ (fun _ => ?_)
set_option maxHeartbeats 8000000 in
set_option maxRecDepth 100000 in
theorem epitometop_row.calls (k : Nat) (a0 : ByteArray) (r : List (S25)) (w : World) (h : epitometop_row.f k a0 = some r) :
  Calls Tryd.prog 39 #[.string a0] w fun e w' => ∃ v0_ : Value, e = .returned (v0_) ∧ Kd.R k25 25 w' w.heap.size (fun _ => True) v0_ r ∧ Below w.heap.size w w' := by
 have hu25 := Tryd.underlying25
 have HB := Aside0.mk (Below.refl w.heap.size w)
 have H : (epitometop_row.l0 k a0 (([] : List (S25))) 0) = some r := h
 clear h
 obtain ⟨y128, hy128⟩ : ∃ y_ : List (S25), y_ = (([] : List (S25))) := ⟨_, rfl⟩
 replace H : (epitometop_row.l0 k a0 y128 0) = some r := by first | (rw [hy128]; with_reducible exact H) | (have H2_ := (Option.bind_some _ _).symm.trans H; rw [hy128]; with_reducible exact H2_) | (have H2_ := (Option.bind_some _ _).symm.trans H; with_reducible exact H2_) | with_reducible exact H | (rw [hy128]; exact H) | exact H
 have Ny128 := Aside0.mk hy128
 clear hy128
 have H' := Aside0.mk H
 clear H
 go_enter Tryd.func39, Tryd.ntmps39
 go_wp2_with (first | ((with_reducible refine gate_dst (N := 6) rfl ?_); refine Kd.R_lit k25 _ 25 ?hg (N := 6) ?hd (xs := ([] : List (S25))) (inner := []) (ok := fun _ => True) (okp := fun _ => True) ?hr ?hp (fun _ hk => hk) trivial (Below.refl _ _) (Nat.le_refl _) (by simp) ?_; (case hd => rfl); (case hg => rfl); (case hr => first | (go_simp; done) | (go_simp; rfl)); (case hp => exact (Reps.none _ _)); intro v129 w2 ho3 hb hg_ hnew_; clear hg_ hnew_; (first | rw [← Ny128.out] at ho3 | (simp only [Int.reduceToNat] at ho3; rw [← Ny128.out] at ho3)); have n0_ := Aside0.mk (Kd.R_lower ho3 (below_size (by repeat (first | (with_reducible first | exact HB.out | apply below_alloc | apply pw_below_drewN | apply below_drew1) | exact HB.out)))); have n1_ := Aside0.mk (below_step (by repeat (first | (with_reducible first | exact HB.out | apply below_alloc | apply pw_below_drewN | apply below_drew1) | exact HB.out)) hb); clear HB; have HO130 := n0_; have HB := n1_; clear n0_ n1_; clear hb ho3))
 go_loopg [3, 4] k (fun kq v3 v4 w' => ∃ (x3_1 : List (S25)) (x4_1 : Int), v4 = .int .i64 x4_1 ∧ Aside0 (epitometop_row.l0 kq a0 x3_1 x4_1 = some r) ∧ Aside0 (kq ≤ k) ∧ Aside0 (Kd.R k25 25 w' w.heap.size (fun _ => True) v3 x3_1) ∧ Aside0 (Below w.heap.size w w'))
 case atStart => exact ⟨(y128), (0), (by first | rfl | (simp; done) | (simp [*]; done) | (simp [bne]; done)), H', ⟨Nat.le_refl _⟩, ⟨by (with_reducible repeat (first | apply Kd.R_alloc | apply Kd.R_drewN | apply Kd.R_drew)); exact HO130.out⟩, ⟨by repeat (first | (with_reducible first | exact HB.out | apply below_alloc | apply pw_below_drewN | apply below_drew1) | exact HB.out)⟩⟩
 case round =>
  clear H'
  try clear p2
  try clear c3
  obtain ⟨x3_1, x4_1, rfl, HA, HK1, HO_3, HB⟩ := hrel
  cases gk with
  | zero => exact absurd HA.out (by simp [epitometop_row.l0])
  | succ k1 =>
   have H := HA.out
   clear HA
   simp only [epitometop_row.l0] at H
   by_cases c4 : (wrap64 (x4_1 + 1)) < (a0.size : Int)
   ·rw [if_pos c4] at H
    have c4b0 : decide ((wrap64 (x4_1 + 1)) < (a0.size : Int)) = true := decide_eq_true c4
    clear c4
    obtain ⟨ji5, hji5⟩ : ∃ j_ : Int, (wrap64 (x4_1 + 1)) = j_ := ⟨_, rfl⟩
    replace H : (if 0 ≤ (ji5) then (if 0 ≤ x4_1 then (if x4_1 < (a0.size : Int) then (if (bt a0 x4_1) = 107 then (if x3_1.length < 4398046511104 then (epitometop_row.l0 k1 a0 (x3_1 ++ [(⟨1, ((bt a0 (ji5)) - 48) % 256, (⟨#[]⟩ : ByteArray)⟩ : S25)]) (wrap64 (x4_1 + 2))) else (none)) else (if (bt a0 x4_1) = 100 then (if x3_1.length < 4398046511104 then (epitometop_row.l0 k1 a0 (x3_1 ++ [(⟨3, ((bt a0 (ji5)) - 48) % 256, (⟨#[]⟩ : ByteArray)⟩ : S25)]) (wrap64 (x4_1 + 2))) else (none)) else (if x4_1 ≤ (ji5) then (if (ji5) ≤ (a0.size : Int) then (if x3_1.length < 4398046511104 then (epitometop_row.l0 k1 a0 (x3_1 ++ [(⟨2, 0, a0.extract (x4_1 : Int).toNat ((ji5) : Int).toNat⟩ : S25)]) (wrap64 (x4_1 + 2))) else (none)) else (none)) else (none)))) else (none)) else (none)) else (none)) = some r := by first | (rw [hji5] at H; exact H) | (simp only [hji5] at H ⊢; exact H)
    (try rw [hji5] at c4b0)
    have hji5w : (IntKind.i64.wrap (x4_1 + 1)) = ji5 := (i64_w _).trans hji5
    by_cases c6 : 0 ≤ (ji5)
    ·rw [if_pos c6] at H
     have c6b0 : decide (0 ≤ (ji5)) = true := decide_eq_true c6
     clear c6
     by_cases c8 : 0 ≤ x4_1
     ·rw [if_pos c8] at H
      have c8b0 : decide (0 ≤ x4_1) = true := decide_eq_true c8
      clear c8
      by_cases c9 : x4_1 < (a0.size : Int)
      ·rw [if_pos c9] at H
       have c9b0 : decide (x4_1 < (a0.size : Int)) = true := decide_eq_true c9
       clear c9
       by_cases c11 : (bt a0 x4_1) = 107
       ·rw [if_pos c11] at H
        have c11b0 : ((bt a0 x4_1) == 107) = true := beq_iff_eq.mpr c11
        have c11b1 : ((bt a0 x4_1) != 107) = false := bne_eq_false_iff_eq.mpr c11
        clear c11
        by_cases c12 : x3_1.length < 4398046511104
        ·rw [if_pos c12] at H
         have LMc12 := Aside0.mk c12
         clear c12
         obtain ⟨y131, hy131⟩ : ∃ y_ : List (S25), y_ = (x3_1 ++ [(⟨1, ((bt a0 (ji5)) - 48) % 256, (⟨#[]⟩ : ByteArray)⟩ : S25)]) := ⟨_, rfl⟩
         replace H : (epitometop_row.l0 k1 a0 y131 (wrap64 (x4_1 + 2))) = some r := by first | (rw [hy131]; with_reducible exact H) | (have H2_ := (Option.bind_some _ _).symm.trans H; rw [hy131]; with_reducible exact H2_) | (have H2_ := (Option.bind_some _ _).symm.trans H; with_reducible exact H2_) | with_reducible exact H | (rw [hy131]; exact H) | exact H
         have Ny131 := Aside0.mk hy131
         clear hy131
         have H' := Aside0.mk H
         clear H
         have p7 : 0 ≤ ((ji5) : Int) := of_decide_eq_true (by first | (with_reducible assumption) | assumption)
         have q7 : (ji5) < (a0.size : Int) := of_decide_eq_true (by first | (with_reducible assumption) | assumption)
         have hx7 := bt_at a0 (ji5)
         replace p7 := eq_true p7
         replace q7 := eq_true q7
         have p10 : 0 ≤ (x4_1 : Int) := of_decide_eq_true (by first | (with_reducible assumption) | assumption)
         have q10 : x4_1 < (a0.size : Int) := of_decide_eq_true (by first | (with_reducible assumption) | assumption)
         have hx10 := bt_at a0 x4_1
         replace p10 := eq_true p10
         replace q10 := eq_true q10
         go_wp2_with (first | ((with_reducible refine gate_builtin (b := .append) (xs := #[.tmp 34, .tmp 37]) rfl ?_); at_builtin; refine Kd.R_append k25 (w0 := w) w.heap.size rfl (.tmp 34) (.tmp 37) 27 25 (.agg #[(.int .i64 0), (.int .i64 0), (.string ⟨#[]⟩)]) 32 rfl Tryd.underlying27 info25 rfl (by decide) (by omega) u3 x3_1 (⟨1, ((bt a0 (ji5)) - 48) % 256, (⟨#[]⟩ : ByteArray)⟩ : S25) [.int .i64 1, .int .i64 (((bt a0 (ji5)) - 48) % 256), .string (⟨#[]⟩ : ByteArray)] (fun _ => True) (fun _ => False) rfl rfl ?aP (fun _ hk => hk.elim) ?aF ?aO ?aB ?aS ?aL ?_; (case aP => exact k25_mkM _ _ _ (⟨1, ((bt a0 (ji5)) - 48) % 256, (⟨#[]⟩ : ByteArray)⟩ : S25)); (case aB => exact (by repeat (first | (with_reducible first | exact HB.out | apply below_alloc | apply pw_below_drewN | apply below_drew1) | exact HB.out))); (case aF => exact (fun _ _ => trivial)); (case aO => exact (by (with_reducible repeat (first | apply Kd.R_alloc | apply Kd.R_drewN | apply Kd.R_drew)); exact HO_3.out)); (case aS => exact (below_size (by repeat (first | (with_reducible first | exact HB.out | apply below_alloc | apply pw_below_drewN | apply below_drew1) | exact HB.out)))); (case aL => have := LMc12.out; omega); intro v132 w13 ho hb hg hat; rw [← Ny131.out] at ho; have n0_ := Aside0.mk (hb); have n1_ := Aside0.mk (ho); clear HB; clear HO_3; have HB := n0_; have HO133 := n1_; clear n0_ n1_; clear ho hb hg hat))
         go_roundg k1
         case measure => have := HK1.out; omega
         case rel => exact ⟨(y131), (wrap64 (x4_1 + 2)), (by first | rfl | (simp; done) | (simp [*]; done) | (simp [bne]; done)), H', ⟨by have := HK1.out; omega⟩, ⟨by (with_reducible repeat (first | apply Kd.R_alloc | apply Kd.R_drewN | apply Kd.R_drew)); exact HO133.out⟩, ⟨by repeat (first | (with_reducible first | exact HB.out | apply below_alloc | apply pw_below_drewN | apply below_drew1) | exact HB.out)⟩⟩
        ·rw [if_neg c12] at H
         exact absurd H (by simp)
       ·rw [if_neg c11] at H
        have c11b0 : ((bt a0 x4_1) == 107) = false := beq_eq_false_iff_ne.mpr c11
        have c11b1 : ((bt a0 x4_1) != 107) = true := bne_iff_ne.mpr c11
        by_cases c14 : (bt a0 x4_1) = 100
        ·rw [if_pos c14] at H
         have c14b0 : ((bt a0 x4_1) == 100) = true := beq_iff_eq.mpr c14
         have c14b1 : ((bt a0 x4_1) != 100) = false := bne_eq_false_iff_eq.mpr c14
         clear c14
         by_cases c15 : x3_1.length < 4398046511104
         ·rw [if_pos c15] at H
          have LMc15 := Aside0.mk c15
          clear c15
          obtain ⟨y134, hy134⟩ : ∃ y_ : List (S25), y_ = (x3_1 ++ [(⟨3, ((bt a0 (ji5)) - 48) % 256, (⟨#[]⟩ : ByteArray)⟩ : S25)]) := ⟨_, rfl⟩
          replace H : (epitometop_row.l0 k1 a0 y134 (wrap64 (x4_1 + 2))) = some r := by first | (rw [hy134]; with_reducible exact H) | (have H2_ := (Option.bind_some _ _).symm.trans H; rw [hy134]; with_reducible exact H2_) | (have H2_ := (Option.bind_some _ _).symm.trans H; with_reducible exact H2_) | with_reducible exact H | (rw [hy134]; exact H) | exact H
          have Ny134 := Aside0.mk hy134
          clear hy134
          have H' := Aside0.mk H
          clear H
          have p7 : 0 ≤ ((ji5) : Int) := of_decide_eq_true (by first | (with_reducible assumption) | assumption)
          have q7 : (ji5) < (a0.size : Int) := of_decide_eq_true (by first | (with_reducible assumption) | assumption)
          have hx7 := bt_at a0 (ji5)
          replace p7 := eq_true p7
          replace q7 := eq_true q7
          have p10 : 0 ≤ (x4_1 : Int) := of_decide_eq_true (by first | (with_reducible assumption) | assumption)
          have q10 : x4_1 < (a0.size : Int) := of_decide_eq_true (by first | (with_reducible assumption) | assumption)
          have hx10 := bt_at a0 x4_1
          replace p10 := eq_true p10
          replace q10 := eq_true q10
          go_wp2_with (first | ((with_reducible refine gate_builtin (b := .append) (xs := #[.tmp 41, .tmp 44]) rfl ?_); at_builtin; refine Kd.R_append k25 (w0 := w) w.heap.size rfl (.tmp 41) (.tmp 44) 27 25 (.agg #[(.int .i64 0), (.int .i64 0), (.string ⟨#[]⟩)]) 32 rfl Tryd.underlying27 info25 rfl (by decide) (by omega) u3 x3_1 (⟨3, ((bt a0 (ji5)) - 48) % 256, (⟨#[]⟩ : ByteArray)⟩ : S25) [.int .i64 3, .int .i64 (((bt a0 (ji5)) - 48) % 256), .string (⟨#[]⟩ : ByteArray)] (fun _ => True) (fun _ => False) rfl rfl ?aP (fun _ hk => hk.elim) ?aF ?aO ?aB ?aS ?aL ?_; (case aP => exact k25_mkM _ _ _ (⟨3, ((bt a0 (ji5)) - 48) % 256, (⟨#[]⟩ : ByteArray)⟩ : S25)); (case aB => exact (by repeat (first | (with_reducible first | exact HB.out | apply below_alloc | apply pw_below_drewN | apply below_drew1) | exact HB.out))); (case aF => exact (fun _ _ => trivial)); (case aO => exact (by (with_reducible repeat (first | apply Kd.R_alloc | apply Kd.R_drewN | apply Kd.R_drew)); exact HO_3.out)); (case aS => exact (below_size (by repeat (first | (with_reducible first | exact HB.out | apply below_alloc | apply pw_below_drewN | apply below_drew1) | exact HB.out)))); (case aL => have := LMc15.out; omega); intro v135 w16 ho hb hg hat; rw [← Ny134.out] at ho; have n0_ := Aside0.mk (hb); have n1_ := Aside0.mk (ho); clear HB; clear HO_3; have HB := n0_; have HO136 := n1_; clear n0_ n1_; clear ho hb hg hat))
          go_roundg k1
          case measure => have := HK1.out; omega
          case rel => exact ⟨(y134), (wrap64 (x4_1 + 2)), (by first | rfl | (simp; done) | (simp [*]; done) | (simp [bne]; done)), H', ⟨by have := HK1.out; omega⟩, ⟨by (with_reducible repeat (first | apply Kd.R_alloc | apply Kd.R_drewN | apply Kd.R_drew)); exact HO136.out⟩, ⟨by repeat (first | (with_reducible first | exact HB.out | apply below_alloc | apply pw_below_drewN | apply below_drew1) | exact HB.out)⟩⟩
         ·rw [if_neg c15] at H
          exact absurd H (by simp)
        ·rw [if_neg c14] at H
         have c14b0 : ((bt a0 x4_1) == 100) = false := beq_eq_false_iff_ne.mpr c14
         have c14b1 : ((bt a0 x4_1) != 100) = true := bne_iff_ne.mpr c14
         have c17b0 := eq_true (of_decide_eq_true (by first | (with_reducible assumption) | assumption) : 0 ≤ x4_1)
         by_cases c18 : x4_1 ≤ (ji5)
         ·rw [if_pos c18] at H
          have c18b0 := eq_true c18
          have c18b1 : decide (x4_1 ≤ (ji5)) = true := decide_eq_true c18
          clear c18
          by_cases c19 : (ji5) ≤ (a0.size : Int)
          ·rw [if_pos c19] at H
           have c19b0 := eq_true c19
           have c19b1 : decide ((ji5) ≤ (a0.size : Int)) = true := decide_eq_true c19
           clear c19
           by_cases c20 : x3_1.length < 4398046511104
           ·rw [if_pos c20] at H
            have LMc20 := Aside0.mk c20
            clear c20
            obtain ⟨y137, hy137⟩ : ∃ y_ : List (S25), y_ = (x3_1 ++ [(⟨2, 0, a0.extract (x4_1 : Int).toNat ((ji5) : Int).toNat⟩ : S25)]) := ⟨_, rfl⟩
            replace H : (epitometop_row.l0 k1 a0 y137 (wrap64 (x4_1 + 2))) = some r := by first | (rw [hy137]; with_reducible exact H) | (have H2_ := (Option.bind_some _ _).symm.trans H; rw [hy137]; with_reducible exact H2_) | (have H2_ := (Option.bind_some _ _).symm.trans H; with_reducible exact H2_) | with_reducible exact H | (rw [hy137]; exact H) | exact H
            have Ny137 := Aside0.mk hy137
            clear hy137
            have H' := Aside0.mk H
            clear H
            have p7 : 0 ≤ ((ji5) : Int) := of_decide_eq_true (by first | (with_reducible assumption) | assumption)
            have q7 : (ji5) < (a0.size : Int) := of_decide_eq_true (by first | (with_reducible assumption) | assumption)
            have hx7 := bt_at a0 (ji5)
            replace p7 := eq_true p7
            replace q7 := eq_true q7
            have p10 : 0 ≤ (x4_1 : Int) := of_decide_eq_true (by first | (with_reducible assumption) | assumption)
            have q10 : x4_1 < (a0.size : Int) := of_decide_eq_true (by first | (with_reducible assumption) | assumption)
            have hx10 := bt_at a0 x4_1
            replace p10 := eq_true p10
            replace q10 := eq_true q10
            go_wp2_with (first | ((with_reducible refine gate_builtin (b := .append) (xs := #[.tmp 23, .tmp 30]) rfl ?_); at_builtin; refine Kd.R_append k25 (w0 := w) w.heap.size rfl (.tmp 23) (.tmp 30) 27 25 (.agg #[(.int .i64 0), (.int .i64 0), (.string ⟨#[]⟩)]) 32 rfl Tryd.underlying27 info25 rfl (by decide) (by omega) u3 x3_1 (⟨2, 0, a0.extract (x4_1 : Int).toNat ((ji5) : Int).toNat⟩ : S25) [.int .i64 2, .int .i64 0, .string (a0.extract (x4_1 : Int).toNat ((ji5) : Int).toNat)] (fun _ => True) (fun _ => False) rfl rfl ?aP (fun _ hk => hk.elim) ?aF ?aO ?aB ?aS ?aL ?_; (case aP => exact k25_mkM _ _ _ (⟨2, 0, a0.extract (x4_1 : Int).toNat ((ji5) : Int).toNat⟩ : S25)); (case aB => exact (by repeat (first | (with_reducible first | exact HB.out | apply below_alloc | apply pw_below_drewN | apply below_drew1) | exact HB.out))); (case aF => exact (fun _ _ => trivial)); (case aO => exact (by (with_reducible repeat (first | apply Kd.R_alloc | apply Kd.R_drewN | apply Kd.R_drew)); exact HO_3.out)); (case aS => exact (below_size (by repeat (first | (with_reducible first | exact HB.out | apply below_alloc | apply pw_below_drewN | apply below_drew1) | exact HB.out)))); (case aL => have := LMc20.out; omega); intro v138 w21 ho hb hg hat; rw [← Ny137.out] at ho; have n0_ := Aside0.mk (hb); have n1_ := Aside0.mk (ho); clear HB; clear HO_3; have HB := n0_; have HO139 := n1_; clear n0_ n1_; clear ho hb hg hat))
            go_roundg k1
            case measure => have := HK1.out; omega
            case rel => exact ⟨(y137), (wrap64 (x4_1 + 2)), (by first | rfl | (simp; done) | (simp [*]; done) | (simp [bne]; done)), H', ⟨by have := HK1.out; omega⟩, ⟨by (with_reducible repeat (first | apply Kd.R_alloc | apply Kd.R_drewN | apply Kd.R_drew)); exact HO139.out⟩, ⟨by repeat (first | (with_reducible first | exact HB.out | apply below_alloc | apply pw_below_drewN | apply below_drew1) | exact HB.out)⟩⟩
           ·rw [if_neg c20] at H
            exact absurd H (by simp)
          ·rw [if_neg c19] at H
           exact absurd H (by simp)
         ·rw [if_neg c18] at H
          exact absurd H (by simp)
      ·rw [if_neg c9] at H
       exact absurd H (by simp)
     ·rw [if_neg c8] at H
      exact absurd H (by simp)
    ·rw [if_neg c6] at H
     exact absurd H (by simp)
   ·rw [if_neg c4] at H
    have c4b0 : decide ((wrap64 (x4_1 + 1)) < (a0.size : Int)) = false := decide_eq_false c4
    clear c4
    obtain rfl := Option.some.inj H
    simp only [Option.some.injEq, Prod.mk.injEq] at H
    obtain ⟨rfl⟩ := H
    go_wp2
    go_ret
    exact ⟨_, by first | rfl | (simp [errW_none, errW_some] <;> rfl) | (simp [*, errW_none, errW_some] <;> rfl), by (with_reducible repeat (first | apply Kd.R_alloc | apply Kd.R_drewN | apply Kd.R_drew)); exact HO_3.out, by repeat (first | (with_reducible first | exact HB.out | apply below_alloc | apply pw_below_drewN | apply below_drew1) | exact HB.out)⟩

end Go.Proofs.YtegjegihcebimaaDoor.P
