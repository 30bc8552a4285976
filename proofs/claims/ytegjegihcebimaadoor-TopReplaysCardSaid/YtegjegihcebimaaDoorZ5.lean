/- Part 5 of the proof of topReplays_holds: out of the texts that this session's programs wrote, what the theorem reaches. -/
import Derived.Test.YtegjegihcebimaaDoorZ2
import Derived.Test.YtegjegihcebimaaDoorZ3
import Derived.Test.YtegjegihcebimaaDoorZ4
section
namespace Go.Proofs.YtegjegihcebimaaDoor.P
open Go.RowKit Go.Proofs.YtegjegihcebimaaDoorW.PrintWords Go.Proofs.YtegjegihcebimaaDoorW.PrintLast Go.Proofs.YtegjegihcebimaaDoorW.PrintMore
attribute [local go_sem] max2_int min2_int max_two min_two max_three min_three max_four min_four
set_option linter.unusedVariables false
set_option linter.unusedSimpArgs false
mutual
def epitomeref05_Of.l0 : Nat → List (S25) → List (S25) → Int → Option ((List (S25)))
 | 0, _, _, _ => none
 | k + 1, x0, x3, x4 => if x4 < (x0.length : Int) then (if 0 ≤ x4 then (if ((rd_T25 x0 x4).f1) = 0 then (epitomeref05_Of.j1 k x0 x3 x4 (((rd_T25 x0 x4).f2).toList == ([] : List UInt8)) ((rd_T25 x0 x4).f0) ((rd_T25 x0 x4).f1) ((rd_T25 x0 x4).f2)) else (epitomeref05_Of.j1 k x0 x3 x4 false ((rd_T25 x0 x4).f0) ((rd_T25 x0 x4).f1) ((rd_T25 x0 x4).f2))) else (none)) else (some x3)
def epitomeref05_Of.j1 : Nat → List (S25) → List (S25) → Int → Bool → Int → Int → ByteArray → Option ((List (S25)))
 | 0, _, _, _, _, _, _, _ => none
 | k + 1, x0, x3, x4, x25, x272000, x272001, x272002 => if x25 = true then (epitomeref05_Of.l0 k x0 x3 (wrap64 (x4 + 1))) else (if (x3.length : Int) > 0 then (if 0 ≤ (wrap64 ((x3.length : Int) - 1)) then (if (wrap64 ((x3.length : Int) - 1)) < (x3.length : Int) then (if ((rd_T25 x3 (wrap64 ((x3.length : Int) - 1))).f0) = x272000 then ((some (x3.set ((wrap64 ((x3.length : Int) - 1)) : Int).toNat (⟨(rd_T25 x3 (wrap64 ((x3.length : Int) - 1))).f0, wrap64 (((rd_T25 x3 (wrap64 ((x3.length : Int) - 1))).f1) + x272001), (rd_T25 x3 (wrap64 ((x3.length : Int) - 1))).f2⟩ : S25) : List (S25))).bind fun y274 => (if ((rd_T25 y274 (wrap64 ((x3.length : Int) - 1))).f2).size + x272002.size ≤ 9223372036854775807 then (epitomeref05_Of.l0 k x0 (y274.set ((wrap64 ((x3.length : Int) - 1)) : Int).toNat (⟨(rd_T25 y274 (wrap64 ((x3.length : Int) - 1))).f0, (rd_T25 y274 (wrap64 ((x3.length : Int) - 1))).f1, ((rd_T25 y274 (wrap64 ((x3.length : Int) - 1))).f2) ++ x272002⟩ : S25)) (wrap64 (x4 + 1))) else (none))) else (if x3.length < 4398046511104 then (epitomeref05_Of.l0 k x0 (x3 ++ [(⟨x272000, x272001, x272002⟩ : S25)]) (wrap64 (x4 + 1))) else (none))) else (none)) else (none)) else (if x3.length < 4398046511104 then (epitomeref05_Of.l0 k x0 (x3 ++ [(⟨x272000, x272001, x272002⟩ : S25)]) (wrap64 (x4 + 1))) else (none)))
end
def epitomeref05_Of.f (k : Nat) (l0 : List (S25)) : Option ((List (S25))) := epitomeref05_Of.l0 k l0 (([] : List (S25))) 0
def epitomeref05_Of.T8 : Bool × List (List Nat × List Nat) := (true, [([], []), ([0], [0]), ([1], [1]), ([2], [2]), ([2], [2]), ([4, 2], [2, 4]), ([3, 5, 2], [2, 3, 5]), ([6, 2], [2, 6]), ([7, 2], [2, 7]), ([2], [2]), ([9, 2], [2, 9]), ([8, 10, 2], [2, 8, 10]), ([2, 11], [2, 11])])
def epitomeref05_Of.B8 : List Nat := [0, 1, 3, 7, 7, 23, 63, 127, 255, 7, 519, 2047, 4095]
theorem epitomeref05_Of.tab8 : rtab .any (opsOf Tryd.f53 8) = epitomeref05_Of.T8 := by kernel_rfl
theorem epitomeref05_Of.bits8 : waitsOk epitomeref05_Of.T8.2 epitomeref05_Of.B8 = true := by kernel_rfl
def epitomeref05_Of.T9 : Bool × List (List Nat × List Nat) := (true, [([], []), ([], []), ([1], [1]), ([], []), ([], []), ([4], [4]), ([3, 5], [3, 5]), ([6], [6]), ([7], [7]), ([], []), ([9], [9]), ([8, 10], [8, 10]), ([0, 2, 0, 1, 2, 3, 4, 5, 6, 7, 8, 9, 10, 11], [0, 2]), ([12, 0, 1, 2, 3, 4, 5, 6, 7, 8, 9, 10, 11], [12]), ([13, 11, 0, 1, 2, 3, 4, 5, 6, 7, 8, 9, 10, 11], [11, 13])])
def epitomeref05_Of.B9 : List Nat := [0, 0, 2, 0, 0, 16, 56, 120, 248, 0, 512, 2040, 4095, 8191, 16383]
theorem epitomeref05_Of.tab9 : rtab .any (opsOf Tryd.f53 9) = epitomeref05_Of.T9 := by kernel_rfl
theorem epitomeref05_Of.bits9 : waitsOk epitomeref05_Of.T9.2 epitomeref05_Of.B9 = true := by kernel_rfl
def epitomeref05_Of.T10 : Bool × List (List Nat × List Nat) := (true, [([], []), ([], []), ([1], [1]), ([], []), ([], []), ([4], [4]), ([3, 5], [3, 5]), ([6], [6]), ([7], [7]), ([], []), ([9], [9]), ([8, 10], [8, 10]), ([0, 2, 0, 1, 2, 3, 4, 5, 6, 7, 8, 9, 10, 11], [0, 2]), ([12, 0, 1, 2, 3, 4, 5, 6, 7, 8, 9, 10, 11], [12]), ([13, 11, 0, 1, 2, 3, 4, 5, 6, 7, 8, 9, 10, 11], [11, 13])])
def epitomeref05_Of.B10 : List Nat := [0, 0, 2, 0, 0, 16, 56, 120, 248, 0, 512, 2040, 4095, 8191, 16383]
theorem epitomeref05_Of.tab10 : rtab .any (opsOf Tryd.f53 10) = epitomeref05_Of.T10 := by kernel_rfl
theorem epitomeref05_Of.bits10 : waitsOk epitomeref05_Of.T10.2 epitomeref05_Of.B10 = true := by kernel_rfl
set_option maxHeartbeats 8000000 in
set_option maxRecDepth 100000 in
theorem epitomeref05_Of.calls (k : Nat) (A0 : Option Addr) (c0 : Nat) (l0 : List (S25)) (r : List (S25)) (w : World) (hr0 : Kd.C k25 w A0 l0.length l0) (hc0 : l0.length ≤ c0) (h : epitomeref05_Of.f k l0 = some r) :
  Calls Tryd.prog 53 #[.slice A0 l0.length c0] w fun e w' => ∃ v0_ : Value, e = .returned (v0_) ∧ Kd.R k25 25 w' w.heap.size (fun _ => True) v0_ r ∧ Below w.heap.size w w' := by
 have hu25 := Tryd.underlying25
 have HR0 := am hr0
 have HC0 := am hc0
 clear hr0 hc0
 have HB := am (Below.refl w.heap.size w)
 have H : (epitomeref05_Of.l0 k l0 (([] : List (S25))) 0) = some r := h
 clear h
 obtain ⟨y267, hy267⟩ : ∃ y_ : List (S25), y_ = (([] : List (S25))) := ⟨_, rfl⟩
 replace H : (epitomeref05_Of.l0 k l0 y267 0) = some r := by first | (rw [hy267]; with_reducible exact H) | (have H2_ := (Option.bind_some _ _).symm.trans H; rw [hy267]; with_reducible exact H2_) | (have H2_ := (Option.bind_some _ _).symm.trans H; with_reducible exact H2_) | with_reducible exact H | (rw [hy267]; exact H) | exact H
 have Ny267 := am hy267
 clear hy267
 have H' := am H
 clear H
 go_enter Tryd.func53, Tryd.ntmps53
 go_wp2_with (first | ((with_reducible refine gate_dst (N := 7) rfl ?_); refine Kd.R_lit k25 _ 25 ?hg (N := 7) ?hd (xs := ([] : List (S25))) (inner := []) (ok := fun _ => True) (okp := fun _ => True) ?hr ?hp (fun _ hk => hk) trivial (Below.refl _ _) (Nat.le_refl _) (by simp) ?_; (case hd => rfl); (case hg => rfl); (case hr => first | (go_simp; done) | (go_simp; rfl)); (case hp => exact (Reps.none _ _)); intro v268 w2 ho3 hb hg_ hnew_; clear hg_ hnew_; (first | rw [← Ny267.out] at ho3 | (simp only [Int.reduceToNat] at ho3; rw [← Ny267.out] at ho3)); have n0_ := am (Kd.R_lower ho3 (below_size bl)); have n1_ := am (below_step bl hb); clear HB; have HO269 := n0_; have HB := n1_; clear n0_ n1_; clear hb ho3))
 go_loopg [3, 4] k (fun kq v3 v4 w' => ∃ (x3_1 : List (S25)) (x4_1 : Int), v4 = .int .i64 x4_1 ∧ Aside0 (epitomeref05_Of.l0 kq l0 x3_1 x4_1 = some r) ∧ Aside0 (kq ≤ k) ∧ Aside0 (Kd.R k25 25 w' w.heap.size (fun _ => True) v3 x3_1) ∧ Aside0 (Below w.heap.size w w'))
 case atStart => exact ⟨(y267), (0), pj, H', ⟨Nat.le_refl _⟩, ⟨by refine kR ?_; exact HO269.out⟩, ⟨bl⟩⟩
 case round =>
  clear H'
  try clear p2
  obtain ⟨x3_1, x4_1, rfl, HA, HK1, HO_3, HB⟩ := hrel
  cases gk with
  | zero => exact absurd HA.out (by simp [epitomeref05_Of.l0])
  | succ k1 =>
   have H := HA.out
   clear HA
   simp only [epitomeref05_Of.l0] at H
   by_cases c4 : x4_1 < (l0.length : Int)
   ·rw [if_pos c4] at H
    have c4b0 : decide (x4_1 < (l0.length : Int)) = true := decide_eq_true c4
    clear c4
    by_cases c5 : 0 ≤ x4_1
    ·rw [if_pos c5] at H
     have c5b0 : decide (0 ≤ x4_1) = true := decide_eq_true c5
     clear c5
     have HC6 := am H
     clear H
     have p270 : 0 ≤ (x4_1 : Int) := of_decide_eq_true as0
     have q270 : x4_1 < (l0.length : Int) := of_decide_eq_true as0
     obtain ⟨ad270, e270, hx270_0, hx270_1, hx270_2⟩ := at_T25 HR0.out x4_1 p270 q270
     cases e270
     replace hx270_0 := (HB.out.cell (World.block_lt_of_cell? w _ hx270_0)).trans hx270_0
     replace hx270_1 := (HB.out.cell (World.block_lt_of_cell? w _ hx270_1)).trans hx270_1
     replace hx270_2 := (HB.out.cell (World.block_lt_of_cell? w _ hx270_2)).trans hx270_2
     replace p270 := eq_true p270
     replace q270 := eq_true q270
     go_upto_region 6 with (first | ((with_reducible refine gate_dst (N := 5) rfl ?_); refine box_event ?hg (N := 5) ?hd (cs := #[.int .i64 0, .int .i64 0, .string (⟨#[]⟩ : ByteArray)]) (t := 25) ?hr ?_; (case hd => rfl); (case hg => rfl); (case hr => first | (go_simp; done) | (go_simp; rfl)); intro gb271 hg w7 hbox hb; have n0_ := am (Kd.R_below (Kd.R_elderB (by refine kR ?_; exact HO_3.out) gb271 (Nat.le_of_eq hg.symm)) hb); have n1_ := am (below_step bl hb); have n2_ := am (hbox); have n3_ := am ((gs : w.heap.size ≤ gb271)); have n4_ := am ((gs : w.heap.size ≤ gb271)); clear HO_3; clear HB; have HO_3 := n0_; have HB := n1_; have BK271 := n2_; have GW271 := n3_; have GE271 := n4_; clear n0_ n1_ n2_ n3_ n4_; clear hb hbox hg; have hcz8_0 : w7.cell? ⟨gb271, 0, none⟩ = some (.int .i64 0) := (blk_cell BK271.out 0).trans rfl; have hcz8_1 : w7.cell? ⟨gb271, 1, none⟩ = some (.int .i64 0) := (blk_cell BK271.out 1).trans rfl; have hcz8_2 : w7.cell? ⟨gb271, 2, none⟩ = some (.string (⟨#[]⟩ : ByteArray)) := (blk_cell BK271.out 2).trans rfl; have hfz8_0 := blk_frozen BK271.out 0; have hfz8_1 := blk_frozen BK271.out 1; have hfz8_2 := blk_frozen BK271.out 2))
     (try simp only [Act.put, List.setIfInBounds_toArray, List.set_cons_zero, List.set_cons_succ])
     go_cut [25] (fun v25 wc => ∃ (kq : Nat) (x25_5 : Bool), v25 = .bool x25_5 ∧ Aside0 (epitomeref05_Of.j1 kq l0 x3_1 x4_1 x25_5 ((rd_T25 l0 x4_1).f0) ((rd_T25 l0 x4_1).f1) ((rd_T25 l0 x4_1).f2) = some r) ∧ Aside0 (kq ≤ k1) ∧ Aside0 (Kd.R k25 25 wc w.heap.size (fun k_ => k_ ≠ gb271) u3 x3_1) ∧ Aside0 (wc.heap[gb271]? = some (.cells #[.int .i64 ((rd_T25 l0 x4_1).f0), .int .i64 ((rd_T25 l0 x4_1).f1), .string ((rd_T25 l0 x4_1).f2)] 25 (0, 0))) ∧ Aside0 (Below w.heap.size w wc))
     case first =>
      have H := HC6.out
      clear HC6
      by_cases c9 : ((rd_T25 l0 x4_1).f1) = 0
      ·rw [if_pos c9] at H
       have c9b0 : (((rd_T25 l0 x4_1).f1) == 0) = true := beq_iff_eq.mpr c9
       have c9b1 : (((rd_T25 l0 x4_1).f1) != 0) = false := bne_eq_false_iff_eq.mpr c9
       clear c9
       (first | rw [c9b0] | (simp only [i64_w, i32_w]; rw [c9b0]) | skip)
       have H' := am H
       clear H
       have hcz10_0 : w7.cell? ⟨gb271, 0, none⟩ = some (.int .i64 0) := (blk_cell BK271.out 0).trans rfl
       have hcz10_1 : w7.cell? ⟨gb271, 1, none⟩ = some (.int .i64 0) := (blk_cell BK271.out 1).trans rfl
       have hcz10_2 : w7.cell? ⟨gb271, 2, none⟩ = some (.string (⟨#[]⟩ : ByteArray)) := (blk_cell BK271.out 2).trans rfl
       have hfz10_0 := blk_frozen BK271.out 0
       have hfz10_1 := blk_frozen BK271.out 1
       have hfz10_2 := blk_frozen BK271.out 2
       go_wp2
       go_meet
       case rel => exact ⟨_, ((((rd_T25 l0 x4_1).f2).toList == ([] : List UInt8))), pj, H', ⟨by have := HK1.out; first | omega | exact Nat.le_refl _⟩, ⟨by refine kR ?_; exact Kd.R_mono (Kd.R_far (p := ⟨gb271, 2, none⟩) (Kd.R_far (p := ⟨gb271, 1, none⟩) (Kd.R_far (p := ⟨gb271, 0, none⟩) (Kd.R_mono HO_3.out (fun k_ hk => (⟨hk, hk.2⟩ : _ ∧ k_ ≠ gb271))) (fun _ hk => hk.2) (.int .i64 ((rd_T25 l0 x4_1).f0))) (fun _ hk => hk.2) (.int .i64 ((rd_T25 l0 x4_1).f1))) (fun _ hk => hk.2) (.string ((rd_T25 l0 x4_1).f2))) (fun _ hk => hk.1.2)⟩, ⟨by refine bk ?_; refine blk_put (cs := #[.int .i64 ((rd_T25 l0 x4_1).f0), .int .i64 ((rd_T25 l0 x4_1).f1), .string (⟨#[]⟩ : ByteArray)]) ?_ 2 _ rfl; refine bk ?_; refine blk_put (cs := #[.int .i64 ((rd_T25 l0 x4_1).f0), .int .i64 0, .string (⟨#[]⟩ : ByteArray)]) ?_ 1 _ rfl; refine bk ?_; refine blk_put (cs := #[.int .i64 0, .int .i64 0, .string (⟨#[]⟩ : ByteArray)]) ?_ 0 _ rfl; refine bk ?_; exact BK271.out⟩, ⟨bl⟩⟩
      ·rw [if_neg c9] at H
       have c9b0 : (((rd_T25 l0 x4_1).f1) == 0) = false := beq_eq_false_iff_ne.mpr c9
       have c9b1 : (((rd_T25 l0 x4_1).f1) != 0) = true := bne_iff_ne.mpr c9
       (first | rw [c9b0] | (simp only [i64_w, i32_w]; rw [c9b0]) | skip)
       have H' := am H
       clear H
       have hcz11_0 : w7.cell? ⟨gb271, 0, none⟩ = some (.int .i64 0) := (blk_cell BK271.out 0).trans rfl
       have hcz11_1 : w7.cell? ⟨gb271, 1, none⟩ = some (.int .i64 0) := (blk_cell BK271.out 1).trans rfl
       have hcz11_2 : w7.cell? ⟨gb271, 2, none⟩ = some (.string (⟨#[]⟩ : ByteArray)) := (blk_cell BK271.out 2).trans rfl
       have hfz11_0 := blk_frozen BK271.out 0
       have hfz11_1 := blk_frozen BK271.out 1
       have hfz11_2 := blk_frozen BK271.out 2
       go_wp2
       go_meet
       case rel => exact ⟨_, (false), pj, H', ⟨by have := HK1.out; first | omega | exact Nat.le_refl _⟩, ⟨by refine kR ?_; exact Kd.R_mono (Kd.R_far (p := ⟨gb271, 2, none⟩) (Kd.R_far (p := ⟨gb271, 1, none⟩) (Kd.R_far (p := ⟨gb271, 0, none⟩) (Kd.R_mono HO_3.out (fun k_ hk => (⟨hk, hk.2⟩ : _ ∧ k_ ≠ gb271))) (fun _ hk => hk.2) (.int .i64 ((rd_T25 l0 x4_1).f0))) (fun _ hk => hk.2) (.int .i64 ((rd_T25 l0 x4_1).f1))) (fun _ hk => hk.2) (.string ((rd_T25 l0 x4_1).f2))) (fun _ hk => hk.1.2)⟩, ⟨by refine bk ?_; refine blk_put (cs := #[.int .i64 ((rd_T25 l0 x4_1).f0), .int .i64 ((rd_T25 l0 x4_1).f1), .string (⟨#[]⟩ : ByteArray)]) ?_ 2 _ rfl; refine bk ?_; refine blk_put (cs := #[.int .i64 ((rd_T25 l0 x4_1).f0), .int .i64 0, .string (⟨#[]⟩ : ByteArray)]) ?_ 1 _ rfl; refine bk ?_; refine blk_put (cs := #[.int .i64 0, .int .i64 0, .string (⟨#[]⟩ : ByteArray)]) ?_ 0 _ rfl; refine bk ?_; exact BK271.out⟩, ⟨bl⟩⟩
     case rest =>
      clear HC6
      try clear p2
      try clear q2
      try clear hx2
      try clear c4
      try clear c4b0
      try clear c5
      try clear c5b0
      try clear c9
      try clear c9b0
      try clear c9b1
      try clear hcz10_0
      try clear hcz10_1
      try clear hcz10_2
      try clear hcz11_0
      try clear hcz11_1
      try clear hcz11_2
      try clear hcz8_0
      try clear hcz8_1
      try clear hcz8_2
      try clear hfz10_0
      try clear hfz10_1
      try clear hfz10_2
      try clear hfz11_0
      try clear hfz11_1
      try clear hfz11_2
      try clear hfz8_0
      try clear hfz8_1
      try clear hfz8_2
      try clear hx270_0
      try clear hx270_1
      try clear hx270_2
      try clear p2
      try clear p270
      try clear q270
      obtain ⟨kq, x25_5, rfl, HA, HJ5, HO_3, BK271, HB⟩ := hcut
      cases kq with
      | zero => exact absurd HA.out (by simp [epitomeref05_Of.j1])
      | succ kj5 =>
       have H := HA.out
       clear HA
       simp only [epitomeref05_Of.j1] at H
       by_cases c12 : x25_5 = true
       ·subst c12
        have H1 : (epitomeref05_Of.l0 kj5 l0 x3_1 (wrap64 (x4_1 + 1))) = some r := by rw [if_pos rfl] at H; exact H
        clear H
        have H := H1
        clear H1
        have H' := am H
        clear H
        go_wp2
        go_roundg kj5
        case measure => have := HK1.out; have := HJ5.out; omega
        case rel => exact ⟨(x3_1), (wrap64 (x4_1 + 1)), pj, H', ⟨by have := HK1.out; have := HJ5.out; omega⟩, ⟨by refine kR ?_; exact Kd.R_mono HO_3.out (fun _ hk => trivial)⟩, ⟨bl⟩⟩
       ·replace c12 := Bool.eq_false_iff.mpr c12
        subst c12
        have H1 : (if (x3_1.length : Int) > 0 then (if 0 ≤ (wrap64 ((x3_1.length : Int) - 1)) then (if (wrap64 ((x3_1.length : Int) - 1)) < (x3_1.length : Int) then (if ((rd_T25 x3_1 (wrap64 ((x3_1.length : Int) - 1))).f0) = ((rd_T25 l0 x4_1).f0) then ((some (x3_1.set ((wrap64 ((x3_1.length : Int) - 1)) : Int).toNat (⟨(rd_T25 x3_1 (wrap64 ((x3_1.length : Int) - 1))).f0, wrap64 (((rd_T25 x3_1 (wrap64 ((x3_1.length : Int) - 1))).f1) + ((rd_T25 l0 x4_1).f1)), (rd_T25 x3_1 (wrap64 ((x3_1.length : Int) - 1))).f2⟩ : S25) : List (S25))).bind fun y274 => (if ((rd_T25 y274 (wrap64 ((x3_1.length : Int) - 1))).f2).size + ((rd_T25 l0 x4_1).f2).size ≤ 9223372036854775807 then (epitomeref05_Of.l0 kj5 l0 (y274.set ((wrap64 ((x3_1.length : Int) - 1)) : Int).toNat (⟨(rd_T25 y274 (wrap64 ((x3_1.length : Int) - 1))).f0, (rd_T25 y274 (wrap64 ((x3_1.length : Int) - 1))).f1, ((rd_T25 y274 (wrap64 ((x3_1.length : Int) - 1))).f2) ++ ((rd_T25 l0 x4_1).f2)⟩ : S25)) (wrap64 (x4_1 + 1))) else (none))) else (if x3_1.length < 4398046511104 then (epitomeref05_Of.l0 kj5 l0 (x3_1 ++ [(⟨((rd_T25 l0 x4_1).f0), ((rd_T25 l0 x4_1).f1), ((rd_T25 l0 x4_1).f2)⟩ : S25)]) (wrap64 (x4_1 + 1))) else (none))) else (none)) else (none)) else (if x3_1.length < 4398046511104 then (epitomeref05_Of.l0 kj5 l0 (x3_1 ++ [(⟨((rd_T25 l0 x4_1).f0), ((rd_T25 l0 x4_1).f1), ((rd_T25 l0 x4_1).f2)⟩ : S25)]) (wrap64 (x4_1 + 1))) else (none))) = some r := by rw [if_neg (show ¬ (false = true) by decide)] at H; exact H
        clear H
        have H := H1
        clear H1
        by_cases c13 : (x3_1.length : Int) > 0
        ·rw [if_pos c13] at H
         have c13b0 : decide (0 < (x3_1.length : Int)) = true := decide_eq_true c13
         have c13b1 : decide (0 < x3_1.length) = true := decide_eq_true (by omega)
         clear c13
         obtain ⟨ji14, hji14⟩ : ∃ j_ : Int, (wrap64 ((x3_1.length : Int) - 1)) = j_ := ⟨_, rfl⟩
         replace H : (if 0 ≤ (ji14) then (if (ji14) < (x3_1.length : Int) then (if ((rd_T25 x3_1 (ji14)).f0) = ((rd_T25 l0 x4_1).f0) then ((some (x3_1.set ((ji14) : Int).toNat (⟨(rd_T25 x3_1 (ji14)).f0, wrap64 (((rd_T25 x3_1 (ji14)).f1) + ((rd_T25 l0 x4_1).f1)), (rd_T25 x3_1 (ji14)).f2⟩ : S25) : List (S25))).bind fun y274 => (if ((rd_T25 y274 (ji14)).f2).size + ((rd_T25 l0 x4_1).f2).size ≤ 9223372036854775807 then (epitomeref05_Of.l0 kj5 l0 (y274.set ((ji14) : Int).toNat (⟨(rd_T25 y274 (ji14)).f0, (rd_T25 y274 (ji14)).f1, ((rd_T25 y274 (ji14)).f2) ++ ((rd_T25 l0 x4_1).f2)⟩ : S25)) (wrap64 (x4_1 + 1))) else (none))) else (if x3_1.length < 4398046511104 then (epitomeref05_Of.l0 kj5 l0 (x3_1 ++ [(⟨((rd_T25 l0 x4_1).f0), ((rd_T25 l0 x4_1).f1), ((rd_T25 l0 x4_1).f2)⟩ : S25)]) (wrap64 (x4_1 + 1))) else (none))) else (none)) else (none)) = some r := by first | (rw [hji14] at H; exact H) | (simp only [hji14] at H ⊢; exact H)
         have hji14w : (IntKind.i64.wrap ((x3_1.length : Int) - 1)) = ji14 := (i64_w _).trans hji14
         by_cases c15 : 0 ≤ (ji14)
         ·rw [if_pos c15] at H
          have c15b0 : decide (0 ≤ (ji14)) = true := decide_eq_true c15
          clear c15
          by_cases c16 : (ji14) < (x3_1.length : Int)
          ·rw [if_pos c16] at H
           have c16b0 : decide ((ji14) < (x3_1.length : Int)) = true := decide_eq_true c16
           clear c16
           by_cases c17 : ((rd_T25 x3_1 (ji14)).f0) = ((rd_T25 l0 x4_1).f0)
           ·rw [if_pos c17] at H
            have c17b0 : (((rd_T25 x3_1 (ji14)).f0) == ((rd_T25 l0 x4_1).f0)) = true := beq_iff_eq.mpr c17
            have c17b1 : (((rd_T25 x3_1 (ji14)).f0) != ((rd_T25 l0 x4_1).f0)) = false := bne_eq_false_iff_eq.mpr c17
            clear c17
            obtain ⟨y274, hy274⟩ : ∃ y_ : List (S25), y_ = (x3_1.set ((ji14) : Int).toNat (⟨(rd_T25 x3_1 (ji14)).f0, wrap64 (((rd_T25 x3_1 (ji14)).f1) + ((rd_T25 l0 x4_1).f1)), (rd_T25 x3_1 (ji14)).f2⟩ : S25)) := ⟨_, rfl⟩
            replace H : (if ((rd_T25 y274 (ji14)).f2).size + ((rd_T25 l0 x4_1).f2).size ≤ 9223372036854775807 then (epitomeref05_Of.l0 kj5 l0 (y274.set ((ji14) : Int).toNat (⟨(rd_T25 y274 (ji14)).f0, (rd_T25 y274 (ji14)).f1, ((rd_T25 y274 (ji14)).f2) ++ ((rd_T25 l0 x4_1).f2)⟩ : S25)) (wrap64 (x4_1 + 1))) else (none)) = some r := by first | (rw [hy274]; with_reducible exact H) | (have H2_ := (Option.bind_some _ _).symm.trans H; rw [hy274]; with_reducible exact H2_) | (have H2_ := (Option.bind_some _ _).symm.trans H; with_reducible exact H2_) | with_reducible exact H | (rw [hy274]; exact H) | exact H
            have Ny274 := am hy274
            clear hy274
            by_cases c19 : ((rd_T25 y274 (ji14)).f2).size + ((rd_T25 l0 x4_1).f2).size ≤ 9223372036854775807
            ·rw [if_pos c19] at H
             have c19b0 := eq_true c19
             have c19b1 : decide (((rd_T25 y274 (ji14)).f2).size + ((rd_T25 l0 x4_1).f2).size ≤ 9223372036854775807) = true := decide_eq_true c19
             try have c19b2 : (9223372036854775807 < ((rd_T25 y274 (ji14)).f2).size + ((rd_T25 l0 x4_1).f2).size) = False := eq_false (Nat.not_lt.2 c19)
             obtain ⟨y276, hy276⟩ : ∃ y_ : List (S25), y_ = (y274.set ((ji14) : Int).toNat (⟨(rd_T25 y274 (ji14)).f0, (rd_T25 y274 (ji14)).f1, ((rd_T25 y274 (ji14)).f2) ++ ((rd_T25 l0 x4_1).f2)⟩ : S25)) := ⟨_, rfl⟩
             replace H : (epitomeref05_Of.l0 kj5 l0 y276 (wrap64 (x4_1 + 1))) = some r := by first | (rw [hy276]; with_reducible exact H) | (have H2_ := (Option.bind_some _ _).symm.trans H; rw [hy276]; with_reducible exact H2_) | (have H2_ := (Option.bind_some _ _).symm.trans H; with_reducible exact H2_) | with_reducible exact H | (rw [hy276]; exact H) | exact H
             have Ny276 := am hy276
             clear hy276
             have H' := am H
             clear H
             obtain ⟨Ao21, co21, eo21⟩ := Kd.R_slice HO_3.out
             subst eo21
             try go_wp2
             have n0_ := am (Kd.R_drew HO_3.out)
             have n1_ := am (blk_drew BK271.out)
             have n2_ := am (below_drew1 HB.out)
             clear HO_3
             clear BK271
             clear HB
             have HO_3 := n0_
             have BK271 := n1_
             have HB := n2_
             clear n0_ n1_ n2_
             have p272 : 0 ≤ ((ji14) : Int) := of_decide_eq_true as0
             have q272 : (ji14) < (x3_1.length : Int) := of_decide_eq_true as0
             obtain ⟨ad272, e272, hx272_0, hx272_1, hx272_2⟩ := at_T25 (Kd.R_reads' HO_3.out).2.2 (ji14) p272 q272
             cases e272
             replace p272 := eq_true p272
             replace q272 := eq_true q272
             refine start_ (n := 13) (S := fun w' => w'.cell? ⟨gb271, 0, none⟩ = some (.int .i64 ((rd_T25 l0 x4_1).f0)) ∧ w'.cell? ⟨gb271, 1, none⟩ = some (.int .i64 ((rd_T25 l0 x4_1).f1)) ∧ w'.cell? ⟨gb271, 2, none⟩ = some (.string ((rd_T25 l0 x4_1).f2)) ∧ w'.cell? (ad272.add (((ji14)).toNat * 3)) = some (.int .i64 ((rd_T25 x3_1 (ji14)).f0)) ∧ w'.cell? ⟨(ad272.add (((ji14)).toNat * 3)).block, (ad272.add (((ji14)).toNat * 3)).off + 1, none⟩ = some (.int .i64 ((rd_T25 x3_1 (ji14)).f1)) ∧ w'.cell? ⟨(ad272.add (((ji14)).toNat * 3)).block, (ad272.add (((ji14)).toNat * 3)).off + 2, none⟩ = some (.string ((rd_T25 x3_1 (ji14)).f2))) (ds := []) #[false, false, false, false, false, false, false, false, false, false, false, false, false] (by kernel_rfl) rfl rfl ⟨(blk_cell BK271.out 0).trans rfl, (blk_cell BK271.out 1).trans rfl, (blk_cell BK271.out 2).trans rfl, hx272_0, hx272_1, hx272_2⟩ (fun hHeld => ?_); refine with_tabW epitomeref05_Of.tab8 epitomeref05_Of.bits8 (fun HT_ HW_ => ?_)
             generalize wc.drew = w22 at HO_3 BK271 HB hx272_0 hx272_1 hx272_2 hHeld ⊢
             refine pure_ (i := 0) (N := some 28) #[true, false, false, false, false, false, false, false, false, false, false, false, false] rfl rfl (aT HT_.out) (fun _ _ _ h => h) (Or.inl ⟨rfl, rn⟩) ap ?_
             refine pure_ (i := 1) (N := some 29) #[true, true, false, false, false, false, false, false, false, false, false, false, false] rfl rfl (aT HT_.out) (fun _ _ _ h => h) (Or.inl ⟨rfl, rn⟩) ap ?_
             refine pure_ (i := 2) (N := some 30) #[true, true, true, false, false, false, false, false, false, false, false, false, false] rfl rfl (aT HT_.out) (fun _ _ _ h => h) (Or.inl ⟨rfl, rn⟩) ap ?_
             refine pure_ (i := 3) (N := some 31) #[true, true, true, true, false, false, false, false, false, false, false, false, false] rfl rfl (aT HT_.out) (fun _ _ _ h => h) (Or.inl ⟨rfl, rn⟩) ap ?_
             refine pure_ (i := 4) (N := some 32) #[true, true, true, true, true, false, false, false, false, false, false, false, false] rfl rfl (aT HT_.out) (fun _ _ _ h => h) (Or.inl ⟨rfl, rn⟩) ap ?_
             refine pure_ (i := 5) (N := some 33) #[true, true, true, true, true, true, false, false, false, false, false, false, false] rfl rfl (aT HT_.out) (fun _ _ _ h => h) (Or.inl ⟨rfl, rn⟩) ap ?_
             refine pure_ (i := 6) (N := some 34) #[true, true, true, true, true, true, true, false, false, false, false, false, false] rfl rfl (aT HT_.out) (fun _ _ _ h => h) (Or.inl ⟨rfl, rn⟩) ap ?_
             refine pure_ (i := 7) (N := some 35) #[true, true, true, true, true, true, true, true, false, false, false, false, false] rfl rfl (aT HT_.out) (fun _ _ _ h => h) (Or.inl ⟨rfl, rn⟩) ap ?_
             refine pure_ (i := 9) (N := some 37) #[true, true, true, true, true, true, true, true, false, true, false, false, false] rfl rfl (aT HT_.out) (fun _ _ _ h => h) (Or.inl ⟨rfl, rn⟩) ap ?_
             refine take_ (i := 8) (N := some 36) (v := ?_) (a' := ?_) #[true, true, true, true, true, true, true, true, true, true, false, false, false] rfl rfl (take_ofW HT_.out HW_.out (by kernel_rfl)) (fun _ _ _ h => h) (Or.inl ⟨by rfl, ?_⟩) hHeld ?_ ?_
             rotate_left
             ·rintro w' ⟨s0, s1, s2, s3, s4, s5⟩
              go_simp
              with_reducible rfl
             rotate_left
             ·exact ap
             refine take_ (i := 10) (N := some 38) (v := ?_) (a' := ?_) #[true, true, true, true, true, true, true, true, true, true, true, false, false] rfl rfl (take_ofW HT_.out HW_.out (by kernel_rfl)) (fun _ _ _ h => h) (Or.inl ⟨by rfl, ?_⟩) hHeld ?_ ?_
             rotate_left
             ·rintro w' ⟨s0, s1, s2, s3, s4, s5⟩
              go_simp
              with_reducible rfl
             rotate_left
             ·exact ap
             refine pure_ (i := 11) (N := some 39) #[true, true, true, true, true, true, true, true, true, true, true, true, false] rfl rfl (aT HT_.out) (fun _ _ _ h => h) (Or.inl ⟨rfl, rn⟩) ap ?_
             refine pure_ (i := 12) (N := some 40) #[true, true, true, true, true, true, true, true, true, true, true, true, true] rfl rfl (aT HT_.out) (fun _ _ _ h => h) (Or.inl ⟨rfl, rn⟩) ap ?_
             refine done_ (done_of HT_.out (by kernel_rfl)) ?_
             try go_wp2
             have n0_ := am (Kd.R_drew HO_3.out)
             have n1_ := am (blk_drew BK271.out)
             have n2_ := am (below_drew1 HB.out)
             clear HO_3
             clear BK271
             clear HB
             have HO_3 := n0_
             have BK271 := n1_
             have HB := n2_
             clear n0_ n1_ n2_
             have p273 : 0 ≤ ((ji14) : Int) := of_decide_eq_true as0
             have q273 : (ji14) < (x3_1.length : Int) := of_decide_eq_true as0
             obtain ⟨ad273, e273, hx273_0, hx273_1, hx273_2⟩ := at_T25 (Kd.R_reads' HO_3.out).2.2 (ji14) p273 q273
             obtain rfl : ad272 = ad273 := (by injection e273)
             replace p273 := eq_true p273
             replace q273 := eq_true q273
             have p18 : 0 ≤ ((ji14) : Int) := of_decide_eq_true as0
             have q18 : ((ji14) : Int) < ((x3_1.length : Int) : Int) := of_decide_eq_true as0
             obtain ⟨go18, co18, eo18, gb18, gl18, cl18, HG18⟩ := Kd.R_form HO_3.out (by omega)
             (first | cases eo18 | (injection eo18 with ea_ en_ ec_; (first | subst ea_ | (injection ea_ with ea_; subst ea_)); subst ec_; clear en_))
             have GB18 := am gb18
             have GG18 := am HG18
             clear gb18 gl18 HG18
             (first | simp only [add_plain] at hx272_0 | skip)
             (first | simp only [add_plain] at hx272_1 | skip)
             (first | simp only [add_plain] at hx272_2 | skip)
             (first | simp only [add_plain] at hx273_0 | skip)
             (first | simp only [add_plain] at hx273_1 | skip)
             (first | simp only [add_plain] at hx273_2 | skip)
             obtain ⟨ce18, hcl18, hM18, hcc18, hfr18⟩ := Kd.R_elem HO_3.out z25 ((ji14) : Int) p18 q18
             obtain rfl := k25_openM hM18
             have hx18_0 : World.cell? _ ⟨go18, ((ji14) : Int).toNat * 3, none⟩ = some (.int .i64 ((rd_T25 x3_1 (ji14)).f0)) := hcc18 0 _ rfl
             have hx18_1 : World.cell? _ ⟨go18, ((ji14) : Int).toNat * 3 + 1, none⟩ = some (.int .i64 ((rd_T25 x3_1 (ji14)).f1)) := hcc18 1 _ rfl
             have hx18_2 : World.cell? _ ⟨go18, ((ji14) : Int).toNat * 3 + 2, none⟩ = some (.string ((rd_T25 x3_1 (ji14)).f2)) := hcc18 2 _ rfl
             have hf18_0 : World.frozen? _ ⟨go18, ((ji14) : Int).toNat * 3, none⟩ = false := hfr18 0
             have hf18_1 : World.frozen? _ ⟨go18, ((ji14) : Int).toNat * 3 + 1, none⟩ = false := hfr18 1
             have hf18_2 : World.frozen? _ ⟨go18, ((ji14) : Int).toNat * 3 + 2, none⟩ = false := hfr18 2
             clear hcl18 hcc18 hfr18 hM18
             replace p18 := eq_true p18
             replace q18 := eq_true q18
             obtain ⟨ce24, hcl24, hM24, hcc24, hfr24⟩ := Kd.R_elem HO_3.out z25 ((ji14) : Int) (of_decide_eq_true as0) (by have h_ : ((ji14) : Int) < ((x3_1.length : Int) : Int) := of_decide_eq_true as0; first | exact h_ | (have e_ := (Kd.R_reads' HO_3.out).1; omega) | simpa using h_)
             obtain rfl := k25_openM hM24
             have HP24 := (Kd.R_seg HO_3.out ((ji14) : Int) (of_decide_eq_true as0) (by have h_ : ((ji14) : Int) < ((x3_1.length : Int) : Int) := of_decide_eq_true as0; first | exact h_ | (have e_ := (Kd.R_reads' HO_3.out).1; omega) | simpa using h_) (seg := [.int .i64 (wrap64 (((rd_T25 x3_1 (ji14)).f1) + ((rd_T25 l0 x4_1).f1)))]) (j := 1) hcl24 hcc24 (show 2 ≤ 3 from by decide) (x' := (⟨(rd_T25 x3_1 (ji14)).f0, wrap64 (((rd_T25 x3_1 (ji14)).f1) + ((rd_T25 l0 x4_1).f1)), (rd_T25 x3_1 (ji14)).f2⟩ : S25)) (k25_mkM _ _ _ (⟨(rd_T25 x3_1 (ji14)).f0, wrap64 (((rd_T25 x3_1 (ji14)).f1) + ((rd_T25 l0 x4_1).f1)), (rd_T25 x3_1 (ji14)).f2⟩ : S25) ) (fun _ hk => hk)).1
             rw [← Ny274.out] at HP24
             have HQ24 := am HP24
             clear hcl24 hcc24 hfr24 hM24 HP24
             refine start_ (n := 15) (S := fun w' => w'.cell? ⟨gb271, 0, none⟩ = some (.int .i64 ((rd_T25 l0 x4_1).f0)) ∧ w'.cell? ⟨gb271, 1, none⟩ = some (.int .i64 ((rd_T25 l0 x4_1).f1)) ∧ w'.cell? ⟨gb271, 2, none⟩ = some (.string ((rd_T25 l0 x4_1).f2)) ∧ w'.cell? ⟨go18, ((ji14) : Int).toNat * 3, none⟩ = some (.int .i64 ((rd_T25 x3_1 (ji14)).f0)) ∧ w'.cell? ⟨go18, ((ji14) : Int).toNat * 3 + 1, none⟩ = some (.int .i64 ((rd_T25 x3_1 (ji14)).f1)) ∧ w'.cell? ⟨go18, ((ji14) : Int).toNat * 3 + 2, none⟩ = some (.string ((rd_T25 x3_1 (ji14)).f2))) (ds := [14]) #[false, false, false, false, false, false, false, false, false, false, false, false, false, false, false] (by kernel_rfl) rfl rfl ⟨(blk_cell BK271.out 0).trans rfl, (blk_cell BK271.out 1).trans rfl, (blk_cell BK271.out 2).trans rfl, hx18_0, hx18_1, hx18_2⟩ (fun hHeld => ?_); refine with_tabW epitomeref05_Of.tab9 epitomeref05_Of.bits9 (fun HT_ HW_ => ?_)
             generalize w22.drew = w23 at HO_3 BK271 HB GG18 HQ24 hf18_0 hf18_1 hf18_2 hx18_0 hx18_1 hx18_2 hx272_0 hx272_1 hx272_2 hx273_0 hx273_1 hx273_2 hHeld ⊢
             refine pure_ (i := 0) (N := some 41) #[true, false, false, false, false, false, false, false, false, false, false, false, false, false, false] rfl rfl (aT HT_.out) (fun _ _ _ h => h) (Or.inl ⟨rfl, rn⟩) ap ?_
             refine pure_ (i := 1) (N := some 42) #[true, true, false, false, false, false, false, false, false, false, false, false, false, false, false] rfl rfl (aT HT_.out) (fun _ _ _ h => h) (Or.inl ⟨rfl, rn⟩) ap ?_
             refine pure_ (i := 2) (N := some 43) #[true, true, true, false, false, false, false, false, false, false, false, false, false, false, false] rfl rfl (aT HT_.out) (fun _ _ _ h => h) (Or.inl ⟨rfl, rn⟩) ap ?_
             refine pure_ (i := 3) (N := some 44) #[true, true, true, true, false, false, false, false, false, false, false, false, false, false, false] rfl rfl (aT HT_.out) (fun _ _ _ h => h) (Or.inl ⟨rfl, rn⟩) ap ?_
             refine pure_ (i := 4) (N := some 45) #[true, true, true, true, true, false, false, false, false, false, false, false, false, false, false] rfl rfl (aT HT_.out) (fun _ _ _ h => h) (Or.inl ⟨rfl, rn⟩) ap ?_
             refine pure_ (i := 5) (N := some 46) #[true, true, true, true, true, true, false, false, false, false, false, false, false, false, false] rfl rfl (aT HT_.out) (fun _ _ _ h => h) (Or.inl ⟨rfl, rn⟩) ap ?_
             refine pure_ (i := 6) (N := some 47) #[true, true, true, true, true, true, true, false, false, false, false, false, false, false, false] rfl rfl (aT HT_.out) (fun _ _ _ h => h) (Or.inl ⟨rfl, rn⟩) ap ?_
             refine pure_ (i := 7) (N := some 48) #[true, true, true, true, true, true, true, true, false, false, false, false, false, false, false] rfl rfl (aT HT_.out) (fun _ _ _ h => h) (Or.inl ⟨rfl, rn⟩) ap ?_
             refine pure_ (i := 9) (N := some 50) #[true, true, true, true, true, true, true, true, false, true, false, false, false, false, false] rfl rfl (aT HT_.out) (fun _ _ _ h => h) (Or.inl ⟨rfl, rn⟩) ap ?_
             refine take_ (i := 8) (N := some 49) (v := ?_) (a' := ?_) #[true, true, true, true, true, true, true, true, true, true, false, false, false, false, false] rfl rfl (take_ofW HT_.out HW_.out (by kernel_rfl)) (fun _ _ _ h => h) (Or.inl ⟨by rfl, ?_⟩) hHeld ?_ ?_
             rotate_left
             ·rintro w' ⟨s0, s1, s2, s3, s4, s5⟩
              go_simp
              with_reducible rfl
             rotate_left
             ·exact ap
             refine take_ (i := 10) (N := some 51) (v := ?_) (a' := ?_) #[true, true, true, true, true, true, true, true, true, true, true, false, false, false, false] rfl rfl (take_ofW HT_.out HW_.out (by kernel_rfl)) (fun _ _ _ h => h) (Or.inl ⟨by rfl, ?_⟩) hHeld ?_ ?_
             rotate_left
             ·rintro w' ⟨s0, s1, s2, s3, s4, s5⟩
              go_simp
              with_reducible rfl
             rotate_left
             ·exact ap
             refine pure_ (i := 11) (N := some 52) #[true, true, true, true, true, true, true, true, true, true, true, true, false, false, false] rfl rfl (aT HT_.out) (fun _ _ _ h => h) (Or.inl ⟨rfl, rn⟩) ap ?_
             refine pure_ (i := 12) (N := some 53) #[true, true, true, true, true, true, true, true, true, true, true, true, true, false, false] rfl rfl (aT HT_.out) (fun _ _ _ h => h) (Or.inl ⟨rfl, rn⟩) ap ?_
             refine pure_ (i := 13) (N := some 54) #[true, true, true, true, true, true, true, true, true, true, true, true, true, true, false] rfl rfl (aT HT_.out) (fun _ _ _ h => h) (Or.inl ⟨rfl, rn⟩) ap ?_
             refine last_ (i := 14) (N := none) #[true, true, true, true, true, true, true, true, true, true, true, true, true, true, true] rfl rfl (one_of HT_.out (by kernel_rfl)) (by decide) (fun K hK => ?_)
             refine skip_ (w1 := ?_) (by rfl) rfl ?_ ?_
             rotate_left
             ·go_simp
              rfl
             refine hK.out _ _ ?_
             clear hK K
             refine done_ (done_of HT_.out (by kernel_rfl)) ?_
             try go_wp2
             have n0_ : Aside0 (Kd.R k25 25 (w23.setCell ⟨go18, ((ji14) : Int).toNat * 3 + 1, none⟩ (.int .i64 (wrap64 (((rd_T25 x3_1 (ji14)).f1) + ((rd_T25 l0 x4_1).f1))))) w.heap.size (fun k_ => k_ ≠ gb271) (.slice (some ⟨go18, 0, none⟩) x3_1.length co21) y274) := ⟨by refine kR ?_; exact HQ24.out⟩
             have n1_ : Aside0 ((w23.setCell ⟨go18, ((ji14) : Int).toNat * 3 + 1, none⟩ (.int .i64 (wrap64 (((rd_T25 x3_1 (ji14)).f1) + ((rd_T25 l0 x4_1).f1))))).heap[gb271]? = some (.cells #[.int .i64 ((rd_T25 l0 x4_1).f0), .int .i64 ((rd_T25 l0 x4_1).f1), .string ((rd_T25 l0 x4_1).f2)] 25 (0, 0))) := ⟨by refine bk ?_; refine blk_far ?_ (by have h_ := Kd.R_away HO_3.out (fun _ hk => hk); intro e_; exact h_ (by rw [e_]; rfl)) _; refine bk ?_; exact BK271.out⟩
             have n2_ : Aside0 (Below w.heap.size w (w23.setCell ⟨go18, ((ji14) : Int).toNat * 3 + 1, none⟩ (.int .i64 (wrap64 (((rd_T25 x3_1 (ji14)).f1) + ((rd_T25 l0 x4_1).f1)))))) := ⟨bl⟩
             (try clear HO_3)
             (try clear BK271)
             (try clear HB)
             generalize (w23.setCell ⟨go18, ((ji14) : Int).toNat * 3 + 1, none⟩ (.int .i64 (wrap64 (((rd_T25 x3_1 (ji14)).f1) + ((rd_T25 l0 x4_1).f1))))) = w25 at n0_ n1_ n2_ ⊢
             have HO_3 := n0_
             have BK271 := n1_
             have HB := n2_
             clear n0_ n1_ n2_
             have n0_ := am (Kd.R_drew HO_3.out)
             have n1_ := am (blk_drew BK271.out)
             have n2_ := am (below_drew1 HB.out)
             clear HO_3
             clear BK271
             clear HB
             have HO_3 := n0_
             have BK271 := n1_
             have HB := n2_
             clear n0_ n1_ n2_
             have p275 : 0 ≤ ((ji14) : Int) := of_decide_eq_true as0
             have q275 : (ji14) < (y274.length : Int) := (by have h_ : ((ji14) : Int) < ((x3_1.length : Int) : Int) := of_decide_eq_true as0; first | (have e_ := (Kd.R_reads' HO_3.out).1; omega) | simpa only [Ny274.out, List.length_set] using h_)
             have ql275 : (((ji14) : Int) < ((x3_1.length : Int) : Int)) = True := eq_true (of_decide_eq_true as0)
             obtain ⟨ad275, e275, hx275_0, hx275_1, hx275_2⟩ := at_T25 (Kd.R_reads' HO_3.out).2.2 (ji14) p275 q275
             obtain rfl : (⟨go18, 0, none⟩ : Addr) = ad275 := (by injection e275)
             (first | simp only [add_plain] at hx275_0 | simp only [add_at] at hx275_0 | simp only [Addr.add, Nat.zero_add] at hx275_0 | skip)
             (first | simp only [add_plain] at hx275_1 | simp only [add_at] at hx275_1 | simp only [Addr.add, Nat.zero_add] at hx275_1 | skip)
             (first | simp only [add_plain] at hx275_2 | simp only [add_at] at hx275_2 | simp only [Addr.add, Nat.zero_add] at hx275_2 | skip)
             replace p275 := eq_true p275
             replace q275 := eq_true q275
             have p20 : 0 ≤ ((ji14) : Int) := of_decide_eq_true as0
             have q20 : ((ji14) : Int) < ((x3_1.length : Int) : Int) := of_decide_eq_true as0
             obtain ⟨ce20, hcl20, hM20, hcc20, hfr20⟩ := Kd.R_elem HO_3.out z25 ((ji14) : Int) p20 q20
             obtain rfl := k25_openM hM20
             have hx20_0 : World.cell? _ ⟨go18, ((ji14) : Int).toNat * 3, none⟩ = some (.int .i64 ((rd_T25 y274 (ji14)).f0)) := hcc20 0 _ rfl
             have hx20_1 : World.cell? _ ⟨go18, ((ji14) : Int).toNat * 3 + 1, none⟩ = some (.int .i64 ((rd_T25 y274 (ji14)).f1)) := hcc20 1 _ rfl
             have hx20_2 : World.cell? _ ⟨go18, ((ji14) : Int).toNat * 3 + 2, none⟩ = some (.string ((rd_T25 y274 (ji14)).f2)) := hcc20 2 _ rfl
             have hf20_0 : World.frozen? _ ⟨go18, ((ji14) : Int).toNat * 3, none⟩ = false := hfr20 0
             have hf20_1 : World.frozen? _ ⟨go18, ((ji14) : Int).toNat * 3 + 1, none⟩ = false := hfr20 1
             have hf20_2 : World.frozen? _ ⟨go18, ((ji14) : Int).toNat * 3 + 2, none⟩ = false := hfr20 2
             clear hcl20 hcc20 hfr20 hM20
             replace p20 := eq_true p20
             replace q20 := eq_true q20
             obtain ⟨ce27, hcl27, hM27, hcc27, hfr27⟩ := Kd.R_elem HO_3.out z25 ((ji14) : Int) (of_decide_eq_true as0) (by have h_ : ((ji14) : Int) < ((x3_1.length : Int) : Int) := of_decide_eq_true as0; first | exact h_ | (have e_ := (Kd.R_reads' HO_3.out).1; omega) | simpa using h_)
             obtain rfl := k25_openM hM27
             have HP27 := (Kd.R_seg HO_3.out ((ji14) : Int) (of_decide_eq_true as0) (by have h_ : ((ji14) : Int) < ((x3_1.length : Int) : Int) := of_decide_eq_true as0; first | exact h_ | (have e_ := (Kd.R_reads' HO_3.out).1; omega) | simpa using h_) (seg := [.string (((rd_T25 y274 (ji14)).f2) ++ ((rd_T25 l0 x4_1).f2))]) (j := 2) hcl27 hcc27 (show 3 ≤ 3 from by decide) (x' := (⟨(rd_T25 y274 (ji14)).f0, (rd_T25 y274 (ji14)).f1, ((rd_T25 y274 (ji14)).f2) ++ ((rd_T25 l0 x4_1).f2)⟩ : S25)) (k25_mkM _ _ _ (⟨(rd_T25 y274 (ji14)).f0, (rd_T25 y274 (ji14)).f1, ((rd_T25 y274 (ji14)).f2) ++ ((rd_T25 l0 x4_1).f2)⟩ : S25) ) (fun _ hk => hk)).1
             rw [← Ny276.out] at HP27
             have HQ27 := am HP27
             clear hcl27 hcc27 hfr27 hM27 HP27
             refine start_ (n := 15) (S := fun w' => w'.cell? ⟨gb271, 0, none⟩ = some (.int .i64 ((rd_T25 l0 x4_1).f0)) ∧ w'.cell? ⟨gb271, 1, none⟩ = some (.int .i64 ((rd_T25 l0 x4_1).f1)) ∧ w'.cell? ⟨gb271, 2, none⟩ = some (.string ((rd_T25 l0 x4_1).f2)) ∧ w'.cell? ⟨go18, ((ji14)).toNat * 3, none⟩ = some (.int .i64 ((rd_T25 y274 (ji14)).f0)) ∧ w'.cell? ⟨go18, ((ji14)).toNat * 3 + 1, none⟩ = some (.int .i64 ((rd_T25 y274 (ji14)).f1)) ∧ w'.cell? ⟨go18, ((ji14)).toNat * 3 + 2, none⟩ = some (.string ((rd_T25 y274 (ji14)).f2))) (ds := [14]) #[false, false, false, false, false, false, false, false, false, false, false, false, false, false, false] (by kernel_rfl) rfl rfl ⟨(blk_cell BK271.out 0).trans rfl, (blk_cell BK271.out 1).trans rfl, (blk_cell BK271.out 2).trans rfl, hx275_0, hx275_1, hx275_2⟩ (fun hHeld => ?_); refine with_tabW epitomeref05_Of.tab10 epitomeref05_Of.bits10 (fun HT_ HW_ => ?_)
             generalize w25.drew = w26 at HO_3 BK271 HB HQ24 HQ27 hf20_0 hf20_1 hf20_2 hx20_0 hx20_1 hx20_2 hx275_0 hx275_1 hx275_2 hHeld ⊢
             refine pure_ (i := 0) (N := some 55) #[true, false, false, false, false, false, false, false, false, false, false, false, false, false, false] rfl rfl (aT HT_.out) (fun _ _ _ h => h) (Or.inl ⟨rfl, rn⟩) ap ?_
             refine pure_ (i := 1) (N := some 56) #[true, true, false, false, false, false, false, false, false, false, false, false, false, false, false] rfl rfl (aT HT_.out) (fun _ _ _ h => h) (Or.inl ⟨rfl, rn⟩) ap ?_
             refine pure_ (i := 2) (N := some 57) #[true, true, true, false, false, false, false, false, false, false, false, false, false, false, false] rfl rfl (aT HT_.out) (fun _ _ _ h => h) (Or.inl ⟨rfl, rn⟩) ap ?_
             refine pure_ (i := 3) (N := some 58) #[true, true, true, true, false, false, false, false, false, false, false, false, false, false, false] rfl rfl (aT HT_.out) (fun _ _ _ h => h) (Or.inl ⟨rfl, rn⟩) ap ?_
             refine pure_ (i := 4) (N := some 59) #[true, true, true, true, true, false, false, false, false, false, false, false, false, false, false] rfl rfl (aT HT_.out) (fun _ _ _ h => h) (Or.inl ⟨rfl, rn⟩) ap ?_
             refine pure_ (i := 5) (N := some 60) #[true, true, true, true, true, true, false, false, false, false, false, false, false, false, false] rfl rfl (aT HT_.out) (fun _ _ _ h => h) (Or.inl ⟨rfl, rn⟩) ap ?_
             refine pure_ (i := 6) (N := some 61) #[true, true, true, true, true, true, true, false, false, false, false, false, false, false, false] rfl rfl (aT HT_.out) (fun _ _ _ h => h) (Or.inl ⟨rfl, rn⟩) ap ?_
             refine pure_ (i := 7) (N := some 62) #[true, true, true, true, true, true, true, true, false, false, false, false, false, false, false] rfl rfl (aT HT_.out) (fun _ _ _ h => h) (Or.inl ⟨rfl, rn⟩) ap ?_
             refine pure_ (i := 9) (N := some 64) #[true, true, true, true, true, true, true, true, false, true, false, false, false, false, false] rfl rfl (aT HT_.out) (fun _ _ _ h => h) (Or.inl ⟨rfl, rn⟩) ap ?_
             refine take_ (i := 8) (N := some 63) (v := ?_) (a' := ?_) #[true, true, true, true, true, true, true, true, true, true, false, false, false, false, false] rfl rfl (take_ofW HT_.out HW_.out (by kernel_rfl)) (fun _ _ _ h => h) (Or.inl ⟨by rfl, ?_⟩) hHeld ?_ ?_
             rotate_left
             ·rintro w' ⟨s0, s1, s2, s3, s4, s5⟩
              go_simp
              with_reducible rfl
             rotate_left
             ·exact ap
             refine take_ (i := 10) (N := some 65) (v := ?_) (a' := ?_) #[true, true, true, true, true, true, true, true, true, true, true, false, false, false, false] rfl rfl (take_ofW HT_.out HW_.out (by kernel_rfl)) (fun _ _ _ h => h) (Or.inl ⟨by rfl, ?_⟩) hHeld ?_ ?_
             rotate_left
             ·rintro w' ⟨s0, s1, s2, s3, s4, s5⟩
              go_simp
              with_reducible rfl
             rotate_left
             ·exact ap
             refine pure_ (i := 11) (N := some 66) #[true, true, true, true, true, true, true, true, true, true, true, true, false, false, false] rfl rfl (aT HT_.out) (fun _ _ _ h => h) (Or.inl ⟨rfl, rn⟩) ap ?_
             refine pure_ (i := 12) (N := some 67) #[true, true, true, true, true, true, true, true, true, true, true, true, true, false, false] rfl rfl (aT HT_.out) (fun _ _ _ h => h) (Or.inl ⟨rfl, rn⟩) ap ?_
             refine pure_ (i := 13) (N := some 68) #[true, true, true, true, true, true, true, true, true, true, true, true, true, true, false] rfl rfl (aT HT_.out) (fun _ _ _ h => h) (Or.inl ⟨rfl, rn⟩) ap ?_
             refine last_ (i := 14) (N := none) #[true, true, true, true, true, true, true, true, true, true, true, true, true, true, true] rfl rfl (one_of HT_.out (by kernel_rfl)) (by decide) (fun K hK => ?_)
             refine skip_ (w1 := ?_) (by rfl) rfl ?_ ?_
             rotate_left
             ·go_simp
              rfl
             refine hK.out _ _ ?_
             clear hK K
             refine done_ (done_of HT_.out (by kernel_rfl)) ?_
             try go_wp2
             go_roundg kj5
             case measure => have := HK1.out; have := HJ5.out; omega
             case rel => exact ⟨(y276), (wrap64 (x4_1 + 1)), pj, H', ⟨by have := HK1.out; have := HJ5.out; omega⟩, ⟨by refine kR ?_; exact Kd.R_mono HQ27.out (fun _ hk => trivial)⟩, ⟨bl⟩⟩
            ·rw [if_neg c19] at H
             exact absurd H (by simp)
           ·rw [if_neg c17] at H
            have c17b0 : (((rd_T25 x3_1 (ji14)).f0) == ((rd_T25 l0 x4_1).f0)) = false := beq_eq_false_iff_ne.mpr c17
            have c17b1 : (((rd_T25 x3_1 (ji14)).f0) != ((rd_T25 l0 x4_1).f0)) = true := bne_iff_ne.mpr c17
            by_cases c28 : x3_1.length < 4398046511104
            ·rw [if_pos c28] at H
             have LMc28 := am c28
             clear c28
             obtain ⟨y277, hy277⟩ : ∃ y_ : List (S25), y_ = (x3_1 ++ [(⟨((rd_T25 l0 x4_1).f0), ((rd_T25 l0 x4_1).f1), ((rd_T25 l0 x4_1).f2)⟩ : S25)]) := ⟨_, rfl⟩
             replace H : (epitomeref05_Of.l0 kj5 l0 y277 (wrap64 (x4_1 + 1))) = some r := by first | (rw [hy277]; with_reducible exact H) | (have H2_ := (Option.bind_some _ _).symm.trans H; rw [hy277]; with_reducible exact H2_) | (have H2_ := (Option.bind_some _ _).symm.trans H; with_reducible exact H2_) | with_reducible exact H | (rw [hy277]; exact H) | exact H
             have Ny277 := am hy277
             clear hy277
             have H' := am H
             clear H
             obtain ⟨Ao29, co29, eo29⟩ := Kd.R_slice HO_3.out
             subst eo29
             try go_wp2
             have n0_ := am (Kd.R_drew HO_3.out)
             have n1_ := am (blk_drew BK271.out)
             have n2_ := am (below_drew1 HB.out)
             clear HO_3
             clear BK271
             clear HB
             have HO_3 := n0_
             have BK271 := n1_
             have HB := n2_
             clear n0_ n1_ n2_
             have p272 : 0 ≤ ((ji14) : Int) := of_decide_eq_true as0
             have q272 : (ji14) < (x3_1.length : Int) := of_decide_eq_true as0
             obtain ⟨ad272, e272, hx272_0, hx272_1, hx272_2⟩ := at_T25 (Kd.R_reads' HO_3.out).2.2 (ji14) p272 q272
             cases e272
             replace p272 := eq_true p272
             replace q272 := eq_true q272
             refine start_ (n := 13) (S := fun w' => w'.cell? ⟨gb271, 0, none⟩ = some (.int .i64 ((rd_T25 l0 x4_1).f0)) ∧ w'.cell? ⟨gb271, 1, none⟩ = some (.int .i64 ((rd_T25 l0 x4_1).f1)) ∧ w'.cell? ⟨gb271, 2, none⟩ = some (.string ((rd_T25 l0 x4_1).f2)) ∧ w'.cell? (ad272.add (((ji14)).toNat * 3)) = some (.int .i64 ((rd_T25 x3_1 (ji14)).f0)) ∧ w'.cell? ⟨(ad272.add (((ji14)).toNat * 3)).block, (ad272.add (((ji14)).toNat * 3)).off + 1, none⟩ = some (.int .i64 ((rd_T25 x3_1 (ji14)).f1)) ∧ w'.cell? ⟨(ad272.add (((ji14)).toNat * 3)).block, (ad272.add (((ji14)).toNat * 3)).off + 2, none⟩ = some (.string ((rd_T25 x3_1 (ji14)).f2))) (ds := []) #[false, false, false, false, false, false, false, false, false, false, false, false, false] (by kernel_rfl) rfl rfl ⟨(blk_cell BK271.out 0).trans rfl, (blk_cell BK271.out 1).trans rfl, (blk_cell BK271.out 2).trans rfl, hx272_0, hx272_1, hx272_2⟩ (fun hHeld => ?_); refine with_tabW epitomeref05_Of.tab8 epitomeref05_Of.bits8 (fun HT_ HW_ => ?_)
             generalize wc.drew = w30 at HO_3 BK271 HB hx272_0 hx272_1 hx272_2 hHeld ⊢
             refine pure_ (i := 0) (N := some 28) #[true, false, false, false, false, false, false, false, false, false, false, false, false] rfl rfl (aT HT_.out) (fun _ _ _ h => h) (Or.inl ⟨rfl, rn⟩) ap ?_
             refine pure_ (i := 1) (N := some 29) #[true, true, false, false, false, false, false, false, false, false, false, false, false] rfl rfl (aT HT_.out) (fun _ _ _ h => h) (Or.inl ⟨rfl, rn⟩) ap ?_
             refine pure_ (i := 2) (N := some 30) #[true, true, true, false, false, false, false, false, false, false, false, false, false] rfl rfl (aT HT_.out) (fun _ _ _ h => h) (Or.inl ⟨rfl, rn⟩) ap ?_
             refine pure_ (i := 3) (N := some 31) #[true, true, true, true, false, false, false, false, false, false, false, false, false] rfl rfl (aT HT_.out) (fun _ _ _ h => h) (Or.inl ⟨rfl, rn⟩) ap ?_
             refine pure_ (i := 4) (N := some 32) #[true, true, true, true, true, false, false, false, false, false, false, false, false] rfl rfl (aT HT_.out) (fun _ _ _ h => h) (Or.inl ⟨rfl, rn⟩) ap ?_
             refine pure_ (i := 5) (N := some 33) #[true, true, true, true, true, true, false, false, false, false, false, false, false] rfl rfl (aT HT_.out) (fun _ _ _ h => h) (Or.inl ⟨rfl, rn⟩) ap ?_
             refine pure_ (i := 6) (N := some 34) #[true, true, true, true, true, true, true, false, false, false, false, false, false] rfl rfl (aT HT_.out) (fun _ _ _ h => h) (Or.inl ⟨rfl, rn⟩) ap ?_
             refine pure_ (i := 7) (N := some 35) #[true, true, true, true, true, true, true, true, false, false, false, false, false] rfl rfl (aT HT_.out) (fun _ _ _ h => h) (Or.inl ⟨rfl, rn⟩) ap ?_
             refine pure_ (i := 9) (N := some 37) #[true, true, true, true, true, true, true, true, false, true, false, false, false] rfl rfl (aT HT_.out) (fun _ _ _ h => h) (Or.inl ⟨rfl, rn⟩) ap ?_
             refine take_ (i := 8) (N := some 36) (v := ?_) (a' := ?_) #[true, true, true, true, true, true, true, true, true, true, false, false, false] rfl rfl (take_ofW HT_.out HW_.out (by kernel_rfl)) (fun _ _ _ h => h) (Or.inl ⟨by rfl, ?_⟩) hHeld ?_ ?_
             rotate_left
             ·rintro w' ⟨s0, s1, s2, s3, s4, s5⟩
              go_simp
              with_reducible rfl
             rotate_left
             ·exact ap
             refine take_ (i := 10) (N := some 38) (v := ?_) (a' := ?_) #[true, true, true, true, true, true, true, true, true, true, true, false, false] rfl rfl (take_ofW HT_.out HW_.out (by kernel_rfl)) (fun _ _ _ h => h) (Or.inl ⟨by rfl, ?_⟩) hHeld ?_ ?_
             rotate_left
             ·rintro w' ⟨s0, s1, s2, s3, s4, s5⟩
              go_simp
              with_reducible rfl
             rotate_left
             ·exact ap
             refine pure_ (i := 11) (N := some 39) #[true, true, true, true, true, true, true, true, true, true, true, true, false] rfl rfl (aT HT_.out) (fun _ _ _ h => h) (Or.inl ⟨rfl, rn⟩) ap ?_
             refine pure_ (i := 12) (N := some 40) #[true, true, true, true, true, true, true, true, true, true, true, true, true] rfl rfl (aT HT_.out) (fun _ _ _ h => h) (Or.inl ⟨rfl, rn⟩) ap ?_
             refine done_ (done_of HT_.out (by kernel_rfl)) ?_
             have hcz31_0 : w30.cell? ⟨gb271, 0, none⟩ = some (.int .i64 ((rd_T25 l0 x4_1).f0)) := (blk_cell BK271.out 0).trans rfl
             have hcz31_1 : w30.cell? ⟨gb271, 1, none⟩ = some (.int .i64 ((rd_T25 l0 x4_1).f1)) := (blk_cell BK271.out 1).trans rfl
             have hcz31_2 : w30.cell? ⟨gb271, 2, none⟩ = some (.string ((rd_T25 l0 x4_1).f2)) := (blk_cell BK271.out 2).trans rfl
             have hfz31_0 := blk_frozen BK271.out 0
             have hfz31_1 := blk_frozen BK271.out 1
             have hfz31_2 := blk_frozen BK271.out 2
             try go_wp2_with (first | ((with_reducible refine gate_builtin (b := .append) (xs := #[.tmp 69, .tmp 71]) rfl ?_); at_builtin; refine Kd.R_append k25 (w0 := w) w.heap.size rfl (.tmp 69) (.tmp 71) 27 25 (.agg #[(.int .i64 0), (.int .i64 0), (.string ⟨#[]⟩)]) 32 rfl Tryd.underlying27 info25 rfl (by decide) (by omega) (.slice (some ad272) x3_1.length co29) x3_1 (⟨((rd_T25 l0 x4_1).f0), ((rd_T25 l0 x4_1).f1), ((rd_T25 l0 x4_1).f2)⟩ : S25) [.int .i64 ((rd_T25 l0 x4_1).f0), .int .i64 ((rd_T25 l0 x4_1).f1), .string ((rd_T25 l0 x4_1).f2)] (fun k_ => k_ ≠ gb271) (fun _ => False) rfl rfl ?aP (fun _ hk => hk.elim) ?aF ?aO ?aB ?aS ?aL ?_; (case aP => exact k25_mkM _ _ _ (⟨((rd_T25 l0 x4_1).f0), ((rd_T25 l0 x4_1).f1), ((rd_T25 l0 x4_1).f2)⟩ : S25)); (case aB => exact bl); (case aF => exact (fun k_ hk => Kd.freshB (g := gb271) (o := .cells #[.int .i64 ((rd_T25 l0 x4_1).f0), .int .i64 ((rd_T25 l0 x4_1).f1), .string ((rd_T25 l0 x4_1).f2)] 25 (0, 0)) (by refine bk ?_; exact BK271.out) k_ hk)); (case aO => exact (by refine kR ?_; exact HO_3.out)); (case aS => exact (below_size bl)); (case aL => have := LMc28.out; omega); intro v278 w32 ho hb hg hat; rw [← Ny277.out] at ho; have n0_ := am (blk_grown (g := gb271) (o := .cells #[.int .i64 ((rd_T25 l0 x4_1).f0), .int .i64 ((rd_T25 l0 x4_1).f1), .string ((rd_T25 l0 x4_1).f2)] 25 (0, 0)) (by refine bk ?_; exact BK271.out) hg (Kd.R_away HO_3.out (fun _ hk => hk))); have n1_ := am (hb); have n2_ := am (ho); clear BK271; clear HB; clear HO_3; have BK271 := n0_; have HB := n1_; have HO279 := n2_; clear n0_ n1_ n2_; clear ho hb hg hat))
             go_roundg kj5
             case measure => have := HK1.out; have := HJ5.out; omega
             case rel => exact ⟨(y277), (wrap64 (x4_1 + 1)), pj, H', ⟨by have := HK1.out; have := HJ5.out; omega⟩, ⟨by refine kR ?_; exact Kd.R_mono HO279.out (fun _ hk => trivial)⟩, ⟨bl⟩⟩
            ·rw [if_neg c28] at H
             exact absurd H (by simp)
          ·rw [if_neg c16] at H
           exact absurd H (by simp)
         ·rw [if_neg c15] at H
          exact absurd H (by simp)
        ·rw [if_neg c13] at H
         have c13b0 : decide (0 < (x3_1.length : Int)) = false := decide_eq_false c13
         have c13b1 : decide (0 < x3_1.length) = false := decide_eq_false (by omega)
         clear c13
         by_cases c33 : x3_1.length < 4398046511104
         ·rw [if_pos c33] at H
          have LMc33 := am c33
          clear c33
          obtain ⟨y280, hy280⟩ : ∃ y_ : List (S25), y_ = (x3_1 ++ [(⟨((rd_T25 l0 x4_1).f0), ((rd_T25 l0 x4_1).f1), ((rd_T25 l0 x4_1).f2)⟩ : S25)]) := ⟨_, rfl⟩
          replace H : (epitomeref05_Of.l0 kj5 l0 y280 (wrap64 (x4_1 + 1))) = some r := by first | (rw [hy280]; with_reducible exact H) | (have H2_ := (Option.bind_some _ _).symm.trans H; rw [hy280]; with_reducible exact H2_) | (have H2_ := (Option.bind_some _ _).symm.trans H; with_reducible exact H2_) | with_reducible exact H | (rw [hy280]; exact H) | exact H
          have Ny280 := am hy280
          clear hy280
          have H' := am H
          clear H
          obtain ⟨Ao34, co34, eo34⟩ := Kd.R_slice HO_3.out
          subst eo34
          try go_wp2
          have n0_ := am (Kd.R_drew HO_3.out)
          have n1_ := am (blk_drew BK271.out)
          have n2_ := am (below_drew1 HB.out)
          clear HO_3
          clear BK271
          clear HB
          have HO_3 := n0_
          have BK271 := n1_
          have HB := n2_
          clear n0_ n1_ n2_
          refine start_ (n := 13) (S := fun w' => True) (ds := []) #[false, false, false, false, false, false, false, false, false, false, false, false, false] (by kernel_rfl) rfl rfl trivial (fun hHeld => ?_); refine with_tabW epitomeref05_Of.tab8 epitomeref05_Of.bits8 (fun HT_ HW_ => ?_)
          generalize wc.drew = w35 at HO_3 BK271 HB hHeld ⊢
          refine pure_ (i := 0) (N := some 28) #[true, false, false, false, false, false, false, false, false, false, false, false, false] rfl rfl (aT HT_.out) (fun _ _ _ h => h) (Or.inl ⟨rfl, rn⟩) ap ?_
          refine pure_ (i := 1) (N := some 29) #[true, true, false, false, false, false, false, false, false, false, false, false, false] rfl rfl (aT HT_.out) (fun _ _ _ h => h) (Or.inl ⟨rfl, rn⟩) ap ?_
          refine pure_ (i := 2) (N := some 30) #[true, true, true, false, false, false, false, false, false, false, false, false, false] rfl rfl (aT HT_.out) (fun _ _ _ h => h) (Or.inl ⟨rfl, rn⟩) ap ?_
          refine pure_ (i := 3) (N := some 31) (v := undef) (a' := ?_) #[true, true, true, true, false, false, false, false, false, false, false, false, false] rfl rfl (aT HT_.out) (fun _ _ _ h => h) (Or.inr ⟨by rfl, rfl⟩) ?_ ?_
          rotate_left
          ·exact ap
          refine pure_ (i := 4) (N := some 32) (v := undef) (a' := ?_) #[true, true, true, true, true, false, false, false, false, false, false, false, false] rfl rfl (aT HT_.out) (fun _ _ _ h => h) (Or.inr ⟨by rfl, rfl⟩) ?_ ?_
          rotate_left
          ·exact ap
          refine pure_ (i := 5) (N := some 33) (v := undef) (a' := ?_) #[true, true, true, true, true, true, false, false, false, false, false, false, false] rfl rfl (aT HT_.out) (fun _ _ _ h => h) (Or.inr ⟨by rfl, rfl⟩) ?_ ?_
          rotate_left
          ·exact ap
          refine pure_ (i := 6) (N := some 34) (v := undef) (a' := ?_) #[true, true, true, true, true, true, true, false, false, false, false, false, false] rfl rfl (aT HT_.out) (fun _ _ _ h => h) (Or.inr ⟨by rfl, rfl⟩) ?_ ?_
          rotate_left
          ·exact ap
          refine pure_ (i := 7) (N := some 35) (v := undef) (a' := ?_) #[true, true, true, true, true, true, true, true, false, false, false, false, false] rfl rfl (aT HT_.out) (fun _ _ _ h => h) (Or.inr ⟨by rfl, rfl⟩) ?_ ?_
          rotate_left
          ·exact ap
          refine pure_ (i := 8) (N := some 36) (v := undef) (a' := ?_) #[true, true, true, true, true, true, true, true, true, false, false, false, false] rfl rfl (aT HT_.out) (fun _ _ _ h => h) (Or.inr ⟨by rfl, rfl⟩) ?_ ?_
          rotate_left
          ·exact ap
          refine pure_ (i := 9) (N := some 37) (v := undef) (a' := ?_) #[true, true, true, true, true, true, true, true, true, true, false, false, false] rfl rfl (aT HT_.out) (fun _ _ _ h => h) (Or.inr ⟨by rfl, rfl⟩) ?_ ?_
          rotate_left
          ·exact ap
          refine pure_ (i := 10) (N := some 38) (v := undef) (a' := ?_) #[true, true, true, true, true, true, true, true, true, true, true, false, false] rfl rfl (aT HT_.out) (fun _ _ _ h => h) (Or.inr ⟨by rfl, rfl⟩) ?_ ?_
          rotate_left
          ·exact ap
          refine pure_ (i := 11) (N := some 39) (v := undef) (a' := ?_) #[true, true, true, true, true, true, true, true, true, true, true, true, false] rfl rfl (aT HT_.out) (fun _ _ _ h => h) (Or.inr ⟨by rfl, rfl⟩) ?_ ?_
          rotate_left
          ·exact ap
          refine pure_ (i := 12) (N := some 40) #[true, true, true, true, true, true, true, true, true, true, true, true, true] rfl rfl (aT HT_.out) (fun _ _ _ h => h) (Or.inl ⟨rfl, rn⟩) ap ?_
          refine done_ (done_of HT_.out (by kernel_rfl)) ?_
          have hcz36_0 : w35.cell? ⟨gb271, 0, none⟩ = some (.int .i64 ((rd_T25 l0 x4_1).f0)) := (blk_cell BK271.out 0).trans rfl
          have hcz36_1 : w35.cell? ⟨gb271, 1, none⟩ = some (.int .i64 ((rd_T25 l0 x4_1).f1)) := (blk_cell BK271.out 1).trans rfl
          have hcz36_2 : w35.cell? ⟨gb271, 2, none⟩ = some (.string ((rd_T25 l0 x4_1).f2)) := (blk_cell BK271.out 2).trans rfl
          have hfz36_0 := blk_frozen BK271.out 0
          have hfz36_1 := blk_frozen BK271.out 1
          have hfz36_2 := blk_frozen BK271.out 2
          try go_wp2_with (first | ((with_reducible refine gate_builtin (b := .append) (xs := #[.tmp 69, .tmp 71]) rfl ?_); at_builtin; refine Kd.R_append k25 (w0 := w) w.heap.size rfl (.tmp 69) (.tmp 71) 27 25 (.agg #[(.int .i64 0), (.int .i64 0), (.string ⟨#[]⟩)]) 32 rfl Tryd.underlying27 info25 rfl (by decide) (by omega) (.slice Ao34 x3_1.length co34) x3_1 (⟨((rd_T25 l0 x4_1).f0), ((rd_T25 l0 x4_1).f1), ((rd_T25 l0 x4_1).f2)⟩ : S25) [.int .i64 ((rd_T25 l0 x4_1).f0), .int .i64 ((rd_T25 l0 x4_1).f1), .string ((rd_T25 l0 x4_1).f2)] (fun k_ => k_ ≠ gb271) (fun _ => False) rfl rfl ?aP (fun _ hk => hk.elim) ?aF ?aO ?aB ?aS ?aL ?_; (case aP => exact k25_mkM _ _ _ (⟨((rd_T25 l0 x4_1).f0), ((rd_T25 l0 x4_1).f1), ((rd_T25 l0 x4_1).f2)⟩ : S25)); (case aB => exact bl); (case aF => exact (fun k_ hk => Kd.freshB (g := gb271) (o := .cells #[.int .i64 ((rd_T25 l0 x4_1).f0), .int .i64 ((rd_T25 l0 x4_1).f1), .string ((rd_T25 l0 x4_1).f2)] 25 (0, 0)) (by refine bk ?_; exact BK271.out) k_ hk)); (case aO => exact (by refine kR ?_; exact HO_3.out)); (case aS => exact (below_size bl)); (case aL => have := LMc33.out; omega); intro v281 w37 ho hb hg hat; rw [← Ny280.out] at ho; have n0_ := am (blk_grown (g := gb271) (o := .cells #[.int .i64 ((rd_T25 l0 x4_1).f0), .int .i64 ((rd_T25 l0 x4_1).f1), .string ((rd_T25 l0 x4_1).f2)] 25 (0, 0)) (by refine bk ?_; exact BK271.out) hg (Kd.R_away HO_3.out (fun _ hk => hk))); have n1_ := am (hb); have n2_ := am (ho); clear BK271; clear HB; clear HO_3; have BK271 := n0_; have HB := n1_; have HO282 := n2_; clear n0_ n1_ n2_; clear ho hb hg hat))
          go_roundg kj5
          case measure => have := HK1.out; have := HJ5.out; omega
          case rel => exact ⟨(y280), (wrap64 (x4_1 + 1)), pj, H', ⟨by have := HK1.out; have := HJ5.out; omega⟩, ⟨by refine kR ?_; exact Kd.R_mono HO282.out (fun _ hk => trivial)⟩, ⟨bl⟩⟩
         ·rw [if_neg c33] at H
          exact absurd H (by simp)
    ·rw [if_neg c5] at H
     exact absurd H (by simp)
   ·rw [if_neg c4] at H
    have c4b0 : decide (x4_1 < (l0.length : Int)) = false := decide_eq_false c4
    clear c4
    obtain rfl := Option.some.inj H
    simp only [Option.some.injEq, Prod.mk.injEq] at H
    obtain ⟨rfl⟩ := H
    go_wp2
    go_ret
    exact ⟨_, by first | rfl | (simp [errW_none, errW_some] <;> rfl) | (simp [*, errW_none, errW_some] <;> rfl), by refine kR ?_; exact HO_3.out, bl⟩
def epitomeref16_Fit.l0 : Nat → List (List (S25)) → Int → ByteArray → List Int → List (List (S25)) → Option (ByteArray × List Int × (List (List (S25))))
 | 0, _, _, _, _, _ => none
 | k + 1, x6, x7, x289000, x289001, x289002 => if x7 < (x6.length : Int) then (if x289001.length < 17592186044416 then (if 0 ≤ x7 then ((epitomeref05_Of.f k (rd_L3 x6 x7)).bind fun t297 => (if x289002.length < 5864062014805 then (epitomeref16_Fit.l0 k x6 (wrap64 (x7 + 1)) x289000 (x289001 ++ [wrap64 (x7 + 1)]) (x289002 ++ [t297])) else (none))) else (none)) else (none)) else (some (x289000, x289001, x289002))
def epitomeref16_Fit.f (k : Nat) (a0 : ByteArray) (l1 : List (List (S25))) : Option (ByteArray × List Int × (List (List (S25)))) := if 0 ≤ (mn (a0.size : Int) 20) then (if (mn (a0.size : Int) 20) ≤ (a0.size : Int) then ((epitomeref01_Fit.f k (a0.extract 0 ((mn (a0.size : Int) 20) : Int).toNat)).bind fun t284 => ((epitomeref01_Count.f k t284).bind fun t289 => ((epitomeref04_Chain.f k l1 t289).bind fun t290 => (epitomeref16_Fit.l0 k t290 0 t284 (([0] : List Int)) ([] : List (List (S25))))))) else (none)) else (none)
def epitomeref16_Fit.T7 : Bool × List (List Nat × List Nat) := (true, [([], []), ([0], [0]), ([], []), ([], []), ([2, 3], [2, 3]), ([4], [4]), ([5], [5]), ([6], [6]), ([1, 7, 6], [1, 7]), ([0, 1, 2, 3, 4, 5, 6, 7, 8], []), ([9, 8, 8, 0, 1, 2, 3, 4, 5, 6, 7, 8], [8, 9])])
def epitomeref16_Fit.B7 : List Nat := [0, 1, 0, 0, 12, 28, 60, 124, 255, 511, 1023]
theorem epitomeref16_Fit.tab7 : rtab .any (opsOf Tryd.f16 7) = epitomeref16_Fit.T7 := by kernel_rfl
theorem epitomeref16_Fit.bits7 : waitsOk epitomeref16_Fit.T7.2 epitomeref16_Fit.B7 = true := by kernel_rfl
set_option maxHeartbeats 8000000 in
set_option maxRecDepth 100000 in
theorem epitomeref16_Fit.calls (k : Nat) (a0 : ByteArray) (A1 : Option Addr) (c1 : Nat) (l1 : List (List (S25))) (r1 : ByteArray) (r2 : List Int) (r3 : List (List (S25))) (w : World) (hr1 : Kd.C (Kd.slice 25 k25) w A1 l1.length l1) (hc1 : l1.length ≤ c1) (h : epitomeref16_Fit.f k a0 l1 = some (r1, r2, r3)) :
  Calls Tryd.prog 16 #[.string a0, .slice A1 l1.length c1] w fun e w' => ∃ v1_ v2_ : Value, e = .returned (.agg #[.string r1, v1_, v2_]) ∧ Kd.R (Kd.int .i64) 3 w' w.heap.size (fun _ => True) v1_ r2 ∧ Kd.S (Kd.slice 25 k25) 27 w' w.heap.size (fun _ => True) v2_ r3 ∧ Below w.heap.size w w' := by
 have hu42 := Tryd.underlying42
 have HR1 := am hr1
 have HC1 := am hc1
 clear hr1 hc1
 have HB := am (Below.refl w.heap.size w)
 have H : (if 0 ≤ (mn (a0.size : Int) 20) then (if (mn (a0.size : Int) 20) ≤ (a0.size : Int) then ((epitomeref01_Fit.f k (a0.extract 0 ((mn (a0.size : Int) 20) : Int).toNat)).bind fun t284 => ((epitomeref01_Count.f k t284).bind fun t289 => ((epitomeref04_Chain.f k l1 t289).bind fun t290 => (epitomeref16_Fit.l0 k t290 0 t284 (([0] : List Int)) ([] : List (List (S25))))))) else (none)) else (none)) = some (r1, r2, r3) := h
 clear h
 obtain ⟨ji3, hji3⟩ : ∃ j_ : Int, (mn (a0.size : Int) 20) = j_ := ⟨_, rfl⟩
 replace H : (if 0 ≤ (ji3) then (if (ji3) ≤ (a0.size : Int) then ((epitomeref01_Fit.f k (a0.extract 0 ((ji3) : Int).toNat)).bind fun t284 => ((epitomeref01_Count.f k t284).bind fun t289 => ((epitomeref04_Chain.f k l1 t289).bind fun t290 => (epitomeref16_Fit.l0 k t290 0 t284 (([0] : List Int)) ([] : List (List (S25))))))) else (none)) else (none)) = some (r1, r2, r3) := by first | (rw [hji3] at H; exact H) | (simp only [hji3] at H ⊢; exact H)
 (try (have hji3h : ji3 ≤ 20 := by (rw [← hji3]; unfold mn; (repeat' split) <;> omega)))
 (try (have hji3g : ji3 ≤ 64 := by omega))
 (try (have hji3l : 0 ≤ ji3 := by (rw [← hji3]; unfold mn; (repeat' split) <;> omega)))
 (try (have hji3m : 0 ≤ ji3 := by omega))
 have hji3_ : (if 20 < (a0.size : Int) then 20 else (a0.size : Int)) = ji3 := hji3
 by_cases c4 : 0 ≤ (ji3)
 ·rw [if_pos c4] at H
  have c4b0 := eq_true c4
  have c4b1 : decide (0 ≤ (ji3)) = true := decide_eq_true c4
  clear c4
  by_cases c5 : (ji3) ≤ (a0.size : Int)
  ·rw [if_pos c5] at H
   have c5b0 := eq_true c5
   have c5b1 : decide ((ji3) ≤ (a0.size : Int)) = true := decide_eq_true c5
   clear c5
   replace H := Option.bind_eq_some_iff.mp H
   obtain ⟨t284, A60, H⟩ := H
   replace H : ((epitomeref01_Count.f k t284).bind fun t289 => ((epitomeref04_Chain.f k l1 t289).bind fun t290 => (epitomeref16_Fit.l0 k t290 0 t284 (([0] : List Int)) ([] : List (List (S25)))))) = some (r1, r2, r3) := H
   have A6 := am A60
   clear A60
   obtain ⟨y285, hy285⟩ : ∃ y_ : List Int, y_ = (([0] : List Int)) := ⟨_, rfl⟩
   replace H : ((epitomeref01_Count.f k t284).bind fun t289 => ((epitomeref04_Chain.f k l1 t289).bind fun t290 => (epitomeref16_Fit.l0 k t290 0 t284 y285 ([] : List (List (S25)))))) = some (r1, r2, r3) := by first | (rw [hy285]; with_reducible exact H) | (have H2_ := (Option.bind_some _ _).symm.trans H; rw [hy285]; with_reducible exact H2_) | (have H2_ := (Option.bind_some _ _).symm.trans H; with_reducible exact H2_) | with_reducible exact H | (rw [hy285]; exact H) | exact H
   have Ny285 := am hy285
   clear hy285
   replace H := Option.bind_eq_some_iff.mp H
   obtain ⟨t289, A70, H⟩ := H
   replace H : ((epitomeref04_Chain.f k l1 t289).bind fun t290 => (epitomeref16_Fit.l0 k t290 0 t284 y285 ([] : List (List (S25))))) = some (r1, r2, r3) := H
   have A7 := am A70
   clear A70
   replace H := Option.bind_eq_some_iff.mp H
   obtain ⟨t290, A80, H⟩ := H
   replace H : (epitomeref16_Fit.l0 k t290 0 t284 y285 ([] : List (List (S25)))) = some (r1, r2, r3) := H
   have A8 := am A80
   clear A80
   have H' := am H
   clear H
   go_enter Tryd.func16, Tryd.ntmps16
   go_wp2_with (first | ((with_reducible refine gate_dst (N := 4) rfl ?_); refine box_event ?hg (N := 4) ?hd (cs := #[.string (⟨#[]⟩ : ByteArray), .slice none 0 0, .slice none 0 0]) (t := 42) ?hr ?_; (case hd => rfl); (case hg => rfl); (case hr => first | (go_simp; done) | (go_simp; rfl)); intro gb283 hg w9 hbox hb; have n0_ := am (below_step bl hb); have n1_ := am (hbox); have n2_ := am ((gs : w.heap.size ≤ gb283)); have n3_ := am ((gs : w.heap.size ≤ gb283)); clear HB; have HB := n0_; have BK283 := n1_; have GW283 := n2_; have GE283 := n3_; clear n0_ n1_ n2_ n3_; clear hb hbox hg) | ((with_reducible refine gate_callee (f := 9) rfl ?_); refine goesL_ (some 13) rfl rfl Tryd.func9 (by kernel_rfl) rfl #[.string (a0.extract 0 ((ji3) : Int).toNat)] rfl (by (try simp only [List.map_toArray, List.map_cons, List.map_nil]); first | done | (simp only [hji3]; rfl) | rfl | (simp only [List.length_drop, List.length_take]; rfl)) ?_; (with_reducible refine (epitomeref01_Fit.calls k (a0.extract 0 ((ji3) : Int).toNat) t284 _ A6.out).mono ?_); rintro e w10 ⟨rfl, hb⟩; refine ⟨_, rfl, ?_⟩; have n0_ := am (blk_below (g := gb283) (o := .cells #[.string (⟨#[]⟩ : ByteArray), .slice none 0 0, .slice none 0 0] 42 (0, 0)) (by refine bk ?_; exact BK283.out) hb); have n1_ := am (below_step bl hb); clear BK283; clear HB; have BK283 := n0_; have HB := n1_; clear n0_ n1_; (try clear hb); (try clear hb2); (try clear hk); (try clear hi)) | ((with_reducible refine gate_dst (N := 14) rfl ?_); refine Kd.R_lit (Kd.int .i64) _ 3 ?hg (N := 14) ?hd (xs := ([0] : List Int)) (inner := [.int .i64 0]) (ok := fun _ => True) (okp := fun _ => True) ?hr ?hp (fun _ hk => hk) trivial (Below.refl _ _) (Nat.le_refl _) (by simp) ?_; (case hd => rfl); (case hg => rfl); (case hr => first | (go_simp; done) | (go_simp; rfl)); (case hp => exact (Reps.one (show Kd.M (Kd.int .i64) _ _ _ 0 [.int .i64 0] from rfl) (Reps.none _ _))); intro v286 w11 ho12 hb hg_ hnew_; clear hg_ hnew_; (first | rw [← Ny285.out] at ho12 | (simp only [Int.reduceToNat] at ho12; rw [← Ny285.out] at ho12)); have n0_ := am (Kd.R_lower ho12 (below_size bl)); have n1_ := am (blk_below (g := gb283) (o := .cells #[.string (⟨#[]⟩ : ByteArray), .slice none 0 0, .slice none 0 0] 42 (0, 0)) (by refine bk ?_; exact BK283.out) hb); have n2_ := am (below_step bl hb); clear BK283; clear HB; have HO287 := n0_; have BK283 := n1_; have HB := n2_; clear n0_ n1_ n2_; clear hb ho12; obtain ⟨Ao13, co13, eo13⟩ := Kd.R_slice HO287.out; subst eo13) | ((with_reducible refine gate_dst (N := 5) rfl ?_); refine box_event ?hg (N := 5) ?hd (cs := #[.string (⟨#[]⟩ : ByteArray), .slice none 0 0, .slice none 0 0]) (t := 42) ?hr ?_; (case hd => rfl); (case hg => rfl); (case hr => first | (go_simp; done) | (go_simp; rfl)); intro gb288 hg w14 hbox hb; have n0_ := am (Kd.R_below (by refine kR ?_; exact HO287.out) hb); have n1_ := am (blk_below (g := gb283) (o := .cells #[.string (⟨#[]⟩ : ByteArray), .slice none 0 0, .slice none 0 0] 42 (0, 0)) (by refine bk ?_; exact BK283.out) hb); have n2_ := am (below_step bl hb); have n3_ := am (hbox); have n4_ := am ((gs : w.heap.size ≤ gb288)); have n5_ := am ((gs : w.heap.size ≤ gb288)); have n6_ := am ((by rw [hg]; exact Nat.ne_of_lt (blk_lt (g := gb283) (o := .cells #[.string (⟨#[]⟩ : ByteArray), .slice none 0 0, .slice none 0 0] 42 (0, 0)) (by refine bk ?_; exact BK283.out)) : gb283 ≠ gb288)); have n7_ := am ((by rw [hg]; exact Nat.ne_of_gt (blk_lt (g := gb283) (o := .cells #[.string (⟨#[]⟩ : ByteArray), .slice none 0 0, .slice none 0 0] 42 (0, 0)) (by refine bk ?_; exact BK283.out)) : gb288 ≠ gb283)); clear HO287; clear BK283; clear HB; have HO287 := n0_; have BK283 := n1_; have HB := n2_; have BK288 := n3_; have GW288 := n4_; have GE288 := n5_; have NB283_288 := n6_; have NB288_283 := n7_; clear n0_ n1_ n2_ n3_ n4_ n5_ n6_ n7_; clear hb hbox hg; have hnb15 := NB288_283.out; have hnc15 := NB283_288.out; have hcz16_0 : w14.cell? ⟨gb288, 0, none⟩ = some (.string (⟨#[]⟩ : ByteArray)) := (blk_cell BK288.out 0).trans rfl; have hcz16_1 : w14.cell? ⟨gb288, 1, none⟩ = some (.slice none 0 0) := (blk_cell BK288.out 1).trans rfl; have hcz16_2 : w14.cell? ⟨gb288, 2, none⟩ = some (.slice none 0 0) := (blk_cell BK288.out 2).trans rfl; have hfz16_0 := blk_frozen BK288.out 0; have hfz16_1 := blk_frozen BK288.out 1; have hfz16_2 := blk_frozen BK288.out 2) | ((with_reducible refine gate_callee (f := 52) rfl ?_); refine goesL_ (some 19) rfl rfl Tryd.func52 (by kernel_rfl) rfl #[.string t284] rfl ar ?_; (with_reducible refine (epitomeref01_Count.calls k t284 t289 _ A7.out).mono ?_); rintro e w17 ⟨rfl, hb⟩; refine ⟨_, rfl, ?_⟩; have n0_ := am (Kd.R_below (by refine kR ?_; exact (Kd.R_mono (Kd.R_far (p := ⟨gb288, 2, none⟩) (Kd.R_far (p := ⟨gb288, 1, none⟩) (Kd.R_far (p := ⟨gb288, 0, none⟩) (Kd.R_types HO287.out BK288.out (by decide)) (fun _ hk => hk.2) (.string t284)) (fun _ hk => hk.2) (.slice Ao13 y285.length co13)) (fun _ hk => hk.2) (.slice none 0 0)) (fun _ h_ => h_.1))) hb); have n1_ := am (blk_below (g := gb283) (o := .cells #[.string (⟨#[]⟩ : ByteArray), .slice none 0 0, .slice none 0 0] 42 (0, 0)) (by refine bk ?_; refine blk_far ?_ NB283_288.out _; refine bk ?_; refine blk_far ?_ NB283_288.out _; refine bk ?_; refine blk_far ?_ NB283_288.out _; refine bk ?_; exact BK283.out) hb); have n2_ := am (blk_below (g := gb288) (o := .cells #[.string t284, .slice Ao13 y285.length co13, .slice none 0 0] 42 (0, 0)) (by refine bk ?_; refine blk_put (cs := #[.string t284, .slice Ao13 y285.length co13, .slice none 0 0]) ?_ 2 _ rfl; refine bk ?_; refine blk_put (cs := #[.string t284, .slice none 0 0, .slice none 0 0]) ?_ 1 _ rfl; refine bk ?_; refine blk_put (cs := #[.string (⟨#[]⟩ : ByteArray), .slice none 0 0, .slice none 0 0]) ?_ 0 _ rfl; refine bk ?_; exact BK288.out) hb); have n3_ := am (below_step bl hb); clear HO287; clear BK283; clear BK288; clear HB; have HO287 := n0_; have BK283 := n1_; have BK288 := n2_; have HB := n3_; clear n0_ n1_ n2_ n3_; (try clear hb); (try clear hb2); (try clear hk); (try clear hi)) | ((with_reducible refine gate_callee (f := 51) rfl ?_); refine goesL_ (some 20) rfl rfl Tryd.func51 (by kernel_rfl) rfl #[.slice A1 l1.length c1, .int .i64 t289] rfl ar ?_; (with_reducible refine (epitomeref04_Chain.calls k _ _ l1 t289 t290 _ ?side1 ?side2 A8.out).mono ?_); (case side1 => repeat (first | exact (Kd.C_below HR1.out HB.out) | (with_reducible refine Kd.C_alloc ?_ _) | (with_reducible refine Kd.C_drewN ?_ _) | (with_reducible refine Kd.C_drew ?_))); (case side2 => exact HC1.out); rintro e w18 ⟨v291, rfl, ho0, hb⟩; refine ⟨_, rfl, ?_⟩; have n0_ := am (Kd.R_below (by refine kR ?_; exact HO287.out) hb); have n1_ := am (Kd.S_lower ho0 (below_size bl)); have n2_ := am (blk_below (g := gb283) (o := .cells #[.string (⟨#[]⟩ : ByteArray), .slice none 0 0, .slice none 0 0] 42 (0, 0)) (by refine bk ?_; exact BK283.out) hb); have n3_ := am (blk_below (g := gb288) (o := .cells #[.string t284, .slice Ao13 y285.length co13, .slice none 0 0] 42 (0, 0)) (by refine bk ?_; exact BK288.out) hb); have n4_ := am (below_step bl hb); clear HO287; clear BK283; clear BK288; clear HB; have HO287 := n0_; have HO292 := n1_; have BK283 := n2_; have BK288 := n3_; have HB := n4_; clear n0_ n1_ n2_ n3_ n4_; (try clear hb); (try clear hb2); (try clear hk); (try clear hi); (try clear ho0)))
   go_loopg [7] k (fun kq v7 w' => ∃ (x7_1 : Int) (x289001_1 : List Int) (x289002_1 : List (List (S25))) (u289001 : Value) (u289002 : Value), v7 = .int .i64 x7_1 ∧ Aside0 (epitomeref16_Fit.l0 kq t290 x7_1 t284 x289001_1 x289002_1 = some (r1, r2, r3)) ∧ Aside0 (kq ≤ k) ∧ Aside0 (Kd.S (Kd.slice 25 k25) 27 w' w.heap.size (fun k_ => some k_ ≠ (u289002 : Value).ownBlock) v291 t290) ∧ Aside0 (Kd.R (Kd.int .i64) 3 w' w.heap.size (fun _ => True) u289001 x289001_1) ∧ Aside0 (Kd.S (Kd.slice 25 k25) 27 w' w.heap.size (fun k_ => some k_ ≠ (v291 : Value).ownBlock) u289002 x289002_1) ∧ Aside0 (w'.heap[gb283]? = some (.cells #[.string (⟨#[]⟩ : ByteArray), (.slice none 0 0), (.slice none 0 0)] 42 (0, 0))) ∧ Aside0 (w'.heap[gb288]? = some (.cells #[.string t284, u289001, u289002] 42 (0, 0))) ∧ Aside0 (Below w.heap.size w w'))
   case atStart => exact ⟨(0), (y285), (([] : List (List (S25)))), (.slice Ao13 y285.length co13), (.slice none 0 0), pj, H', ⟨Nat.le_refl _⟩, ⟨by refine kS ?_; exact Kd.S_mono HO292.out (fun _ hk => (by simp [Value.ownBlock]))⟩, ⟨by refine kR ?_; exact HO287.out⟩, ⟨by first | exact Kd.S_nil _ _ _ _ _ | exact Kd.N_nil _ _ _ _ _ | exact Kd.V_nil _ _ _ _ _ | exact Kd.Q_nil _ _ _ _ _ | exact Kd.R_nil _ _ _ _ _⟩, ⟨by refine bk ?_; exact BK283.out⟩, ⟨by refine bk ?_; exact BK288.out⟩, ⟨bl⟩⟩
   case round =>
    clear H'
    try clear c1
    try clear p2
    try clear c4
    try clear c4b0
    try clear c4b1
    try clear c5
    try clear c5b0
    try clear c5b1
    try clear c9
    try clear c15
    try clear c16
    try clear hcz16_0
    try clear hcz16_1
    try clear hcz16_2
    try clear hfz16_0
    try clear hfz16_1
    try clear hfz16_2
    obtain ⟨x7_1, x289001_1, x289002_1, u289001, u289002, rfl, HA, HK1, HO_6, HO_289001, HO_289002, BK283, BK288, HB⟩ := hrel
    cases gk with
    | zero => exact absurd HA.out (by simp [epitomeref16_Fit.l0])
    | succ k1 =>
     have H := HA.out
     clear HA
     simp only [epitomeref16_Fit.l0] at H
     by_cases c19 : x7_1 < (t290.length : Int)
     ·rw [if_pos c19] at H
      have c19b0 : decide (x7_1 < (t290.length : Int)) = true := decide_eq_true c19
      clear c19
      by_cases c20 : x289001_1.length < 17592186044416
      ·rw [if_pos c20] at H
       have LMc20 := am c20
       clear c20
       obtain ⟨y293, hy293⟩ : ∃ y_ : List Int, y_ = (x289001_1 ++ [wrap64 (x7_1 + 1)]) := ⟨_, rfl⟩
       replace H : (if 0 ≤ x7_1 then ((epitomeref05_Of.f k1 (rd_L3 t290 x7_1)).bind fun t297 => (if x289002_1.length < 5864062014805 then (epitomeref16_Fit.l0 k1 t290 (wrap64 (x7_1 + 1)) t284 y293 (x289002_1 ++ [t297])) else (none))) else (none)) = some (r1, r2, r3) := by first | (rw [hy293]; with_reducible exact H) | (have H2_ := (Option.bind_some _ _).symm.trans H; rw [hy293]; with_reducible exact H2_) | (have H2_ := (Option.bind_some _ _).symm.trans H; with_reducible exact H2_) | with_reducible exact H | (rw [hy293]; exact H) | exact H
       have Ny293 := am hy293
       clear hy293
       by_cases c21 : 0 ≤ x7_1
       ·rw [if_pos c21] at H
        have c21b0 : decide (0 ≤ x7_1) = true := decide_eq_true c21
        clear c21
        replace H := Option.bind_eq_some_iff.mp H
        obtain ⟨t297, A220, H⟩ := H
        replace H : (if x289002_1.length < 5864062014805 then (epitomeref16_Fit.l0 k1 t290 (wrap64 (x7_1 + 1)) t284 y293 (x289002_1 ++ [t297])) else (none)) = some (r1, r2, r3) := H
        have A22 := am A220
        clear A220
        by_cases c23 : x289002_1.length < 5864062014805
        ·rw [if_pos c23] at H
         have LMc23 := am c23
         clear c23
         obtain ⟨y300, hy300⟩ : ∃ y_ : List (List (S25)), y_ = (x289002_1 ++ [t297]) := ⟨_, rfl⟩
         replace H : (epitomeref16_Fit.l0 k1 t290 (wrap64 (x7_1 + 1)) t284 y293 y300) = some (r1, r2, r3) := by first | (rw [hy300]; with_reducible exact H) | (have H2_ := (Option.bind_some _ _).symm.trans H; rw [hy300]; with_reducible exact H2_) | (have H2_ := (Option.bind_some _ _).symm.trans H; with_reducible exact H2_) | with_reducible exact H | (rw [hy300]; exact H) | exact H
         have Ny300 := am hy300
         clear hy300
         have H' := am H
         clear H
         obtain ⟨Ao24, co24, eo24⟩ := Kd.S_slice HO_6.out
         subst eo24
         have hnb25 := NB288_283.out
         have hnc25 := NB283_288.out
         have hcz26_0 : wr.cell? ⟨gb288, 0, none⟩ = some (.string t284) := (blk_cell BK288.out 0).trans rfl
         have hcz26_1 : wr.cell? ⟨gb288, 1, none⟩ = some (u289001) := (blk_cell BK288.out 1).trans rfl
         have hcz26_2 : wr.cell? ⟨gb288, 2, none⟩ = some (u289002) := (blk_cell BK288.out 2).trans rfl
         have hfz26_0 := blk_frozen BK288.out 0
         have hfz26_1 := blk_frozen BK288.out 1
         have hfz26_2 := blk_frozen BK288.out 2
         try go_wp2_with (first | ((with_reducible refine gate_builtin (b := .append) (xs := #[.tmp 28, .tmp 31]) rfl ?_); at_builtin; refine Kd.R_append (Kd.int .i64) (w0 := w) w.heap.size rfl (.tmp 28) (.tmp 31) 38 3 (.int .i64 0) 8 rfl Tryd.underlying38 info3 rfl (by decide) (by omega) u289001 x289001_1 (wrap64 (x7_1 + 1)) [.int .i64 (wrap64 (x7_1 + 1))] (fun _ => True) (fun _ => False) rfl rfl ?aP (fun _ hk => hk.elim) ?aF ?aO ?aB ?aS ?aL ?_; (case aP => exact rfl); (case aB => exact bl); (case aF => exact (fun _ _ => trivial)); (case aO => exact (by refine kR ?_; exact HO_289001.out)); (case aS => exact (below_size bl)); (case aL => have := LMc20.out; omega); intro v294 w27 ho hb hg hat; rw [← Ny293.out] at ho; have n0_ := am (Kd.S_over' (by refine kS ?_; exact HO_6.out) (Kd.R_typed (by refine kR ?_; exact HO_289001.out)) (by decide) hg); have n1_ := am (Kd.S_over' (by refine kS ?_; exact HO_289002.out) (Kd.R_typed (by refine kR ?_; exact HO_289001.out)) (by decide) hg); have n2_ := am (blk_grown (g := gb283) (o := .cells #[.string (⟨#[]⟩ : ByteArray), .slice none 0 0, .slice none 0 0] 42 (0, 0)) (by refine bk ?_; exact BK283.out) hg (Kd.R_ne HO_289001.out BK283.out (by decide))); have n3_ := am (blk_grown (g := gb288) (o := .cells #[.string t284, u289001, u289002] 42 (0, 0)) (by refine bk ?_; exact BK288.out) hg (Kd.R_ne HO_289001.out BK288.out (by decide))); have n4_ := am (hb); have n5_ := am (ho); clear HO_6; clear HO_289002; clear BK283; clear BK288; clear HB; clear HO_289001; have HO_6 := n0_; have HO_289002 := n1_; have BK283 := n2_; have BK288 := n3_; have HB := n4_; have HO295 := n5_; clear n0_ n1_ n2_ n3_ n4_ n5_; clear ho hb hg hat; obtain ⟨Ao28, co28, eo28⟩ := Kd.R_slice HO295.out; subst eo28; have hcz29_0 : w27.cell? ⟨gb288, 0, none⟩ = some (.string t284) := (blk_cell BK288.out 0).trans rfl; have hcz29_1 : w27.cell? ⟨gb288, 1, none⟩ = some (u289001) := (blk_cell BK288.out 1).trans rfl; have hcz29_2 : w27.cell? ⟨gb288, 2, none⟩ = some (u289002) := (blk_cell BK288.out 2).trans rfl; have hfz29_0 := blk_frozen BK288.out 0; have hfz29_1 := blk_frozen BK288.out 1; have hfz29_2 := blk_frozen BK288.out 2))
         have n0_ : Aside0 (Kd.S (Kd.slice 25 k25) 27 (w27.setCell ⟨gb288, 1, none⟩ (.slice Ao28 y293.length co28)) w.heap.size (fun k_ => some k_ ≠ (u289002 : Value).ownBlock) (.slice Ao24 t290.length co24) t290) := ⟨by refine kS ?_; exact Kd.S_mono (Kd.S_far (p := ⟨gb288, 1, none⟩) (Kd.S_types HO_6.out BK288.out (by decide)) (fun _ hk => hk.2) (.slice Ao28 y293.length co28)) (fun _ hk => hk.1)⟩
         have n1_ : Aside0 (Kd.S (Kd.slice 25 k25) 27 (w27.setCell ⟨gb288, 1, none⟩ (.slice Ao28 y293.length co28)) w.heap.size (fun k_ => some k_ ≠ (.slice Ao24 t290.length co24 : Value).ownBlock) u289002 x289002_1) := ⟨by refine kS ?_; exact Kd.S_mono (Kd.S_far (p := ⟨gb288, 1, none⟩) (Kd.S_types HO_289002.out BK288.out (by decide)) (fun _ hk => hk.2) (.slice Ao28 y293.length co28)) (fun _ hk => hk.1)⟩
         have n2_ : Aside0 (Kd.R (Kd.int .i64) 3 (w27.setCell ⟨gb288, 1, none⟩ (.slice Ao28 y293.length co28)) w.heap.size (fun _ => True) (.slice Ao28 y293.length co28) y293) := ⟨by refine kR ?_; exact Kd.R_mono (Kd.R_far (p := ⟨gb288, 1, none⟩) (Kd.R_types HO295.out BK288.out (by decide)) (fun _ hk => hk.2) (.slice Ao28 y293.length co28)) (fun _ hk => trivial)⟩
         have n3_ : Aside0 ((w27.setCell ⟨gb288, 1, none⟩ (.slice Ao28 y293.length co28)).heap[gb283]? = some (.cells #[.string (⟨#[]⟩ : ByteArray), .slice none 0 0, .slice none 0 0] 42 (0, 0))) := ⟨by refine bk ?_; refine blk_far ?_ NB283_288.out _; refine bk ?_; exact BK283.out⟩
         have n4_ : Aside0 ((w27.setCell ⟨gb288, 1, none⟩ (.slice Ao28 y293.length co28)).heap[gb288]? = some (.cells #[.string t284, .slice Ao28 y293.length co28, u289002] 42 (0, 0))) := ⟨by refine bk ?_; refine blk_put (cs := #[.string t284, u289001, u289002]) ?_ 1 _ rfl; refine bk ?_; exact BK288.out⟩
         have n5_ : Aside0 (Below w.heap.size w (w27.setCell ⟨gb288, 1, none⟩ (.slice Ao28 y293.length co28))) := ⟨bl⟩
         (try clear HO_6)
         (try clear HO_289002)
         (try clear HO295)
         (try clear BK283)
         (try clear BK288)
         (try clear HB)
         generalize (w27.setCell ⟨gb288, 1, none⟩ (.slice Ao28 y293.length co28)) = w30 at n0_ n1_ n2_ n3_ n4_ n5_ ⊢
         have HO_6 := n0_
         have HO_289002 := n1_
         have HO295 := n2_
         have BK283 := n3_
         have BK288 := n4_
         have HB := n5_
         clear n0_ n1_ n2_ n3_ n4_ n5_
         have n0_ := am (Kd.S_drew HO_6.out)
         have n1_ := am (Kd.S_drew HO_289002.out)
         have n2_ := am (Kd.R_drew HO295.out)
         have n3_ := am (blk_drew BK283.out)
         have n4_ := am (blk_drew BK288.out)
         have n5_ := am (below_drew1 HB.out)
         clear HO_6
         clear HO_289002
         clear HO295
         clear BK283
         clear BK288
         clear HB
         have HO_6 := n0_
         have HO_289002 := n1_
         have HO295 := n2_
         have BK283 := n3_
         have BK288 := n4_
         have HB := n5_
         clear n0_ n1_ n2_ n3_ n4_ n5_
         have p296 : 0 ≤ (x7_1 : Int) := of_decide_eq_true as0
         have q296 : x7_1 < (t290.length : Int) := of_decide_eq_true as0
         obtain ⟨ad296, A296_0, c296_0, e296, hx296_0, hl296_0, hi296_0⟩ := at_L3 (Kd.S_reads' HO_6.out).2.2 x7_1 p296 q296
         cases e296
         obtain ⟨ce296, hce296, hMe296, hcc296⟩ := Kd.S_get HO_6.out [] x7_1 p296 (by first | exact q296 | exact of_decide_eq_true as0 | (have e_ := (Kd.S_reads' HO_6.out).1; omega))
         obtain ⟨ve296_0, rfl, ge296_0⟩ := hMe296
         have hv296_0 := hcc296 0 _ rfl
         rw [Nat.add_zero, show ((Kd.slice 25 k25)).sz = 1 from rfl, Nat.mul_one] at hv296_0
         replace hv296_0 := Option.some.inj (hv296_0.symm.trans hx296_0)
         rw [hv296_0] at ge296_0
         have HL296_0 := am (show Kd.R k25 25 _ _ _ _ (rd_L3 t290 x7_1) from ge296_0)
         clear hv296_0 ge296_0
         clear hcc296 hce296
         have HR296_0 := am hi296_0
         have HC296_0 := am hl296_0
         clear hi296_0 hl296_0
         replace p296 := eq_true p296
         replace q296 := eq_true q296
         refine start_ (n := 11) (S := fun w' => w'.cell? ⟨gb288, 0, none⟩ = some (.string t284) ∧ w'.cell? ⟨gb288, 1, none⟩ = some (.slice Ao28 y293.length co28) ∧ w'.cell? ⟨gb288, 2, none⟩ = some (u289002) ∧ w'.cell? (ad296.add (x7_1).toNat) = some (.slice A296_0 (rd_L3 t290 x7_1).length c296_0)) (ds := [8, 10]) #[false, false, false, false, false, false, false, false, false, false, false] (by kernel_rfl) rfl rfl ⟨(blk_cell BK288.out 0).trans rfl, (blk_cell BK288.out 1).trans rfl, (blk_cell BK288.out 2).trans rfl, hx296_0⟩ (fun hHeld => ?_); refine with_tabW epitomeref16_Fit.tab7 epitomeref16_Fit.bits7 (fun HT_ HW_ => ?_)
         generalize w30.drew = w31 at HO_6 HO_289002 HO295 BK283 BK288 HB HL296_0 HR296_0 hx296_0 hHeld ⊢
         refine pure_ (i := 0) (N := some 34) #[true, false, false, false, false, false, false, false, false, false, false] rfl rfl (aT HT_.out) (fun _ _ _ h => h) (Or.inl ⟨rfl, rn⟩) ap ?_
         refine pure_ (i := 2) (N := some 36) #[true, false, true, false, false, false, false, false, false, false, false] rfl rfl (aT HT_.out) (fun _ _ _ h => h) (Or.inl ⟨rfl, rn⟩) ap ?_
         refine pure_ (i := 3) (N := some 37) #[true, false, true, true, false, false, false, false, false, false, false] rfl rfl (aT HT_.out) (fun _ _ _ h => h) (Or.inl ⟨rfl, rn⟩) ap ?_
         refine pure_ (i := 4) (N := some 38) #[true, false, true, true, true, false, false, false, false, false, false] rfl rfl (aT HT_.out) (fun _ _ _ h => h) (Or.inl ⟨rfl, rn⟩) ap ?_
         refine take_ (i := 1) (N := some 35) (v := ?_) (a' := ?_) #[true, true, true, true, true, false, false, false, false, false, false] rfl rfl (take_ofW HT_.out HW_.out (by kernel_rfl)) (fun _ _ _ h => h) (Or.inl ⟨by rfl, ?_⟩) hHeld ?_ ?_
         rotate_left
         ·rintro w' ⟨s0, s1, s2, s3⟩
          go_simp
          with_reducible rfl
         rotate_left
         ·exact ap
         refine take_ (i := 5) (N := some 39) (v := ?_) (a' := ?_) #[true, true, true, true, true, true, false, false, false, false, false] rfl rfl (take_ofW HT_.out HW_.out (by kernel_rfl)) (fun _ _ _ h => h) (Or.inl ⟨by rfl, ?_⟩) hHeld ?_ ?_
         rotate_left
         ·rintro w' ⟨s0, s1, s2, s3⟩
          go_simp
          with_reducible rfl
         rotate_left
         ·exact ap
         refine one_ (i := 6) (N := some 40) #[true, true, true, true, true, true, true, false, false, false, false] rfl rfl (one_of HT_.out (by kernel_rfl)) (by decide) (fun K hK => ?_)
         refine goes_ Tryd.func53 (by kernel_rfl) rfl #[.slice A296_0 (rd_L3 t290 x7_1).length c296_0] (by rfl) rfl rfl ar ?_
         with_reducible refine (epitomeref05_Of.calls k1 _ _ (rd_L3 t290 x7_1) t297 _ ?side1 ?side2 A22.out).mono ?_
         (case side1 => repeat (first | exact (by repeat (first | (with_reducible exact HR296_0.out) | (with_reducible refine Kd.C_alloc ?_ _) | (with_reducible refine Kd.C_drewN ?_ _) | (with_reducible refine Kd.C_drew ?_) | exact HR296_0.out)) | (with_reducible refine Kd.C_alloc ?_ _) | (with_reducible refine Kd.C_drewN ?_ _) | (with_reducible refine Kd.C_drew ?_)))
         (case side2 => exact HC296_0.out)
         rintro e w32 ⟨v298, rfl, ho0, hb⟩
         have HS3_ := (hb.cell (World.block_lt_of_cell? _ _ (hHeld.2.2.2))).trans (hHeld.2.2.2)
         refine ⟨_, rfl, ?_⟩
         have n0_ := am (Kd.S_elder' (by refine kS ?_; exact HO_6.out) (Kd.R_base ho0) hb)
         have n1_ := am (Kd.S_elder' (by refine kS ?_; exact HO_289002.out) (Kd.R_base ho0) hb)
         have n2_ := am (Kd.R_below (by refine kR ?_; exact HO295.out) hb)
         have n3_ := am (Kd.R_elder' (by refine kR ?_; exact HL296_0.out) (Kd.R_base ho0) hb)
         have n4_ := am (Kd.R_lower (Kd.R_new' ho0 (Kd.R_lt (by refine kR ?_; exact HL296_0.out))) (below_size bl))
         have n5_ := am (blk_below (g := gb283) (o := .cells #[.string (⟨#[]⟩ : ByteArray), .slice none 0 0, .slice none 0 0] 42 (0, 0)) (by refine bk ?_; exact BK283.out) hb)
         have n6_ := am (blk_below (g := gb288) (o := .cells #[.string t284, .slice Ao28 y293.length co28, u289002] 42 (0, 0)) (by refine bk ?_; exact BK288.out) hb)
         have n7_ := am (Kd.C_below (by repeat (first | (with_reducible exact HR296_0.out) | (with_reducible refine Kd.C_alloc ?_ _) | (with_reducible refine Kd.C_drewN ?_ _) | (with_reducible refine Kd.C_drew ?_) | exact HR296_0.out)) hb)
         have n8_ := am (below_step bl hb)
         clear HO_6
         clear HO_289002
         clear HO295
         clear HL296_0
         clear BK283
         clear BK288
         clear HR296_0
         clear HB
         have HO_6 := n0_
         have HO_289002 := n1_
         have HO295 := n2_
         have HL296_0 := n3_
         have HO299 := n4_
         have BK283 := n5_
         have BK288 := n6_
         have HR296_0 := n7_
         have HB := n8_
         clear n0_ n1_ n2_ n3_ n4_ n5_ n6_ n7_ n8_
         (try clear hb)
         (try clear hb2)
         (try clear hk)
         (try clear hi)
         (try clear ho0)
         obtain ⟨Ao34, co34, eo34⟩ := Kd.R_slice HO299.out
         (first | subst eo34 | (injection eo34 with f1_ f2_ f3_; have f4_ := f1_.symm; have f5_ := f3_.symm; clear f1_ f2_ f3_; subst f4_; subst f5_))
         refine hK.out _ _ ⟨(blk_cell BK288.out 0).trans rfl, (blk_cell BK288.out 1).trans rfl, (blk_cell BK288.out 2).trans rfl, HS3_⟩ (fun hHeld => ?_)
         clear hK K
         refine norm_ (a' := ?_) ?_ ?_
         rotate_left
         ·show Act.put _ (some 40) _ = _
          simp only [Act.put, List.setIfInBounds_toArray, List.set_cons_zero, List.set_cons_succ, i64_w, i32_w]
          rfl
         refine one_ (i := 7) (N := some 41) #[true, true, true, true, true, true, true, true, false, false, false] rfl rfl (one_of HT_.out (by kernel_rfl)) (by decide) (fun K hK => ?_)
         refine value_ (w1 := ?_) (v := ?_) (by rfl) rfl ?_ ?_
         rotate_left 2
         ·go_simp
          constructor
          ·rfl
          ·rfl
         refine hK.out _ _ ⟨(blk_cell (blk_alloc BK288.out _) 0).trans rfl, (blk_cell (blk_alloc BK288.out _) 1).trans rfl, (blk_cell (blk_alloc BK288.out _) 2).trans rfl, (World.cell?_alloc_lt _ _ _ (World.block_lt_of_cell? _ _ (hHeld.2.2.2))).trans (hHeld.2.2.2)⟩ (fun hHeld => ?_)
         clear hK K
         refine norm_ (a' := ?_) ?_ ?_
         rotate_left
         ·show Act.put _ (some 41) _ = _
          simp only [Act.put, List.setIfInBounds_toArray, List.set_cons_zero, List.set_cons_succ, i64_w, i32_w]
          rfl
         refine last_ (i := 8) (N := some 42) #[true, true, true, true, true, true, true, true, true, false, false] rfl rfl (one_of HT_.out (by kernel_rfl)) (by decide) (fun K hK => ?_)
         refine Kd.S_append_step (Kd.slice 25 k25) (w0 := w) w.heap.size (by rfl) (.tmp 35) (.tmp 41) 28 27 (.slice none 0 0) 24 rfl Tryd.underlying28 info27 rfl (by decide) (by omega) u289002 x289002_1 t297 [.slice Ao34 t297.length co34] (fun k_ => some k_ ≠ (.slice (some ad296) t290.length co24 : Value).ownBlock) (fun k_ => some k_ = (.slice Ao34 t297.length co34 : Value).ownBlock) rfl rfl ?aP (fun k_ hk_ => ((Kd.R_mono (ok' := fun k_ => ((fun k_ => some k_ ≠ (.slice (some ad296) t290.length co24 : Value).ownBlock)) k_ ∧ some k_ ≠ (u289002 : Value).ownBlock) (Kd.R_apart' (Kd.R_apart' (HO299.out) (Kd.S_typed HO_6.out) (by decide)) (Kd.S_typed HO_289002.out) (by decide)) (fun k_ hk => ⟨hk.1.2, hk.2⟩))).1 k_ hk_.symm) ?aF ?aO ?aB ?aS ?aL ?_
         (case aP => exact Kd.M_row (Kd.R_mono (Kd.R_tight rfl (Kd.R_mono (ok' := fun k_ => ((fun k_ => some k_ ≠ (.slice (some ad296) t290.length co24 : Value).ownBlock)) k_ ∧ some k_ ≠ (u289002 : Value).ownBlock) (Kd.R_apart' (Kd.R_apart' (HO299.out) (Kd.S_typed HO_6.out) (by decide)) (Kd.S_typed HO_289002.out) (by decide)) (fun k_ hk => ⟨hk.1.2, hk.2⟩))) (fun _ h_ => h_)))
         (case aB => exact bl)
         (case aF => exact (fun k_ hk => Kd.fresh' (Kd.S_lt (by refine kS ?_; exact HO_6.out)) k_ hk))
         (case aO => exact (by refine kS ?_; exact Kd.S_mono HO_289002.out (fun k_ hk => ⟨hk.1, fun e_ => hk.2 e_⟩)))
         (case aS => exact (below_size bl))
         (case aL => have := LMc23.out; omega)
         intro v301 w33 ho hb hg hat
         rw [← Ny300.out] at ho
         have n0_ := am (Kd.S_after (ok := (fun k_ => some k_ ≠ (.slice Ao34 t297.length co34 : Value).ownBlock)) (by refine kS ?_; exact Kd.S_mono HO_6.out (fun _ hk => ⟨hk.2, hk.1⟩)) hg hat)
         have n1_ := am (blk_grown (g := gb283) (o := .cells #[.string (⟨#[]⟩ : ByteArray), .slice none 0 0, .slice none 0 0] 42 (0, 0)) (by refine bk ?_; exact BK283.out) hg (Kd.S_ne HO_289002.out BK283.out (by decide)))
         have n2_ := am (blk_grown (g := gb288) (o := .cells #[.string t284, .slice Ao28 y293.length co28, u289002] 42 (0, 0)) (by refine bk ?_; exact BK288.out) hg (Kd.S_ne HO_289002.out BK288.out (by decide)))
         have n3_ := am (Kd.R_over' (by refine kR ?_; exact HO295.out) (Kd.S_typed (by refine kS ?_; exact HO_289002.out)) (by decide) hg)
         have n4_ := am (Kd.R_after (ok := (fun k_ => some k_ ≠ (.slice (some ad296) t290.length co24 : Value).ownBlock ∧ some k_ ≠ (.slice Ao34 t297.length co34 : Value).ownBlock)) (by refine kR ?_; exact Kd.R_mono HL296_0.out (fun _ hk => ⟨⟨hk.1.2, hk.2⟩, hk.1.1⟩)) hg hat)
         have n5_ := am (hb)
         have n6_ := am (ho)
         clear HO_6
         clear BK283
         clear BK288
         clear HO295
         clear HL296_0
         clear HB
         clear HO_289002
         clear HO299
         have HO_6 := n0_
         have BK283 := n1_
         have BK288 := n2_
         have HO295 := n3_
         have HL296_0 := n4_
         have HB := n5_
         have HO302 := n6_
         clear n0_ n1_ n2_ n3_ n4_ n5_ n6_
         clear ho hb hg hat
         obtain ⟨Ao35, co35, eo35⟩ := Kd.S_slice HO302.out
         (first | subst eo35 | (injection eo35 with f1_ f2_ f3_; have f4_ := f1_.symm; have f5_ := f3_.symm; clear f1_ f2_ f3_; subst f4_; subst f5_))
         refine hK.out _ _ ?_
         clear hK K
         refine norm_ (a' := ?_) ?_ ?_
         rotate_left
         ·show Act.put _ (some 42) _ = _
          simp only [Act.put, List.setIfInBounds_toArray, List.set_cons_zero, List.set_cons_succ, i64_w, i32_w]
          rfl
         refine pure_ (i := 9) (N := some 43) #[true, true, true, true, true, true, true, true, true, true, false] rfl rfl (aT HT_.out) (fun _ _ _ h => h) (Or.inl ⟨rfl, rn⟩) ap ?_
         refine last_ (i := 10) (N := none) #[true, true, true, true, true, true, true, true, true, true, true] rfl rfl (one_of HT_.out (by kernel_rfl)) (by decide) (fun K hK => ?_)
         have hs36 : w33.cell? ⟨gb288, 2, none⟩ = some (u289002) := (blk_cell BK288.out 2).trans rfl
         have hfs36 := blk_frozen BK288.out 2
         have hns36_0 := NB283_288.out
         have hms36_0 := NB288_283.out
         refine skip_ (w1 := ?_) (by rfl) rfl ?_ ?_
         rotate_left
         ·go_simp
          rfl
         refine hK.out _ _ ?_
         clear hK K
         refine done_ (done_of HT_.out (by kernel_rfl)) ?_
         try go_wp2
         go_roundg k1
         case measure => have := HK1.out; omega
         case rel => exact ⟨(wrap64 (x7_1 + 1)), (y293), (y300), (.slice Ao28 y293.length co28), (.slice Ao35 y300.length co35), pj, H', ⟨by have := HK1.out; omega⟩, ⟨by refine kS ?_; exact Kd.S_mono (Kd.S_far (p := ⟨gb288, 2, none⟩) (Kd.S_types HO_6.out BK288.out (by decide)) (fun _ hk => hk.2) (.slice Ao35 y300.length co35)) (fun _ hk => hk.1.2)⟩, ⟨by refine kR ?_; exact Kd.R_mono (Kd.R_far (p := ⟨gb288, 2, none⟩) (Kd.R_types HO295.out BK288.out (by decide)) (fun _ hk => hk.2) (.slice Ao35 y300.length co35)) (fun _ hk => trivial)⟩, ⟨by refine kS ?_; exact Kd.S_mono (Kd.S_far (p := ⟨gb288, 2, none⟩) (Kd.S_types HO302.out BK288.out (by decide)) (fun _ hk => hk.2) (.slice Ao35 y300.length co35)) (fun _ hk => hk.1)⟩, ⟨by refine bk ?_; refine blk_far ?_ NB283_288.out _; refine bk ?_; exact BK283.out⟩, ⟨by refine bk ?_; refine blk_put (cs := #[.string t284, .slice Ao28 y293.length co28, u289002]) ?_ 2 _ rfl; refine bk ?_; exact BK288.out⟩, ⟨bl⟩⟩
        ·rw [if_neg c23] at H
         exact absurd H (by simp)
       ·rw [if_neg c21] at H
        exact absurd H (by simp)
      ·rw [if_neg c20] at H
       exact absurd H (by simp)
     ·rw [if_neg c19] at H
      have c19b0 : decide (x7_1 < (t290.length : Int)) = false := decide_eq_false c19
      clear c19
      simp only [Option.some.injEq, Prod.mk.injEq] at H
      obtain ⟨rfl, rfl, rfl⟩ := H
      obtain ⟨Ao37, co37, eo37⟩ := Kd.S_slice HO_6.out
      subst eo37
      have hnb38 := NB288_283.out
      have hnc38 := NB283_288.out
      have hcz39_0 : wr.cell? ⟨gb288, 0, none⟩ = some (.string t284) := (blk_cell BK288.out 0).trans rfl
      have hcz39_1 : wr.cell? ⟨gb288, 1, none⟩ = some (u289001) := (blk_cell BK288.out 1).trans rfl
      have hcz39_2 : wr.cell? ⟨gb288, 2, none⟩ = some (u289002) := (blk_cell BK288.out 2).trans rfl
      have hfz39_0 := blk_frozen BK288.out 0
      have hfz39_1 := blk_frozen BK288.out 1
      have hfz39_2 := blk_frozen BK288.out 2
      have hcz40_0 : wr.cell? ⟨gb283, 0, none⟩ = some (.string (⟨#[]⟩ : ByteArray)) := (blk_cell BK283.out 0).trans rfl
      have hcz40_1 : wr.cell? ⟨gb283, 1, none⟩ = some (.slice none 0 0) := (blk_cell BK283.out 1).trans rfl
      have hcz40_2 : wr.cell? ⟨gb283, 2, none⟩ = some (.slice none 0 0) := (blk_cell BK283.out 2).trans rfl
      have hfz40_0 := blk_frozen BK283.out 0
      have hfz40_1 := blk_frozen BK283.out 1
      have hfz40_2 := blk_frozen BK283.out 2
      obtain ⟨Ao41, co41, eo41⟩ := Kd.R_slice HO_289001.out
      subst eo41
      obtain ⟨Ao42, co42, eo42⟩ := Kd.S_slice HO_289002.out
      subst eo42
      go_wp2
      refine bodyPost_ret (results_cell_row rfl _ _ gb283 42 #[.string t284, .slice Ao41 x289001_1.length co41, .slice Ao42 x289002_1.length co42] (0, 0) _ rfl (by refine bk ?_; refine blk_put (cs := #[.string t284, .slice Ao41 x289001_1.length co41, .slice none 0 0]) ?_ 2 _ rfl; refine bk ?_; refine blk_put (cs := #[.string t284, .slice none 0 0, .slice none 0 0]) ?_ 1 _ rfl; refine bk ?_; refine blk_put (cs := #[.string (⟨#[]⟩ : ByteArray), .slice none 0 0, .slice none 0 0]) ?_ 0 _ rfl; refine bk ?_; exact BK283.out) Tryd.underlying42 rfl (by kernel_rfl)) rfl ?_
      exact ⟨_, _, by first | rfl | (simp [errW_none, errW_some] <;> rfl) | (simp only [← hji3]; first | rfl | (simp [errW_none, errW_some] <;> rfl)) | (simp [*, errW_none, errW_some] <;> rfl), by refine kR ?_; exact Kd.R_mono (Kd.R_far (p := ⟨gb283, 2, none⟩) (Kd.R_far (p := ⟨gb283, 1, none⟩) (Kd.R_far (p := ⟨gb283, 0, none⟩) (Kd.R_types HO_289001.out BK283.out (by decide)) (fun _ hk => hk.2) (.string t284)) (fun _ hk => hk.2) (.slice Ao41 x289001_1.length co41)) (fun _ hk => hk.2) (.slice Ao42 x289002_1.length co42)) (fun _ hk => trivial), by refine kS ?_; exact Kd.S_mono (Kd.S_far (p := ⟨gb283, 2, none⟩) (Kd.S_far (p := ⟨gb283, 1, none⟩) (Kd.S_far (p := ⟨gb283, 0, none⟩) (Kd.S_types HO_289002.out BK283.out (by decide)) (fun _ hk => hk.2) (.string t284)) (fun _ hk => hk.2) (.slice Ao41 x289001_1.length co41)) (fun _ hk => hk.2) (.slice Ao42 x289002_1.length co42)) (fun _ hk => trivial), bl⟩
  ·rw [if_neg c5] at H
   exact absurd H (by simp)
 ·rw [if_neg c4] at H
  exact absurd H (by simp)
end Go.Proofs.YtegjegihcebimaaDoor.P
end
