/- Part 4 of the proof of topReplays_holds: out of the texts that this session's programs wrote, what the theorem reaches. -/
import Derived.Test.YtegjegihcebimaaDoorZ2
import Derived.Test.YtegjegihcebimaaDoorZ3
section
namespace Go.Proofs.YtegjegihcebimaaDoor.P
open Go.RowKit Go.Proofs.YtegjegihcebimaaDoorW.PrintWords Go.Proofs.YtegjegihcebimaaDoorW.PrintLast Go.Proofs.YtegjegihcebimaaDoorW.PrintMore
attribute [local go_sem] max2_int min2_int max_two min_two max_three min_three max_four min_four
set_option linter.unusedVariables false
set_option linter.unusedSimpArgs false
mutual
def epitomeref04_Fit.l0 : Nat → List (S25) → Int → List (S25) → Int → Option ((List (S25)))
 | 0, _, _, _, _ => none
 | k + 1, x0, x1, x5, x6 => if x6 < (x0.length : Int) then (epitomeref04_Fit.j1 k x0 x1 x5 x6 (decide (x6 < 12))) else (epitomeref04_Fit.j1 k x0 x1 x5 x6 false)
def epitomeref04_Fit.j1 : Nat → List (S25) → Int → List (S25) → Int → Bool → Option ((List (S25)))
 | 0, _, _, _, _, _ => none
 | k + 1, x0, x1, x5, x6, x16 => if x16 = true then (if 0 ≤ x6 then (if x6 < (x0.length : Int) then (if (wrap64 (1 + (Int.tmod (wrap64 ((Int.tmod ((rd_T25 x0 x6).f0) 3) + 3)) 3))) = 2 then (if 0 ≤ (mn (((rd_T25 x0 x6).f2).size : Int) 6) then (if (mn (((rd_T25 x0 x6).f2).size : Int) 6) ≤ (((rd_T25 x0 x6).f2).size : Int) then ((epitomeref01_Fit.f k (((rd_T25 x0 x6).f2).extract 0 ((mn (((rd_T25 x0 x6).f2).size : Int) 6) : Int).toNat)).bind fun t228 => (if x5.length < 4398046511104 then (epitomeref04_Fit.l0 k x0 x1 (x5 ++ [(⟨wrap64 (1 + (Int.tmod (wrap64 ((Int.tmod ((rd_T25 x0 x6).f0) 3) + 3)) 3)), 0, t228⟩ : S25)]) (wrap64 (x6 + 1))) else (none))) else (none)) else (none)) else (if x5.length < 4398046511104 then (epitomeref04_Fit.l0 k x0 (wrap64 (x1 - (mn (Int.tmod (wrap64 ((Int.tmod ((rd_T25 x0 x6).f1) 7) + 7)) 7) x1))) (x5 ++ [(⟨wrap64 (1 + (Int.tmod (wrap64 ((Int.tmod ((rd_T25 x0 x6).f0) 3) + 3)) 3)), mn (Int.tmod (wrap64 ((Int.tmod ((rd_T25 x0 x6).f1) 7) + 7)) 7) x1, (⟨#[]⟩ : ByteArray)⟩ : S25)]) (wrap64 (x6 + 1))) else (none))) else (none)) else (none)) else (if x1 > 0 then (if x5.length < 4398046511104 then (some (x5 ++ [(⟨1, x1, (⟨#[]⟩ : ByteArray)⟩ : S25)])) else (none)) else (some x5))
end
def epitomeref04_Fit.f (k : Nat) (l0 : List (S25)) (a1 : Int) : Option ((List (S25))) := epitomeref04_Fit.l0 k l0 a1 (([] : List (S25))) 0
def epitomeref04_Fit.T7 : Bool × List (List Nat × List Nat) := (true, [([], []), ([], []), ([0, 1], [0, 1]), ([2], [2]), ([3], [3]), ([], []), ([], []), ([5, 6], [5, 6]), ([7], [7]), ([8], [8]), ([9], [9]), ([10], [10]), ([4, 11], [4, 11]), ([12], [12]), ([0, 1, 2, 3, 4, 5, 6, 7, 8, 9, 10, 11, 12, 13], []), ([14, 13, 13, 0, 1, 2, 3, 4, 5, 6, 7, 8, 9, 10, 11, 12, 13], [13, 14])])
def epitomeref04_Fit.B7 : List Nat := [0, 0, 3, 7, 15, 0, 0, 96, 224, 480, 992, 2016, 4095, 8191, 16383, 32767]
theorem epitomeref04_Fit.tab7 : rtab .any (opsOf Tryd.f28 7) = epitomeref04_Fit.T7 := by kernel_rfl
theorem epitomeref04_Fit.bits7 : waitsOk epitomeref04_Fit.T7.2 epitomeref04_Fit.B7 = true := by kernel_rfl
set_option maxHeartbeats 8000000 in
set_option maxRecDepth 100000 in
theorem epitomeref04_Fit.calls (k : Nat) (A0 : Option Addr) (c0 : Nat) (l0 : List (S25)) (a1 : Int) (r : List (S25)) (w : World) (hr0 : Kd.C k25 w A0 l0.length l0) (hc0 : l0.length ≤ c0) (h : epitomeref04_Fit.f k l0 a1 = some r) :
  Calls Tryd.prog 28 #[.slice A0 l0.length c0, .int .i64 a1] w fun e w' => ∃ v0_ : Value, e = .returned (v0_) ∧ Kd.R k25 25 w' w.heap.size (fun _ => True) v0_ r ∧ Below w.heap.size w w' := by
 have hu25 := Tryd.underlying25
 have HR0 := am hr0
 have HC0 := am hc0
 clear hr0 hc0
 have HB := am (Below.refl w.heap.size w)
 have H : (epitomeref04_Fit.l0 k l0 a1 (([] : List (S25))) 0) = some r := h
 clear h
 obtain ⟨y221, hy221⟩ : ∃ y_ : List (S25), y_ = (([] : List (S25))) := ⟨_, rfl⟩
 replace H : (epitomeref04_Fit.l0 k l0 a1 y221 0) = some r := by first | (rw [hy221]; with_reducible exact H) | (have H2_ := (Option.bind_some _ _).symm.trans H; rw [hy221]; with_reducible exact H2_) | (have H2_ := (Option.bind_some _ _).symm.trans H; with_reducible exact H2_) | with_reducible exact H | (rw [hy221]; exact H) | exact H
 have Ny221 := am hy221
 clear hy221
 have H' := am H
 clear H
 go_enter Tryd.func28, Tryd.ntmps28
 go_wp2_with (first | ((with_reducible refine gate_dst (N := 8) rfl ?_); refine Kd.R_lit k25 _ 25 ?hg (N := 8) ?hd (xs := ([] : List (S25))) (inner := []) (ok := fun _ => True) (okp := fun _ => True) ?hr ?hp (fun _ hk => hk) trivial (Below.refl _ _) (Nat.le_refl _) (by simp) ?_; (case hd => rfl); (case hg => rfl); (case hr => first | (go_simp; done) | (go_simp; rfl)); (case hp => exact (Reps.none _ _)); intro v222 w3 ho4 hb hg_ hnew_; clear hg_ hnew_; (first | rw [← Ny221.out] at ho4 | (simp only [Int.reduceToNat] at ho4; rw [← Ny221.out] at ho4)); have n0_ := am (Kd.R_lower ho4 (below_size bl)); have n1_ := am (below_step bl hb); clear HB; have HO223 := n0_; have HB := n1_; clear n0_ n1_; clear hb ho4))
 go_loopg [1, 5, 6] k (fun kq v1 v5 v6 w' => ∃ (x1_1 : Int) (x5_1 : List (S25)) (x6_1 : Int), v1 = .int .i64 x1_1 ∧ v6 = .int .i64 x6_1 ∧ Aside0 (epitomeref04_Fit.l0 kq l0 x1_1 x5_1 x6_1 = some r) ∧ Aside0 (kq ≤ k) ∧ Aside0 (Kd.R k25 25 w' w.heap.size (fun _ => True) v5 x5_1) ∧ Aside0 (Below w.heap.size w w'))
 case atStart => exact ⟨(a1), (y221), (0), pj, pj, H', ⟨Nat.le_refl _⟩, ⟨by refine kR ?_; exact HO223.out⟩, ⟨bl⟩⟩
 case round =>
  clear H'
  try clear c2
  try clear p2
  obtain ⟨x1_1, x5_1, x6_1, rfl, rfl, HA, HK1, HO_5, HB⟩ := hrel
  cases gk with
  | zero => exact absurd HA.out (by simp [epitomeref04_Fit.l0])
  | succ k1 =>
   have H := HA.out
   clear HA
   simp only [epitomeref04_Fit.l0] at H
   have HC5 := am H
   clear H
   go_upto_region 3 with (fail)
   go_cut [16] (fun v16 wc => ∃ (kq : Nat) (x16_4 : Bool), v16 = .bool x16_4 ∧ Aside0 (epitomeref04_Fit.j1 kq l0 x1_1 x5_1 x6_1 x16_4 = some r) ∧ Aside0 (kq ≤ k1) ∧ Aside0 (Kd.R k25 25 wc w.heap.size (fun _ => True) u5 x5_1) ∧ Aside0 (Below w.heap.size w wc))
   case first =>
    have H := HC5.out
    clear HC5
    by_cases c6 : x6_1 < (l0.length : Int)
    ·rw [if_pos c6] at H
     have c6b0 : decide (x6_1 < (l0.length : Int)) = true := decide_eq_true c6
     clear c6
     (first | rw [c6b0] | (simp only [i64_w, i32_w]; rw [c6b0]) | skip)
     have H' := am H
     clear H
     go_wp2
     go_meet
     case rel => exact ⟨_, (decide (x6_1 < 12)), pj, H', ⟨by have := HK1.out; first | omega | exact Nat.le_refl _⟩, ⟨by refine kR ?_; exact HO_5.out⟩, ⟨bl⟩⟩
    ·rw [if_neg c6] at H
     have c6b0 : decide (x6_1 < (l0.length : Int)) = false := decide_eq_false c6
     clear c6
     (first | rw [c6b0] | (simp only [i64_w, i32_w]; rw [c6b0]) | skip)
     have H' := am H
     clear H
     go_wp2
     go_meet
     case rel => exact ⟨_, (false), pj, H', ⟨by have := HK1.out; first | omega | exact Nat.le_refl _⟩, ⟨by refine kR ?_; exact HO_5.out⟩, ⟨bl⟩⟩
   case rest =>
    clear HC5
    try clear c2
    try clear p2
    try clear c6
    try clear c6b0
    try clear p2
    obtain ⟨kq, x16_4, rfl, HA, HJ4, HO_5, HB⟩ := hcut
    cases kq with
    | zero => exact absurd HA.out (by simp [epitomeref04_Fit.j1])
    | succ kj4 =>
     have H := HA.out
     clear HA
     simp only [epitomeref04_Fit.j1] at H
     by_cases c7 : x16_4 = true
     ·subst c7
      have H1 : (if 0 ≤ x6_1 then (if x6_1 < (l0.length : Int) then (if (wrap64 (1 + (Int.tmod (wrap64 ((Int.tmod ((rd_T25 l0 x6_1).f0) 3) + 3)) 3))) = 2 then (if 0 ≤ (mn (((rd_T25 l0 x6_1).f2).size : Int) 6) then (if (mn (((rd_T25 l0 x6_1).f2).size : Int) 6) ≤ (((rd_T25 l0 x6_1).f2).size : Int) then ((epitomeref01_Fit.f kj4 (((rd_T25 l0 x6_1).f2).extract 0 ((mn (((rd_T25 l0 x6_1).f2).size : Int) 6) : Int).toNat)).bind fun t228 => (if x5_1.length < 4398046511104 then (epitomeref04_Fit.l0 kj4 l0 x1_1 (x5_1 ++ [(⟨wrap64 (1 + (Int.tmod (wrap64 ((Int.tmod ((rd_T25 l0 x6_1).f0) 3) + 3)) 3)), 0, t228⟩ : S25)]) (wrap64 (x6_1 + 1))) else (none))) else (none)) else (none)) else (if x5_1.length < 4398046511104 then (epitomeref04_Fit.l0 kj4 l0 (wrap64 (x1_1 - (mn (Int.tmod (wrap64 ((Int.tmod ((rd_T25 l0 x6_1).f1) 7) + 7)) 7) x1_1))) (x5_1 ++ [(⟨wrap64 (1 + (Int.tmod (wrap64 ((Int.tmod ((rd_T25 l0 x6_1).f0) 3) + 3)) 3)), mn (Int.tmod (wrap64 ((Int.tmod ((rd_T25 l0 x6_1).f1) 7) + 7)) 7) x1_1, (⟨#[]⟩ : ByteArray)⟩ : S25)]) (wrap64 (x6_1 + 1))) else (none))) else (none)) else (none)) = some r := by rw [if_pos rfl] at H; exact H
      clear H
      have H := H1
      clear H1
      by_cases c8 : 0 ≤ x6_1
      ·rw [if_pos c8] at H
       have c8b0 : decide (0 ≤ x6_1) = true := decide_eq_true c8
       clear c8
       by_cases c9 : x6_1 < (l0.length : Int)
       ·rw [if_pos c9] at H
        have c9b0 : decide (x6_1 < (l0.length : Int)) = true := decide_eq_true c9
        clear c9
        by_cases c10 : (wrap64 (1 + (Int.tmod (wrap64 ((Int.tmod ((rd_T25 l0 x6_1).f0) 3) + 3)) 3))) = 2
        ·rw [if_pos c10] at H
         have c10b0 : ((wrap64 (1 + (Int.tmod (wrap64 ((Int.tmod ((rd_T25 l0 x6_1).f0) 3) + 3)) 3))) == 2) = true := beq_iff_eq.mpr c10
         have c10b1 : ((wrap64 (1 + (Int.tmod (wrap64 ((Int.tmod ((rd_T25 l0 x6_1).f0) 3) + 3)) 3))) != 2) = false := bne_eq_false_iff_eq.mpr c10
         clear c10
         obtain ⟨ji11, hji11⟩ : ∃ j_ : Int, (mn (((rd_T25 l0 x6_1).f2).size : Int) 6) = j_ := ⟨_, rfl⟩
         replace H : (if 0 ≤ (ji11) then (if (ji11) ≤ (((rd_T25 l0 x6_1).f2).size : Int) then ((epitomeref01_Fit.f kj4 (((rd_T25 l0 x6_1).f2).extract 0 ((ji11) : Int).toNat)).bind fun t228 => (if x5_1.length < 4398046511104 then (epitomeref04_Fit.l0 kj4 l0 x1_1 (x5_1 ++ [(⟨wrap64 (1 + (Int.tmod (wrap64 ((Int.tmod ((rd_T25 l0 x6_1).f0) 3) + 3)) 3)), 0, t228⟩ : S25)]) (wrap64 (x6_1 + 1))) else (none))) else (none)) else (none)) = some r := by first | (rw [hji11] at H; exact H) | (simp only [hji11] at H ⊢; exact H)
         have hji11_ : (if 6 < (((rd_T25 l0 x6_1).f2).size : Int) then 6 else (((rd_T25 l0 x6_1).f2).size : Int)) = ji11 := hji11
         by_cases c12 : 0 ≤ (ji11)
         ·rw [if_pos c12] at H
          have c12b0 := eq_true c12
          have c12b1 : decide (0 ≤ (ji11)) = true := decide_eq_true c12
          clear c12
          by_cases c13 : (ji11) ≤ (((rd_T25 l0 x6_1).f2).size : Int)
          ·rw [if_pos c13] at H
           have c13b0 := eq_true c13
           have c13b1 : decide ((ji11) ≤ (((rd_T25 l0 x6_1).f2).size : Int)) = true := decide_eq_true c13
           clear c13
           replace H := Option.bind_eq_some_iff.mp H
           obtain ⟨t228, A140, H⟩ := H
           replace H : (if x5_1.length < 4398046511104 then (epitomeref04_Fit.l0 kj4 l0 x1_1 (x5_1 ++ [(⟨wrap64 (1 + (Int.tmod (wrap64 ((Int.tmod ((rd_T25 l0 x6_1).f0) 3) + 3)) 3)), 0, t228⟩ : S25)]) (wrap64 (x6_1 + 1))) else (none)) = some r := H
           have A14 := am A140
           clear A140
           by_cases c15 : x5_1.length < 4398046511104
           ·rw [if_pos c15] at H
            have LMc15 := am c15
            clear c15
            obtain ⟨y229, hy229⟩ : ∃ y_ : List (S25), y_ = (x5_1 ++ [(⟨wrap64 (1 + (Int.tmod (wrap64 ((Int.tmod ((rd_T25 l0 x6_1).f0) 3) + 3)) 3)), 0, t228⟩ : S25)]) := ⟨_, rfl⟩
            replace H : (epitomeref04_Fit.l0 kj4 l0 x1_1 y229 (wrap64 (x6_1 + 1))) = some r := by first | (rw [hy229]; with_reducible exact H) | (have H2_ := (Option.bind_some _ _).symm.trans H; rw [hy229]; with_reducible exact H2_) | (have H2_ := (Option.bind_some _ _).symm.trans H; with_reducible exact H2_) | with_reducible exact H | (rw [hy229]; exact H) | exact H
            have Ny229 := am hy229
            clear hy229
            have H' := am H
            clear H
            have p224 : 0 ≤ (x6_1 : Int) := of_decide_eq_true as0
            have q224 : x6_1 < (l0.length : Int) := of_decide_eq_true as0
            obtain ⟨ad224, e224, hx224_0, hx224_1, hx224_2⟩ := at_T25 HR0.out x6_1 p224 q224
            cases e224
            replace hx224_0 := (HB.out.cell (World.block_lt_of_cell? w _ hx224_0)).trans hx224_0
            replace hx224_1 := (HB.out.cell (World.block_lt_of_cell? w _ hx224_1)).trans hx224_1
            replace hx224_2 := (HB.out.cell (World.block_lt_of_cell? w _ hx224_2)).trans hx224_2
            replace p224 := eq_true p224
            replace q224 := eq_true q224
            try go_wp2_with (first | ((with_reducible refine gate_dst (N := 7) rfl ?_); refine box_event ?hg (N := 7) ?hd (cs := #[.int .i64 0, .int .i64 0, .string (⟨#[]⟩ : ByteArray)]) (t := 25) ?hr ?_; (case hd => rfl); (case hg => rfl); (case hr => first | (go_simp; done) | (go_simp; rfl)); intro gb225 hg w16 hbox hb; have n0_ := am (Kd.R_below (Kd.R_elderB (by refine kR ?_; exact HO_5.out) gb225 (Nat.le_of_eq hg.symm)) hb); have n1_ := am (below_step bl hb); have n2_ := am (hbox); have n3_ := am ((gs : w.heap.size ≤ gb225)); have n4_ := am ((gs : w.heap.size ≤ gb225)); clear HO_5; clear HB; have HO_5 := n0_; have HB := n1_; have BK225 := n2_; have GW225 := n3_; have GE225 := n4_; clear n0_ n1_ n2_ n3_ n4_; clear hb hbox hg; have hcz17_0 : w16.cell? ⟨gb225, 0, none⟩ = some (.int .i64 0) := (blk_cell BK225.out 0).trans rfl; have hcz17_1 : w16.cell? ⟨gb225, 1, none⟩ = some (.int .i64 0) := (blk_cell BK225.out 1).trans rfl; have hcz17_2 : w16.cell? ⟨gb225, 2, none⟩ = some (.string (⟨#[]⟩ : ByteArray)) := (blk_cell BK225.out 2).trans rfl; have hfz17_0 := blk_frozen BK225.out 0; have hfz17_1 := blk_frozen BK225.out 1; have hfz17_2 := blk_frozen BK225.out 2))
            have n0_ : Aside0 (Kd.R k25 25 (((w16.setCell ⟨gb225, 0, none⟩ (.int .i64 (wrap64 (1 + (Int.tmod (wrap64 ((Int.tmod ((rd_T25 l0 x6_1).f0) 3) + 3)) 3))))).setCell ⟨gb225, 1, none⟩ (.int .i64 0)).setCell ⟨gb225, 2, none⟩ (.string (⟨#[]⟩ : ByteArray))) w.heap.size (fun k_ => k_ ≠ gb225) u5 x5_1) := ⟨by refine kR ?_; exact Kd.R_mono (Kd.R_far (p := ⟨gb225, 2, none⟩) (Kd.R_far (p := ⟨gb225, 1, none⟩) (Kd.R_far (p := ⟨gb225, 0, none⟩) (Kd.R_mono HO_5.out (fun k_ hk => (⟨hk, hk.2⟩ : _ ∧ k_ ≠ gb225))) (fun _ hk => hk.2) (.int .i64 (wrap64 (1 + (Int.tmod (wrap64 ((Int.tmod ((rd_T25 l0 x6_1).f0) 3) + 3)) 3))))) (fun _ hk => hk.2) (.int .i64 0)) (fun _ hk => hk.2) (.string (⟨#[]⟩ : ByteArray))) (fun _ hk => hk.1.2)⟩
            have n1_ : Aside0 ((((w16.setCell ⟨gb225, 0, none⟩ (.int .i64 (wrap64 (1 + (Int.tmod (wrap64 ((Int.tmod ((rd_T25 l0 x6_1).f0) 3) + 3)) 3))))).setCell ⟨gb225, 1, none⟩ (.int .i64 0)).setCell ⟨gb225, 2, none⟩ (.string (⟨#[]⟩ : ByteArray))).heap[gb225]? = some (.cells #[.int .i64 (wrap64 (1 + (Int.tmod (wrap64 ((Int.tmod ((rd_T25 l0 x6_1).f0) 3) + 3)) 3))), .int .i64 0, .string (⟨#[]⟩ : ByteArray)] 25 (0, 0))) := ⟨by refine bk ?_; refine blk_put (cs := #[.int .i64 (wrap64 (1 + (Int.tmod (wrap64 ((Int.tmod ((rd_T25 l0 x6_1).f0) 3) + 3)) 3))), .int .i64 0, .string (⟨#[]⟩ : ByteArray)]) ?_ 2 _ rfl; refine bk ?_; refine blk_put (cs := #[.int .i64 (wrap64 (1 + (Int.tmod (wrap64 ((Int.tmod ((rd_T25 l0 x6_1).f0) 3) + 3)) 3))), .int .i64 0, .string (⟨#[]⟩ : ByteArray)]) ?_ 1 _ rfl; refine bk ?_; refine blk_put (cs := #[.int .i64 0, .int .i64 0, .string (⟨#[]⟩ : ByteArray)]) ?_ 0 _ rfl; refine bk ?_; exact BK225.out⟩
            have n2_ : Aside0 (Below w.heap.size w (((w16.setCell ⟨gb225, 0, none⟩ (.int .i64 (wrap64 (1 + (Int.tmod (wrap64 ((Int.tmod ((rd_T25 l0 x6_1).f0) 3) + 3)) 3))))).setCell ⟨gb225, 1, none⟩ (.int .i64 0)).setCell ⟨gb225, 2, none⟩ (.string (⟨#[]⟩ : ByteArray)))) := ⟨bl⟩
            (try clear HO_5)
            (try clear BK225)
            (try clear HB)
            generalize (((w16.setCell ⟨gb225, 0, none⟩ (.int .i64 (wrap64 (1 + (Int.tmod (wrap64 ((Int.tmod ((rd_T25 l0 x6_1).f0) 3) + 3)) 3))))).setCell ⟨gb225, 1, none⟩ (.int .i64 0)).setCell ⟨gb225, 2, none⟩ (.string (⟨#[]⟩ : ByteArray))) = w18 at n0_ n1_ n2_ ⊢
            have HO_5 := n0_
            have BK225 := n1_
            have HB := n2_
            clear n0_ n1_ n2_
            have n0_ := am (Kd.R_drew HO_5.out)
            have n1_ := am (blk_drew BK225.out)
            have n2_ := am (below_drew1 HB.out)
            clear HO_5
            clear BK225
            clear HB
            have HO_5 := n0_
            have BK225 := n1_
            have HB := n2_
            clear n0_ n1_ n2_
            have p226 : 0 ≤ (x6_1 : Int) := of_decide_eq_true as0
            have q226 : x6_1 < (l0.length : Int) := of_decide_eq_true as0
            obtain ⟨ad226, e226, hx226_0, hx226_1, hx226_2⟩ := at_T25 HR0.out x6_1 p226 q226
            have hw226_2 := hx226_2
            have hw226_1 := hx226_1
            have hw226_0 := hx226_0
            obtain rfl : ad224 = ad226 := (by injection e226)
            replace hx226_0 := (HB.out.cell (World.block_lt_of_cell? w _ hx226_0)).trans hx226_0
            replace hx226_1 := (HB.out.cell (World.block_lt_of_cell? w _ hx226_1)).trans hx226_1
            replace hx226_2 := (HB.out.cell (World.block_lt_of_cell? w _ hx226_2)).trans hx226_2
            replace p226 := eq_true p226
            replace q226 := eq_true q226
            have p227 : 0 ≤ (x6_1 : Int) := of_decide_eq_true as0
            have q227 : x6_1 < (l0.length : Int) := of_decide_eq_true as0
            obtain ⟨ad227, e227, hx227_0, hx227_1, hx227_2⟩ := at_T25 HR0.out x6_1 p227 q227
            have hw227_2 := hx227_2
            have hw227_1 := hx227_1
            have hw227_0 := hx227_0
            obtain rfl : ad224 = ad227 := (by injection e227)
            replace hx227_0 := (HB.out.cell (World.block_lt_of_cell? w _ hx227_0)).trans hx227_0
            replace hx227_1 := (HB.out.cell (World.block_lt_of_cell? w _ hx227_1)).trans hx227_1
            replace hx227_2 := (HB.out.cell (World.block_lt_of_cell? w _ hx227_2)).trans hx227_2
            replace p227 := eq_true p227
            replace q227 := eq_true q227
            refine start_ (n := 16) (S := fun w' => w'.cell? (ad224.add ((x6_1).toNat * 3)) = some (.int .i64 ((rd_T25 l0 x6_1).f0)) ∧ w'.cell? ⟨(ad224.add ((x6_1).toNat * 3)).block, (ad224.add ((x6_1).toNat * 3)).off + 1, none⟩ = some (.int .i64 ((rd_T25 l0 x6_1).f1)) ∧ w'.cell? ⟨(ad224.add ((x6_1).toNat * 3)).block, (ad224.add ((x6_1).toNat * 3)).off + 2, none⟩ = some (.string ((rd_T25 l0 x6_1).f2)) ∧ w'.cell? (ad224.add ((x6_1).toNat * 3)) = some (.int .i64 ((rd_T25 l0 x6_1).f0)) ∧ w'.cell? ⟨(ad224.add ((x6_1).toNat * 3)).block, (ad224.add ((x6_1).toNat * 3)).off + 1, none⟩ = some (.int .i64 ((rd_T25 l0 x6_1).f1)) ∧ w'.cell? ⟨(ad224.add ((x6_1).toNat * 3)).block, (ad224.add ((x6_1).toNat * 3)).off + 2, none⟩ = some (.string ((rd_T25 l0 x6_1).f2))) (ds := []) #[false, false, false, false, false, false, false, false, false, false, false, false, false, false, false, false] (by kernel_rfl) rfl rfl ⟨((HB.out.cell (World.block_lt_of_cell? w _ hw226_0)).trans hw226_0), ((HB.out.cell (World.block_lt_of_cell? w _ hw226_1)).trans hw226_1), ((HB.out.cell (World.block_lt_of_cell? w _ hw226_2)).trans hw226_2), ((HB.out.cell (World.block_lt_of_cell? w _ hw227_0)).trans hw227_0), ((HB.out.cell (World.block_lt_of_cell? w _ hw227_1)).trans hw227_1), ((HB.out.cell (World.block_lt_of_cell? w _ hw227_2)).trans hw227_2)⟩ (fun hHeld => ?_); refine with_tabW epitomeref04_Fit.tab7 epitomeref04_Fit.bits7 (fun HT_ HW_ => ?_)
            generalize w18.drew = w19 at HO_5 BK225 HB hx226_0 hx226_1 hx226_2 hx227_0 hx227_1 hx227_2 hHeld ⊢
            refine pure_ (i := 0) (N := some 32) #[true, false, false, false, false, false, false, false, false, false, false, false, false, false, false, false] rfl rfl (aT HT_.out) (fun _ _ _ h => h) (Or.inl ⟨rfl, rn⟩) ap ?_
            refine pure_ (i := 1) (N := some 33) #[true, true, false, false, false, false, false, false, false, false, false, false, false, false, false, false] rfl rfl (aT HT_.out) (fun _ _ _ h => h) (Or.inl ⟨rfl, rn⟩) ap ?_
            refine pure_ (i := 2) (N := some 34) #[true, true, true, false, false, false, false, false, false, false, false, false, false, false, false, false] rfl rfl (aT HT_.out) (fun _ _ _ h => h) (Or.inl ⟨rfl, rn⟩) ap ?_
            refine pure_ (i := 3) (N := some 35) #[true, true, true, true, false, false, false, false, false, false, false, false, false, false, false, false] rfl rfl (aT HT_.out) (fun _ _ _ h => h) (Or.inl ⟨rfl, rn⟩) ap ?_
            refine pure_ (i := 5) (N := some 37) #[true, true, true, true, false, true, false, false, false, false, false, false, false, false, false, false] rfl rfl (aT HT_.out) (fun _ _ _ h => h) (Or.inl ⟨rfl, rn⟩) ap ?_
            refine pure_ (i := 6) (N := some 38) #[true, true, true, true, false, true, true, false, false, false, false, false, false, false, false, false] rfl rfl (aT HT_.out) (fun _ _ _ h => h) (Or.inl ⟨rfl, rn⟩) ap ?_
            refine pure_ (i := 7) (N := some 39) #[true, true, true, true, false, true, true, true, false, false, false, false, false, false, false, false] rfl rfl (aT HT_.out) (fun _ _ _ h => h) (Or.inl ⟨rfl, rn⟩) ap ?_
            refine pure_ (i := 8) (N := some 40) #[true, true, true, true, false, true, true, true, true, false, false, false, false, false, false, false] rfl rfl (aT HT_.out) (fun _ _ _ h => h) (Or.inl ⟨rfl, rn⟩) ap ?_
            refine take_ (i := 4) (N := some 36) (v := ?_) (a' := ?_) #[true, true, true, true, true, true, true, true, true, false, false, false, false, false, false, false] rfl rfl (take_ofW HT_.out HW_.out (by kernel_rfl)) (fun _ _ _ h => h) (Or.inl ⟨by rfl, ?_⟩) hHeld ?_ ?_
            rotate_left
            ·rintro w' ⟨s0, s1, s2, s3, s4, s5⟩
             go_simp
             with_reducible rfl
            rotate_left
            ·exact ap
            refine take_ (i := 9) (N := some 41) (v := ?_) (a' := ?_) #[true, true, true, true, true, true, true, true, true, true, false, false, false, false, false, false] rfl rfl (take_ofW HT_.out HW_.out (by kernel_rfl)) (fun _ _ _ h => h) (Or.inl ⟨by rfl, ?_⟩) hHeld ?_ ?_
            rotate_left
            ·rintro w' ⟨s0, s1, s2, s3, s4, s5⟩
             go_simp
             with_reducible rfl
            rotate_left
            ·exact ap
            refine pure_ (i := 10) (N := some 42) #[true, true, true, true, true, true, true, true, true, true, true, false, false, false, false, false] rfl rfl (aT HT_.out) (fun _ _ _ h => h) (Or.inl ⟨rfl, rn⟩) ap ?_
            refine pure_ (i := 11) (N := some 43) #[true, true, true, true, true, true, true, true, true, true, true, true, false, false, false, false] rfl rfl (aT HT_.out) (fun _ _ _ h => h) (Or.inl ⟨rfl, rn⟩) ap ?_
            refine pure_ (i := 12) (N := some 44) #[true, true, true, true, true, true, true, true, true, true, true, true, true, false, false, false] rfl rfl (aT HT_.out) (fun _ _ _ h => h) (Or.inl ⟨rfl, rn⟩) ap ?_
            refine one_ (i := 13) (N := some 45) #[true, true, true, true, true, true, true, true, true, true, true, true, true, true, false, false] rfl rfl (one_of HT_.out (by kernel_rfl)) (by decide) (fun K hK => ?_)
            refine goes_ Tryd.func9 (by kernel_rfl) rfl #[.string (((rd_T25 l0 x6_1).f2).extract 0 ((ji11) : Int).toNat)] (by rfl) rfl rfl (by (try simp only [List.map_toArray, List.map_cons, List.map_nil]); first | done | (simp only [hji11]; rfl) | rfl | (simp only [List.length_drop, List.length_take]; rfl)) ?_
            with_reducible refine (epitomeref01_Fit.calls kj4 (((rd_T25 l0 x6_1).f2).extract 0 ((ji11) : Int).toNat) t228 _ A14.out).mono ?_
            rintro e w20 ⟨rfl, hb⟩
            refine ⟨_, rfl, ?_⟩
            have n0_ := am (Kd.R_below (by refine kR ?_; exact HO_5.out) hb)
            have n1_ := am (blk_below (g := gb225) (o := .cells #[.int .i64 (wrap64 (1 + (Int.tmod (wrap64 ((Int.tmod ((rd_T25 l0 x6_1).f0) 3) + 3)) 3))), .int .i64 0, .string (⟨#[]⟩ : ByteArray)] 25 (0, 0)) (by refine bk ?_; exact BK225.out) hb)
            have n2_ := am (below_step bl hb)
            clear HO_5
            clear BK225
            clear HB
            have HO_5 := n0_
            have BK225 := n1_
            have HB := n2_
            clear n0_ n1_ n2_
            (try clear hb)
            (try clear hb2)
            (try clear hk)
            (try clear hi)
            refine hK.out _ _ ⟨((HB.out.cell (World.block_lt_of_cell? w _ hw226_0)).trans hw226_0), ((HB.out.cell (World.block_lt_of_cell? w _ hw226_1)).trans hw226_1), ((HB.out.cell (World.block_lt_of_cell? w _ hw226_2)).trans hw226_2), ((HB.out.cell (World.block_lt_of_cell? w _ hw227_0)).trans hw227_0), ((HB.out.cell (World.block_lt_of_cell? w _ hw227_1)).trans hw227_1), ((HB.out.cell (World.block_lt_of_cell? w _ hw227_2)).trans hw227_2)⟩ (fun hHeld => ?_)
            clear hK K
            refine norm_ (a' := ?_) ?_ ?_
            rotate_left
            ·show Act.put _ (some 45) _ = _
             simp only [Act.put, List.setIfInBounds_toArray, List.set_cons_zero, List.set_cons_succ, i64_w, i32_w]
             rfl
            refine pure_ (i := 14) (N := some 46) #[true, true, true, true, true, true, true, true, true, true, true, true, true, true, true, false] rfl rfl (aT HT_.out) (fun _ _ _ h => h) (Or.inl ⟨rfl, rn⟩) ap ?_
            refine one_ (i := 15) (N := none) #[true, true, true, true, true, true, true, true, true, true, true, true, true, true, true, true] rfl rfl (one_of HT_.out (by kernel_rfl)) (by decide) (fun K hK => ?_)
            have hs21 : w20.cell? ⟨gb225, 2, none⟩ = some (.string (⟨#[]⟩ : ByteArray)) := (blk_cell BK225.out 2).trans rfl
            have hfs21 := blk_frozen BK225.out 2
            refine skip_ (w1 := ?_) (by rfl) rfl ?_ ?_
            rotate_left
            ·go_simp
             rfl
            refine hK.out _ _ ⟨((cell_far (p := ⟨gb225, _, none⟩) (by first | exact Nat.ne_of_lt (Nat.lt_of_lt_of_le (by have := World.block_lt_of_cell? _ _ hw226_0; first | rwa [add_block] at this | exact this) GW225.out) | (rw [add_block]; exact Nat.ne_of_lt (Nat.lt_of_lt_of_le (by have := World.block_lt_of_cell? _ _ hw226_0; first | rwa [add_block] at this | exact this) GW225.out)) | (show (Addr.add _ _).block ≠ _; rw [add_block]; exact Nat.ne_of_lt (Nat.lt_of_lt_of_le (by have := World.block_lt_of_cell? _ _ hw226_0; first | rwa [add_block] at this | exact this) GW225.out)) | (dsimp only; exact Nat.ne_of_lt (Nat.lt_of_lt_of_le (by have := World.block_lt_of_cell? _ _ hw226_0; first | rwa [add_block] at this | exact this) GW225.out))) _).trans (hHeld.1)), ((cell_far (p := ⟨gb225, _, none⟩) (by first | exact Nat.ne_of_lt (Nat.lt_of_lt_of_le (by have := World.block_lt_of_cell? _ _ hw226_1; first | rwa [add_block] at this | exact this) GW225.out) | (rw [add_block]; exact Nat.ne_of_lt (Nat.lt_of_lt_of_le (by have := World.block_lt_of_cell? _ _ hw226_1; first | rwa [add_block] at this | exact this) GW225.out)) | (show (Addr.add _ _).block ≠ _; rw [add_block]; exact Nat.ne_of_lt (Nat.lt_of_lt_of_le (by have := World.block_lt_of_cell? _ _ hw226_1; first | rwa [add_block] at this | exact this) GW225.out)) | (dsimp only; exact Nat.ne_of_lt (Nat.lt_of_lt_of_le (by have := World.block_lt_of_cell? _ _ hw226_1; first | rwa [add_block] at this | exact this) GW225.out))) _).trans (hHeld.2.1)), ((cell_far (p := ⟨gb225, _, none⟩) (by first | exact Nat.ne_of_lt (Nat.lt_of_lt_of_le (by have := World.block_lt_of_cell? _ _ hw226_2; first | rwa [add_block] at this | exact this) GW225.out) | (rw [add_block]; exact Nat.ne_of_lt (Nat.lt_of_lt_of_le (by have := World.block_lt_of_cell? _ _ hw226_2; first | rwa [add_block] at this | exact this) GW225.out)) | (show (Addr.add _ _).block ≠ _; rw [add_block]; exact Nat.ne_of_lt (Nat.lt_of_lt_of_le (by have := World.block_lt_of_cell? _ _ hw226_2; first | rwa [add_block] at this | exact this) GW225.out)) | (dsimp only; exact Nat.ne_of_lt (Nat.lt_of_lt_of_le (by have := World.block_lt_of_cell? _ _ hw226_2; first | rwa [add_block] at this | exact this) GW225.out))) _).trans (hHeld.2.2.1)), ((cell_far (p := ⟨gb225, _, none⟩) (by first | exact Nat.ne_of_lt (Nat.lt_of_lt_of_le (by have := World.block_lt_of_cell? _ _ hw227_0; first | rwa [add_block] at this | exact this) GW225.out) | (rw [add_block]; exact Nat.ne_of_lt (Nat.lt_of_lt_of_le (by have := World.block_lt_of_cell? _ _ hw227_0; first | rwa [add_block] at this | exact this) GW225.out)) | (show (Addr.add _ _).block ≠ _; rw [add_block]; exact Nat.ne_of_lt (Nat.lt_of_lt_of_le (by have := World.block_lt_of_cell? _ _ hw227_0; first | rwa [add_block] at this | exact this) GW225.out)) | (dsimp only; exact Nat.ne_of_lt (Nat.lt_of_lt_of_le (by have := World.block_lt_of_cell? _ _ hw227_0; first | rwa [add_block] at this | exact this) GW225.out))) _).trans (hHeld.2.2.2.1)), ((cell_far (p := ⟨gb225, _, none⟩) (by first | exact Nat.ne_of_lt (Nat.lt_of_lt_of_le (by have := World.block_lt_of_cell? _ _ hw227_1; first | rwa [add_block] at this | exact this) GW225.out) | (rw [add_block]; exact Nat.ne_of_lt (Nat.lt_of_lt_of_le (by have := World.block_lt_of_cell? _ _ hw227_1; first | rwa [add_block] at this | exact this) GW225.out)) | (show (Addr.add _ _).block ≠ _; rw [add_block]; exact Nat.ne_of_lt (Nat.lt_of_lt_of_le (by have := World.block_lt_of_cell? _ _ hw227_1; first | rwa [add_block] at this | exact this) GW225.out)) | (dsimp only; exact Nat.ne_of_lt (Nat.lt_of_lt_of_le (by have := World.block_lt_of_cell? _ _ hw227_1; first | rwa [add_block] at this | exact this) GW225.out))) _).trans (hHeld.2.2.2.2.1)), ((cell_far (p := ⟨gb225, _, none⟩) (by first | exact Nat.ne_of_lt (Nat.lt_of_lt_of_le (by have := World.block_lt_of_cell? _ _ hw227_2; first | rwa [add_block] at this | exact this) GW225.out) | (rw [add_block]; exact Nat.ne_of_lt (Nat.lt_of_lt_of_le (by have := World.block_lt_of_cell? _ _ hw227_2; first | rwa [add_block] at this | exact this) GW225.out)) | (show (Addr.add _ _).block ≠ _; rw [add_block]; exact Nat.ne_of_lt (Nat.lt_of_lt_of_le (by have := World.block_lt_of_cell? _ _ hw227_2; first | rwa [add_block] at this | exact this) GW225.out)) | (dsimp only; exact Nat.ne_of_lt (Nat.lt_of_lt_of_le (by have := World.block_lt_of_cell? _ _ hw227_2; first | rwa [add_block] at this | exact this) GW225.out))) _).trans (hHeld.2.2.2.2.2))⟩ (fun hHeld => ?_)
            clear hK K
            refine done_ (done_of HT_.out (by kernel_rfl)) ?_
            have hcz22_0 : w20.cell? ⟨gb225, 0, none⟩ = some (.int .i64 (wrap64 (1 + (Int.tmod (wrap64 ((Int.tmod ((rd_T25 l0 x6_1).f0) 3) + 3)) 3)))) := (blk_cell BK225.out 0).trans rfl
            have hcz22_1 : w20.cell? ⟨gb225, 1, none⟩ = some (.int .i64 0) := (blk_cell BK225.out 1).trans rfl
            have hcz22_2 : w20.cell? ⟨gb225, 2, none⟩ = some (.string (⟨#[]⟩ : ByteArray)) := (blk_cell BK225.out 2).trans rfl
            have hfz22_0 := blk_frozen BK225.out 0
            have hfz22_1 := blk_frozen BK225.out 1
            have hfz22_2 := blk_frozen BK225.out 2
            try go_wp2_with (first | ((with_reducible refine gate_builtin (b := .append) (xs := #[.tmp 62, .tmp 64]) rfl ?_); at_builtin; refine Kd.R_append k25 (w0 := w) w.heap.size rfl (.tmp 62) (.tmp 64) 27 25 (.agg #[(.int .i64 0), (.int .i64 0), (.string ⟨#[]⟩)]) 32 rfl Tryd.underlying27 info25 rfl (by decide) (by omega) u5 x5_1 (⟨wrap64 (1 + (Int.tmod (wrap64 ((Int.tmod ((rd_T25 l0 x6_1).f0) 3) + 3)) 3)), 0, t228⟩ : S25) [.int .i64 (wrap64 (1 + (Int.tmod (wrap64 ((Int.tmod ((rd_T25 l0 x6_1).f0) 3) + 3)) 3))), .int .i64 0, .string t228] (fun k_ => k_ ≠ gb225) (fun _ => False) rfl (by first | (go_simp; done) | (go_simp; rfl)) ?aP (fun _ hk => hk.elim) ?aF ?aO ?aB ?aS ?aL ?_; (case aP => exact k25_mkM _ _ _ (⟨wrap64 (1 + (Int.tmod (wrap64 ((Int.tmod ((rd_T25 l0 x6_1).f0) 3) + 3)) 3)), 0, t228⟩ : S25)); (case aB => exact bl); (case aF => exact (fun k_ hk => Kd.freshB (g := gb225) (o := .cells #[.int .i64 (wrap64 (1 + (Int.tmod (wrap64 ((Int.tmod ((rd_T25 l0 x6_1).f0) 3) + 3)) 3))), .int .i64 0, .string t228] 25 (0, 0)) (by refine bk ?_; refine blk_put (cs := #[.int .i64 (wrap64 (1 + (Int.tmod (wrap64 ((Int.tmod ((rd_T25 l0 x6_1).f0) 3) + 3)) 3))), .int .i64 0, .string (⟨#[]⟩ : ByteArray)]) ?_ 2 _ rfl; refine bk ?_; exact BK225.out) k_ hk)); (case aO => exact (by refine kR ?_; exact Kd.R_mono (Kd.R_far (p := ⟨gb225, 2, none⟩) (Kd.R_mono HO_5.out (fun k_ hk => (⟨hk, hk⟩ : _ ∧ k_ ≠ gb225))) (fun _ hk => hk.2) (.string t228)) (fun _ hk => hk.1))); (case aS => exact (below_size bl)); (case aL => have := LMc15.out; omega); intro v230 w23 ho hb hg hat; rw [← Ny229.out] at ho; have n0_ := am (blk_grown (g := gb225) (o := .cells #[.int .i64 (wrap64 (1 + (Int.tmod (wrap64 ((Int.tmod ((rd_T25 l0 x6_1).f0) 3) + 3)) 3))), .int .i64 0, .string t228] 25 (0, 0)) (by refine bk ?_; refine blk_put (cs := #[.int .i64 (wrap64 (1 + (Int.tmod (wrap64 ((Int.tmod ((rd_T25 l0 x6_1).f0) 3) + 3)) 3))), .int .i64 0, .string (⟨#[]⟩ : ByteArray)]) ?_ 2 _ rfl; refine bk ?_; exact BK225.out) hg (Kd.R_away HO_5.out (fun _ hk => hk))); have n1_ := am (hb); have n2_ := am (ho); clear BK225; clear HB; clear HO_5; have BK225 := n0_; have HB := n1_; have HO231 := n2_; clear n0_ n1_ n2_; clear ho hb hg hat))
            go_roundg kj4
            case measure => have := HK1.out; have := HJ4.out; omega
            case rel => exact ⟨(x1_1), (y229), (wrap64 (x6_1 + 1)), pj, pj, H', ⟨by have := HK1.out; have := HJ4.out; omega⟩, ⟨by refine kR ?_; exact Kd.R_mono HO231.out (fun _ hk => trivial)⟩, ⟨bl⟩⟩
           ·rw [if_neg c15] at H
            exact absurd H (by simp)
          ·rw [if_neg c13] at H
           exact absurd H (by simp)
         ·rw [if_neg c12] at H
          exact absurd H (by simp)
        ·rw [if_neg c10] at H
         have c10b0 : ((wrap64 (1 + (Int.tmod (wrap64 ((Int.tmod ((rd_T25 l0 x6_1).f0) 3) + 3)) 3))) == 2) = false := beq_eq_false_iff_ne.mpr c10
         have c10b1 : ((wrap64 (1 + (Int.tmod (wrap64 ((Int.tmod ((rd_T25 l0 x6_1).f0) 3) + 3)) 3))) != 2) = true := bne_iff_ne.mpr c10
         obtain ⟨ji24, hji24⟩ : ∃ j_ : Int, (mn (Int.tmod (wrap64 ((Int.tmod ((rd_T25 l0 x6_1).f1) 7) + 7)) 7) x1_1) = j_ := ⟨_, rfl⟩
         replace H : (if x5_1.length < 4398046511104 then (epitomeref04_Fit.l0 kj4 l0 (wrap64 (x1_1 - (ji24))) (x5_1 ++ [(⟨wrap64 (1 + (Int.tmod (wrap64 ((Int.tmod ((rd_T25 l0 x6_1).f0) 3) + 3)) 3)), ji24, (⟨#[]⟩ : ByteArray)⟩ : S25)]) (wrap64 (x6_1 + 1))) else (none)) = some r := by first | (rw [hji24] at H; exact H) | (simp only [hji24] at H ⊢; exact H)
         have hji24_ : (if x1_1 < (Int.tmod (wrap64 ((Int.tmod ((rd_T25 l0 x6_1).f1) 7) + 7)) 7) then x1_1 else (Int.tmod (wrap64 ((Int.tmod ((rd_T25 l0 x6_1).f1) 7) + 7)) 7)) = ji24 := hji24
         by_cases c25 : x5_1.length < 4398046511104
         ·rw [if_pos c25] at H
          have LMc25 := am c25
          clear c25
          obtain ⟨y233, hy233⟩ : ∃ y_ : List (S25), y_ = (x5_1 ++ [(⟨wrap64 (1 + (Int.tmod (wrap64 ((Int.tmod ((rd_T25 l0 x6_1).f0) 3) + 3)) 3)), ji24, (⟨#[]⟩ : ByteArray)⟩ : S25)]) := ⟨_, rfl⟩
          replace H : (epitomeref04_Fit.l0 kj4 l0 (wrap64 (x1_1 - (ji24))) y233 (wrap64 (x6_1 + 1))) = some r := by first | (rw [hy233]; with_reducible exact H) | (have H2_ := (Option.bind_some _ _).symm.trans H; rw [hy233]; with_reducible exact H2_) | (have H2_ := (Option.bind_some _ _).symm.trans H; with_reducible exact H2_) | with_reducible exact H | (rw [hy233]; exact H) | exact H
          have Ny233 := am hy233
          clear hy233
          have H' := am H
          clear H
          have p224 : 0 ≤ (x6_1 : Int) := of_decide_eq_true as0
          have q224 : x6_1 < (l0.length : Int) := of_decide_eq_true as0
          obtain ⟨ad224, e224, hx224_0, hx224_1, hx224_2⟩ := at_T25 HR0.out x6_1 p224 q224
          cases e224
          replace hx224_0 := (HB.out.cell (World.block_lt_of_cell? w _ hx224_0)).trans hx224_0
          replace hx224_1 := (HB.out.cell (World.block_lt_of_cell? w _ hx224_1)).trans hx224_1
          replace hx224_2 := (HB.out.cell (World.block_lt_of_cell? w _ hx224_2)).trans hx224_2
          replace p224 := eq_true p224
          replace q224 := eq_true q224
          go_wp2_with (first | ((with_reducible refine gate_dst (N := 7) rfl ?_); refine box_event ?hg (N := 7) ?hd (cs := #[.int .i64 0, .int .i64 0, .string (⟨#[]⟩ : ByteArray)]) (t := 25) ?hr ?_; (case hd => rfl); (case hg => rfl); (case hr => first | (go_simp; done) | (go_simp; rfl)); intro gb225 hg w26 hbox hb; have n0_ := am (Kd.R_below (Kd.R_elderB (by refine kR ?_; exact HO_5.out) gb225 (Nat.le_of_eq hg.symm)) hb); have n1_ := am (below_step bl hb); have n2_ := am (hbox); have n3_ := am ((gs : w.heap.size ≤ gb225)); have n4_ := am ((gs : w.heap.size ≤ gb225)); clear HO_5; clear HB; have HO_5 := n0_; have HB := n1_; have BK225 := n2_; have GW225 := n3_; have GE225 := n4_; clear n0_ n1_ n2_ n3_ n4_; clear hb hbox hg; have hcz27_0 : w26.cell? ⟨gb225, 0, none⟩ = some (.int .i64 0) := (blk_cell BK225.out 0).trans rfl; have hcz27_1 : w26.cell? ⟨gb225, 1, none⟩ = some (.int .i64 0) := (blk_cell BK225.out 1).trans rfl; have hcz27_2 : w26.cell? ⟨gb225, 2, none⟩ = some (.string (⟨#[]⟩ : ByteArray)) := (blk_cell BK225.out 2).trans rfl; have hfz27_0 := blk_frozen BK225.out 0; have hfz27_1 := blk_frozen BK225.out 1; have hfz27_2 := blk_frozen BK225.out 2; have hcw_ : ((((w26.setCell ⟨gb225, 0, none⟩ (.int .i64 (wrap64 (1 + (Int.tmod (wrap64 ((Int.tmod ((rd_T25 l0 x6_1).f0) 3) + 3)) 3))))).setCell ⟨gb225, 1, none⟩ (.int .i64 0)).setCell ⟨gb225, 2, none⟩ (.string (⟨#[]⟩ : ByteArray))).setCell ⟨gb225, 1, none⟩ (.int .i64 ji24)).cell? ⟨gb225, 1, none⟩ = some (.int .i64 ji24) := (blk_cell (blk_put (blk_put (blk_put (blk_put BK225.out 0 _ rfl) 1 _ rfl) 2 _ rfl) 1 _ rfl) 1).trans rfl; have p232 : 0 ≤ (x6_1 : Int) := of_decide_eq_true as0; have q232 : x6_1 < (l0.length : Int) := of_decide_eq_true as0; obtain ⟨ad232, e232, hx232_0, hx232_1, hx232_2⟩ := at_T25 HR0.out x6_1 p232 q232; obtain rfl : ad224 = ad232 := (by injection e232); have hn232_0 : ad224.block ≠ gb225 := Nat.ne_of_lt (Nat.lt_of_lt_of_le (by have := World.block_lt_of_cell? _ _ hx232_0; first | rwa [add_block] at this | exact this) GW225.out); have hn232_1 : ad224.block ≠ gb225 := Nat.ne_of_lt (Nat.lt_of_lt_of_le (by have := World.block_lt_of_cell? _ _ hx232_0; first | rwa [add_block] at this | exact this) GW225.out); have hn232_2 : ad224.block ≠ gb225 := Nat.ne_of_lt (Nat.lt_of_lt_of_le (by have := World.block_lt_of_cell? _ _ hx232_0; first | rwa [add_block] at this | exact this) GW225.out); replace hx232_0 := (HB.out.cell (World.block_lt_of_cell? w _ hx232_0)).trans hx232_0; replace hx232_1 := (HB.out.cell (World.block_lt_of_cell? w _ hx232_1)).trans hx232_1; replace hx232_2 := (HB.out.cell (World.block_lt_of_cell? w _ hx232_2)).trans hx232_2; replace hx232_0 := (cell_far (p := ⟨gb225, 0, none⟩) (by first | (rw [add_block]; exact hn232_0) | (show (Addr.add _ _).block ≠ _; rw [add_block]; exact hn232_0) | exact hn232_0) (.int .i64 (wrap64 (1 + (Int.tmod (wrap64 ((Int.tmod ((rd_T25 l0 x6_1).f0) 3) + 3)) 3))))).trans hx232_0; replace hx232_1 := (cell_far (p := ⟨gb225, 0, none⟩) (by first | (rw [add_block]; exact hn232_0) | (show (Addr.add _ _).block ≠ _; rw [add_block]; exact hn232_0) | exact hn232_0) (.int .i64 (wrap64 (1 + (Int.tmod (wrap64 ((Int.tmod ((rd_T25 l0 x6_1).f0) 3) + 3)) 3))))).trans hx232_1; replace hx232_2 := (cell_far (p := ⟨gb225, 0, none⟩) (by first | (rw [add_block]; exact hn232_0) | (show (Addr.add _ _).block ≠ _; rw [add_block]; exact hn232_0) | exact hn232_0) (.int .i64 (wrap64 (1 + (Int.tmod (wrap64 ((Int.tmod ((rd_T25 l0 x6_1).f0) 3) + 3)) 3))))).trans hx232_2; replace hx232_0 := (cell_far (p := ⟨gb225, 1, none⟩) (by first | (rw [add_block]; exact hn232_1) | (show (Addr.add _ _).block ≠ _; rw [add_block]; exact hn232_1) | exact hn232_1) (.int .i64 0)).trans hx232_0; replace hx232_1 := (cell_far (p := ⟨gb225, 1, none⟩) (by first | (rw [add_block]; exact hn232_1) | (show (Addr.add _ _).block ≠ _; rw [add_block]; exact hn232_1) | exact hn232_1) (.int .i64 0)).trans hx232_1; replace hx232_2 := (cell_far (p := ⟨gb225, 1, none⟩) (by first | (rw [add_block]; exact hn232_1) | (show (Addr.add _ _).block ≠ _; rw [add_block]; exact hn232_1) | exact hn232_1) (.int .i64 0)).trans hx232_2; replace hx232_0 := (cell_far (p := ⟨gb225, 2, none⟩) (by first | (rw [add_block]; exact hn232_2) | (show (Addr.add _ _).block ≠ _; rw [add_block]; exact hn232_2) | exact hn232_2) (.string (⟨#[]⟩ : ByteArray))).trans hx232_0; replace hx232_1 := (cell_far (p := ⟨gb225, 2, none⟩) (by first | (rw [add_block]; exact hn232_2) | (show (Addr.add _ _).block ≠ _; rw [add_block]; exact hn232_2) | exact hn232_2) (.string (⟨#[]⟩ : ByteArray))).trans hx232_1; replace hx232_2 := (cell_far (p := ⟨gb225, 2, none⟩) (by first | (rw [add_block]; exact hn232_2) | (show (Addr.add _ _).block ≠ _; rw [add_block]; exact hn232_2) | exact hn232_2) (.string (⟨#[]⟩ : ByteArray))).trans hx232_2; clear hn232_0; clear hn232_1; clear hn232_2; replace p232 := eq_true p232; replace q232 := eq_true q232) | ((with_reducible refine gate_builtin (b := .append) (xs := #[.tmp 62, .tmp 64]) rfl ?_); at_builtin; refine Kd.R_append k25 (w0 := w) w.heap.size rfl (.tmp 62) (.tmp 64) 27 25 (.agg #[(.int .i64 0), (.int .i64 0), (.string ⟨#[]⟩)]) 32 rfl Tryd.underlying27 info25 rfl (by decide) (by omega) u5 x5_1 (⟨wrap64 (1 + (Int.tmod (wrap64 ((Int.tmod ((rd_T25 l0 x6_1).f0) 3) + 3)) 3)), ji24, (⟨#[]⟩ : ByteArray)⟩ : S25) [.int .i64 (wrap64 (1 + (Int.tmod (wrap64 ((Int.tmod ((rd_T25 l0 x6_1).f0) 3) + 3)) 3))), .int .i64 ji24, .string (⟨#[]⟩ : ByteArray)] (fun k_ => k_ ≠ gb225) (fun _ => False) rfl (by first | (go_simp; done) | (go_simp; rfl)) ?aP (fun _ hk => hk.elim) ?aF ?aO ?aB ?aS ?aL ?_; (case aP => exact k25_mkM _ _ _ (⟨wrap64 (1 + (Int.tmod (wrap64 ((Int.tmod ((rd_T25 l0 x6_1).f0) 3) + 3)) 3)), ji24, (⟨#[]⟩ : ByteArray)⟩ : S25)); (case aB => exact bl); (case aF => exact (fun k_ hk => Kd.freshB (g := gb225) (o := .cells #[.int .i64 (wrap64 (1 + (Int.tmod (wrap64 ((Int.tmod ((rd_T25 l0 x6_1).f0) 3) + 3)) 3))), .int .i64 ji24, .string (⟨#[]⟩ : ByteArray)] 25 (0, 0)) (by refine bk ?_; refine blk_put (cs := #[.int .i64 (wrap64 (1 + (Int.tmod (wrap64 ((Int.tmod ((rd_T25 l0 x6_1).f0) 3) + 3)) 3))), .int .i64 0, .string (⟨#[]⟩ : ByteArray)]) ?_ 1 _ rfl; refine bk ?_; refine blk_put (cs := #[.int .i64 (wrap64 (1 + (Int.tmod (wrap64 ((Int.tmod ((rd_T25 l0 x6_1).f0) 3) + 3)) 3))), .int .i64 0, .string (⟨#[]⟩ : ByteArray)]) ?_ 2 _ rfl; refine bk ?_; refine blk_put (cs := #[.int .i64 (wrap64 (1 + (Int.tmod (wrap64 ((Int.tmod ((rd_T25 l0 x6_1).f0) 3) + 3)) 3))), .int .i64 0, .string (⟨#[]⟩ : ByteArray)]) ?_ 1 _ rfl; refine bk ?_; refine blk_put (cs := #[.int .i64 0, .int .i64 0, .string (⟨#[]⟩ : ByteArray)]) ?_ 0 _ rfl; refine bk ?_; exact BK225.out) k_ hk)); (case aO => exact (by refine kR ?_; exact Kd.R_mono (Kd.R_far (p := ⟨gb225, 1, none⟩) (Kd.R_far (p := ⟨gb225, 2, none⟩) (Kd.R_far (p := ⟨gb225, 1, none⟩) (Kd.R_far (p := ⟨gb225, 0, none⟩) (Kd.R_mono HO_5.out (fun k_ hk => (⟨hk, hk.2⟩ : _ ∧ k_ ≠ gb225))) (fun _ hk => hk.2) (.int .i64 (wrap64 (1 + (Int.tmod (wrap64 ((Int.tmod ((rd_T25 l0 x6_1).f0) 3) + 3)) 3))))) (fun _ hk => hk.2) (.int .i64 0)) (fun _ hk => hk.2) (.string (⟨#[]⟩ : ByteArray))) (fun _ hk => hk.2) (.int .i64 ji24)) (fun _ hk => hk.1.2))); (case aS => exact (below_size bl)); (case aL => have := LMc25.out; omega); intro v234 w28 ho hb hg hat; rw [← Ny233.out] at ho; have n0_ := am (blk_grown (g := gb225) (o := .cells #[.int .i64 (wrap64 (1 + (Int.tmod (wrap64 ((Int.tmod ((rd_T25 l0 x6_1).f0) 3) + 3)) 3))), .int .i64 ji24, .string (⟨#[]⟩ : ByteArray)] 25 (0, 0)) (by refine bk ?_; refine blk_put (cs := #[.int .i64 (wrap64 (1 + (Int.tmod (wrap64 ((Int.tmod ((rd_T25 l0 x6_1).f0) 3) + 3)) 3))), .int .i64 0, .string (⟨#[]⟩ : ByteArray)]) ?_ 1 _ rfl; refine bk ?_; refine blk_put (cs := #[.int .i64 (wrap64 (1 + (Int.tmod (wrap64 ((Int.tmod ((rd_T25 l0 x6_1).f0) 3) + 3)) 3))), .int .i64 0, .string (⟨#[]⟩ : ByteArray)]) ?_ 2 _ rfl; refine bk ?_; refine blk_put (cs := #[.int .i64 (wrap64 (1 + (Int.tmod (wrap64 ((Int.tmod ((rd_T25 l0 x6_1).f0) 3) + 3)) 3))), .int .i64 0, .string (⟨#[]⟩ : ByteArray)]) ?_ 1 _ rfl; refine bk ?_; refine blk_put (cs := #[.int .i64 0, .int .i64 0, .string (⟨#[]⟩ : ByteArray)]) ?_ 0 _ rfl; refine bk ?_; exact BK225.out) hg (Kd.R_away HO_5.out (fun _ hk => hk.2))); have n1_ := am (hb); have n2_ := am (ho); clear BK225; clear HB; clear HO_5; have BK225 := n0_; have HB := n1_; have HO235 := n2_; clear n0_ n1_ n2_; clear ho hb hg hat))
          go_roundg kj4
          case measure => have := HK1.out; have := HJ4.out; omega
          case rel => exact ⟨(wrap64 (x1_1 - (ji24))), (y233), (wrap64 (x6_1 + 1)), (by first | rfl | (simp; done) | (simp only [← hji24] <;> (first | rfl | simp)) | (simp [*]; done)), pj, H', ⟨by have := HK1.out; have := HJ4.out; omega⟩, ⟨by refine kR ?_; exact Kd.R_mono HO235.out (fun _ hk => trivial)⟩, ⟨bl⟩⟩
         ·rw [if_neg c25] at H
          exact absurd H (by simp)
       ·rw [if_neg c9] at H
        exact absurd H (by simp)
      ·rw [if_neg c8] at H
       exact absurd H (by simp)
     ·replace c7 := Bool.eq_false_iff.mpr c7
      subst c7
      have H1 : (if x1_1 > 0 then (if x5_1.length < 4398046511104 then (some (x5_1 ++ [(⟨1, x1_1, (⟨#[]⟩ : ByteArray)⟩ : S25)])) else (none)) else (some x5_1)) = some r := by rw [if_neg (show ¬ (false = true) by decide)] at H; exact H
      clear H
      have H := H1
      clear H1
      by_cases c29 : x1_1 > 0
      ·rw [if_pos c29] at H
       have c29b0 : decide (0 < x1_1) = true := decide_eq_true c29
       clear c29
       by_cases c30 : x5_1.length < 4398046511104
       ·rw [if_pos c30] at H
        have LMc30 := am c30
        clear c30
        obtain ⟨y236, hy236⟩ : ∃ y_ : List (S25), y_ = (x5_1 ++ [(⟨1, x1_1, (⟨#[]⟩ : ByteArray)⟩ : S25)]) := ⟨_, rfl⟩
        replace H : (some y236) = some r := by first | (rw [hy236]; with_reducible exact H) | (have H2_ := (Option.bind_some _ _).symm.trans H; rw [hy236]; with_reducible exact H2_) | (have H2_ := (Option.bind_some _ _).symm.trans H; with_reducible exact H2_) | with_reducible exact H | (rw [hy236]; exact H) | exact H
        have Ny236 := am hy236
        clear hy236
        obtain rfl := Option.some.inj H
        simp only [Option.some.injEq, Prod.mk.injEq] at H
        obtain ⟨rfl⟩ := H
        go_wp2_with (first | ((with_reducible refine gate_builtin (b := .append) (xs := #[.tmp 68, .tmp 71]) rfl ?_); at_builtin; refine Kd.R_append k25 (w0 := w) w.heap.size rfl (.tmp 68) (.tmp 71) 27 25 (.agg #[(.int .i64 0), (.int .i64 0), (.string ⟨#[]⟩)]) 32 rfl Tryd.underlying27 info25 rfl (by decide) (by omega) u5 x5_1 (⟨1, x1_1, (⟨#[]⟩ : ByteArray)⟩ : S25) [.int .i64 1, .int .i64 x1_1, .string (⟨#[]⟩ : ByteArray)] (fun _ => True) (fun _ => False) rfl rfl ?aP (fun _ hk => hk.elim) ?aF ?aO ?aB ?aS ?aL ?_; (case aP => exact k25_mkM _ _ _ (⟨1, x1_1, (⟨#[]⟩ : ByteArray)⟩ : S25)); (case aB => exact bl); (case aF => exact (fun _ _ => trivial)); (case aO => exact (by refine kR ?_; exact HO_5.out)); (case aS => exact (below_size bl)); (case aL => have := LMc30.out; omega); intro v237 w31 ho hb hg hat; rw [← Ny236.out] at ho; have n0_ := am (hb); have n1_ := am (ho); clear HB; clear HO_5; have HB := n0_; have HO238 := n1_; clear n0_ n1_; clear ho hb hg hat))
        go_ret
        exact ⟨_, by first | rfl | (simp [errW_none, errW_some] <;> rfl) | (simp [*, errW_none, errW_some] <;> rfl), by refine kR ?_; exact HO238.out, bl⟩
       ·rw [if_neg c30] at H
        exact absurd H (by simp)
      ·rw [if_neg c29] at H
       have c29b0 : decide (0 < x1_1) = false := decide_eq_false c29
       clear c29
       obtain rfl := Option.some.inj H
       simp only [Option.some.injEq, Prod.mk.injEq] at H
       obtain ⟨rfl⟩ := H
       go_wp2
       go_ret
       exact ⟨_, by first | rfl | (simp [errW_none, errW_some] <;> rfl) | (simp [*, errW_none, errW_some] <;> rfl), by refine kR ?_; exact HO_5.out, bl⟩
def epitomeref04_Out.l0 : Nat → List (S25) → Int → Int → Option (Int)
 | 0, _, _, _ => none
 | k + 1, x0, x3, x4 => if x4 < (x0.length : Int) then (if 0 ≤ x4 then ((epitomeref03_Out.f k ((rd_T25 x0 x4).f0) ((rd_T25 x0 x4).f1) ((rd_T25 x0 x4).f2)).bind fun t255 => (epitomeref04_Out.l0 k x0 (wrap64 (x3 + t255)) (wrap64 (x4 + 1)))) else (none)) else (some x3)
def epitomeref04_Out.f (k : Nat) (l0 : List (S25)) : Option (Int) := epitomeref04_Out.l0 k l0 0 0
set_option maxHeartbeats 8000000 in
set_option maxRecDepth 100000 in
theorem epitomeref04_Out.calls (k : Nat) (A0 : Option Addr) (c0 : Nat) (l0 : List (S25)) (r : Int) (w : World) (hr0 : Kd.C k25 w A0 l0.length l0) (hc0 : l0.length ≤ c0) (h : epitomeref04_Out.f k l0 = some r) :
  Calls Tryd.prog 86 #[.slice A0 l0.length c0] w fun e w' => e = .returned (.int .i64 r) ∧ Below w.heap.size w w' := by
 have hu25 := Tryd.underlying25
 have HR0 := am hr0
 have HC0 := am hc0
 clear hr0 hc0
 have HB := am (Below.refl w.heap.size w)
 have H : (epitomeref04_Out.l0 k l0 0 0) = some r := h
 clear h
 have H' := am H
 clear H
 go_enter Tryd.func86, Tryd.ntmps86
 go_wp2
 go_loopg [3, 4] k (fun kq v3 v4 w' => ∃ (x3_1 : Int) (x4_1 : Int), v3 = .int .i64 x3_1 ∧ v4 = .int .i64 x4_1 ∧ Aside0 (epitomeref04_Out.l0 kq l0 x3_1 x4_1 = some r) ∧ Aside0 (kq ≤ k) ∧ Aside0 (Below w.heap.size w w'))
 case atStart => exact ⟨(0), (0), pj, pj, H', ⟨Nat.le_refl _⟩, ⟨bl⟩⟩
 case round =>
  clear H'
  obtain ⟨x3_1, x4_1, rfl, rfl, HA, HK1, HB⟩ := hrel
  cases gk with
  | zero => exact absurd HA.out (by simp [epitomeref04_Out.l0])
  | succ k1 =>
   have H := HA.out
   clear HA
   simp only [epitomeref04_Out.l0] at H
   by_cases c2 : x4_1 < (l0.length : Int)
   ·rw [if_pos c2] at H
    have c2b0 : decide (x4_1 < (l0.length : Int)) = true := decide_eq_true c2
    clear c2
    by_cases c3 : 0 ≤ x4_1
    ·rw [if_pos c3] at H
     have c3b0 : decide (0 ≤ x4_1) = true := decide_eq_true c3
     clear c3
     replace H := Option.bind_eq_some_iff.mp H
     obtain ⟨t255, A40, H⟩ := H
     replace H : (epitomeref04_Out.l0 k1 l0 (wrap64 (x3_1 + t255)) (wrap64 (x4_1 + 1))) = some r := H
     have A4 := am A40
     clear A40
     have H' := am H
     clear H
     have p254 : 0 ≤ (x4_1 : Int) := of_decide_eq_true as0
     have q254 : x4_1 < (l0.length : Int) := of_decide_eq_true as0
     obtain ⟨ad254, e254, hx254_0, hx254_1, hx254_2⟩ := at_T25 HR0.out x4_1 p254 q254
     cases e254
     replace hx254_0 := (HB.out.cell (World.block_lt_of_cell? w _ hx254_0)).trans hx254_0
     replace hx254_1 := (HB.out.cell (World.block_lt_of_cell? w _ hx254_1)).trans hx254_1
     replace hx254_2 := (HB.out.cell (World.block_lt_of_cell? w _ hx254_2)).trans hx254_2
     replace p254 := eq_true p254
     replace q254 := eq_true q254
     go_wp2_with (first | ((with_reducible refine gate_callee (f := 95) rfl ?_); refine goesL_ (some 16) rfl rfl Tryd.func95 (by kernel_rfl) rfl #[.agg #[.int .i64 ((rd_T25 l0 x4_1).f0), .int .i64 ((rd_T25 l0 x4_1).f1), .string ((rd_T25 l0 x4_1).f2)]] rfl ar ?_; (with_reducible refine (epitomeref03_Out.calls k1 ((rd_T25 l0 x4_1).f0) ((rd_T25 l0 x4_1).f1) ((rd_T25 l0 x4_1).f2) t255 _ A4.out).mono ?_); rintro e w5 ⟨rfl, hb⟩; refine ⟨_, rfl, ?_⟩; have n0_ := am (below_step bl hb); clear HB; have HB := n0_; clear n0_; (try clear hb); (try clear hb2); (try clear hk); (try clear hi)))
     go_roundg k1
     case measure => have := HK1.out; omega
     case rel => exact ⟨(wrap64 (x3_1 + t255)), (wrap64 (x4_1 + 1)), pj, pj, H', ⟨by have := HK1.out; omega⟩, ⟨bl⟩⟩
    ·rw [if_neg c3] at H
     exact absurd H (by simp)
   ·rw [if_neg c2] at H
    have c2b0 : decide (x4_1 < (l0.length : Int)) = false := decide_eq_false c2
    clear c2
    obtain rfl := Option.some.inj H
    simp only [Option.some.injEq, Prod.mk.injEq] at H
    obtain ⟨rfl⟩ := H
    go_wp2
    go_ret
    exact ⟨by first | rfl | (simp [errW_none, errW_some] <;> rfl) | (simp [*, errW_none, errW_some] <;> rfl), bl⟩
mutual
def epitomeref04_Chain.l0 : Nat → List (List (S25)) → Int → List (List (S25)) → Int → Option ((List (List (S25))))
 | 0, _, _, _, _ => none
 | k + 1, x0, x1, x5, x6 => if x6 < (x0.length : Int) then (epitomeref04_Chain.j1 k x0 x1 x5 x6 (decide (x6 < 20))) else (epitomeref04_Chain.j1 k x0 x1 x5 x6 false)
def epitomeref04_Chain.j1 : Nat → List (List (S25)) → Int → List (List (S25)) → Int → Bool → Option ((List (List (S25))))
 | 0, _, _, _, _, _ => none
 | k + 1, x0, x1, x5, x6, x16 => if x16 = true then (if 0 ≤ x6 then (if x6 < (x0.length : Int) then ((epitomeref04_Fit.f k (rd_L3 x0 x6) x1).bind fun t260 => (if x5.length < 5864062014805 then ((epitomeref04_Out.f k t260).bind fun t266 => (epitomeref04_Chain.l0 k x0 t266 (x5 ++ [t260]) (wrap64 (x6 + 1)))) else (none))) else (none)) else (none)) else (some x5)
end
def epitomeref04_Chain.f (k : Nat) (l0 : List (List (S25))) (a1 : Int) : Option ((List (List (S25)))) := epitomeref04_Chain.l0 k l0 a1 (([] : List (List (S25)))) 0
set_option maxHeartbeats 8000000 in
set_option maxRecDepth 100000 in
theorem epitomeref04_Chain.calls (k : Nat) (A0 : Option Addr) (c0 : Nat) (l0 : List (List (S25))) (a1 : Int) (r : List (List (S25))) (w : World) (hr0 : Kd.C (Kd.slice 25 k25) w A0 l0.length l0) (hc0 : l0.length ≤ c0) (h : epitomeref04_Chain.f k l0 a1 = some r) :
  Calls Tryd.prog 51 #[.slice A0 l0.length c0, .int .i64 a1] w fun e w' => ∃ v0_ : Value, e = .returned (v0_) ∧ Kd.S (Kd.slice 25 k25) 27 w' w.heap.size (fun _ => True) v0_ r ∧ Below w.heap.size w w' := by
 have HR0 := am hr0
 have HC0 := am hc0
 clear hr0 hc0
 have HB := am (Below.refl w.heap.size w)
 have H : (epitomeref04_Chain.l0 k l0 a1 (([] : List (List (S25)))) 0) = some r := h
 clear h
 obtain ⟨y256, hy256⟩ : ∃ y_ : List (List (S25)), y_ = (([] : List (List (S25)))) := ⟨_, rfl⟩
 replace H : (epitomeref04_Chain.l0 k l0 a1 y256 0) = some r := by first | (rw [hy256]; with_reducible exact H) | (have H2_ := (Option.bind_some _ _).symm.trans H; rw [hy256]; with_reducible exact H2_) | (have H2_ := (Option.bind_some _ _).symm.trans H; with_reducible exact H2_) | with_reducible exact H | (rw [hy256]; exact H) | exact H
 have Ny256 := am hy256
 clear hy256
 have H' := am H
 clear H
 go_enter Tryd.func51, Tryd.ntmps51
 go_wp2_with (first | ((with_reducible refine gate_dst (N := 8) rfl ?_); refine Kd.S_lit (Kd.slice 25 k25) _ 27 ?hg (N := 8) ?hd (xs := ([] : List (List (S25)))) (inner := []) (ok := fun _ => True) (okp := fun _ => True) ?hr ?hp (fun _ hk => hk) trivial (Below.refl _ _) (Nat.le_refl _) (by simp) ?_; (case hd => rfl); (case hg => rfl); (case hr => first | (go_simp; done) | (go_simp; rfl)); (case hp => exact (Reps.none _ _)); intro v257 w3 ho4 hb hg_ hnew_; clear hg_ hnew_; (first | rw [← Ny256.out] at ho4 | (simp only [Int.reduceToNat] at ho4; rw [← Ny256.out] at ho4)); have n0_ := am (Kd.S_lower ho4 (below_size bl)); have n1_ := am (below_step bl hb); clear HB; have HO258 := n0_; have HB := n1_; clear n0_ n1_; clear hb ho4))
 go_loopg [1, 5, 6] k (fun kq v1 v5 v6 w' => ∃ (x1_1 : Int) (x5_1 : List (List (S25))) (x6_1 : Int), v1 = .int .i64 x1_1 ∧ v6 = .int .i64 x6_1 ∧ Aside0 (epitomeref04_Chain.l0 kq l0 x1_1 x5_1 x6_1 = some r) ∧ Aside0 (kq ≤ k) ∧ Aside0 (Kd.S (Kd.slice 25 k25) 27 w' w.heap.size (fun _ => True) v5 x5_1) ∧ Aside0 (Below w.heap.size w w'))
 case atStart => exact ⟨(a1), (y256), (0), pj, pj, H', ⟨Nat.le_refl _⟩, ⟨by refine kS ?_; exact HO258.out⟩, ⟨bl⟩⟩
 case round =>
  clear H'
  try clear p2
  obtain ⟨x1_1, x5_1, x6_1, rfl, rfl, HA, HK1, HO_5, HB⟩ := hrel
  cases gk with
  | zero => exact absurd HA.out (by simp [epitomeref04_Chain.l0])
  | succ k1 =>
   have H := HA.out
   clear HA
   simp only [epitomeref04_Chain.l0] at H
   have HC5 := am H
   clear H
   go_upto_region 3 with (fail)
   go_cut [16] (fun v16 wc => ∃ (kq : Nat) (x16_4 : Bool), v16 = .bool x16_4 ∧ Aside0 (epitomeref04_Chain.j1 kq l0 x1_1 x5_1 x6_1 x16_4 = some r) ∧ Aside0 (kq ≤ k1) ∧ Aside0 (Kd.S (Kd.slice 25 k25) 27 wc w.heap.size (fun _ => True) u5 x5_1) ∧ Aside0 (Below w.heap.size w wc))
   case first =>
    have H := HC5.out
    clear HC5
    by_cases c6 : x6_1 < (l0.length : Int)
    ·rw [if_pos c6] at H
     have c6b0 : decide (x6_1 < (l0.length : Int)) = true := decide_eq_true c6
     clear c6
     (first | rw [c6b0] | (simp only [i64_w, i32_w]; rw [c6b0]) | skip)
     have H' := am H
     clear H
     go_wp2
     go_meet
     case rel => exact ⟨_, (decide (x6_1 < 20)), pj, H', ⟨by have := HK1.out; first | omega | exact Nat.le_refl _⟩, ⟨by refine kS ?_; exact HO_5.out⟩, ⟨bl⟩⟩
    ·rw [if_neg c6] at H
     have c6b0 : decide (x6_1 < (l0.length : Int)) = false := decide_eq_false c6
     clear c6
     (first | rw [c6b0] | (simp only [i64_w, i32_w]; rw [c6b0]) | skip)
     have H' := am H
     clear H
     go_wp2
     go_meet
     case rel => exact ⟨_, (false), pj, H', ⟨by have := HK1.out; first | omega | exact Nat.le_refl _⟩, ⟨by refine kS ?_; exact HO_5.out⟩, ⟨bl⟩⟩
   case rest =>
    clear HC5
    try clear p2
    try clear c5
    try clear c6
    try clear c6b0
    try clear p2
    obtain ⟨kq, x16_4, rfl, HA, HJ4, HO_5, HB⟩ := hcut
    cases kq with
    | zero => exact absurd HA.out (by simp [epitomeref04_Chain.j1])
    | succ kj4 =>
     have H := HA.out
     clear HA
     simp only [epitomeref04_Chain.j1] at H
     by_cases c7 : x16_4 = true
     ·subst c7
      have H1 : (if 0 ≤ x6_1 then (if x6_1 < (l0.length : Int) then ((epitomeref04_Fit.f kj4 (rd_L3 l0 x6_1) x1_1).bind fun t260 => (if x5_1.length < 5864062014805 then ((epitomeref04_Out.f kj4 t260).bind fun t266 => (epitomeref04_Chain.l0 kj4 l0 t266 (x5_1 ++ [t260]) (wrap64 (x6_1 + 1)))) else (none))) else (none)) else (none)) = some r := by rw [if_pos rfl] at H; exact H
      clear H
      have H := H1
      clear H1
      by_cases c8 : 0 ≤ x6_1
      ·rw [if_pos c8] at H
       have c8b0 : decide (0 ≤ x6_1) = true := decide_eq_true c8
       clear c8
       by_cases c9 : x6_1 < (l0.length : Int)
       ·rw [if_pos c9] at H
        have c9b0 : decide (x6_1 < (l0.length : Int)) = true := decide_eq_true c9
        clear c9
        replace H := Option.bind_eq_some_iff.mp H
        obtain ⟨t260, A100, H⟩ := H
        replace H : (if x5_1.length < 5864062014805 then ((epitomeref04_Out.f kj4 t260).bind fun t266 => (epitomeref04_Chain.l0 kj4 l0 t266 (x5_1 ++ [t260]) (wrap64 (x6_1 + 1)))) else (none)) = some r := H
        have A10 := am A100
        clear A100
        by_cases c11 : x5_1.length < 5864062014805
        ·rw [if_pos c11] at H
         have LMc11 := am c11
         clear c11
         obtain ⟨y263, hy263⟩ : ∃ y_ : List (List (S25)), y_ = (x5_1 ++ [t260]) := ⟨_, rfl⟩
         replace H : ((epitomeref04_Out.f kj4 t260).bind fun t266 => (epitomeref04_Chain.l0 kj4 l0 t266 y263 (wrap64 (x6_1 + 1)))) = some r := by first | (rw [hy263]; with_reducible exact H) | (have H2_ := (Option.bind_some _ _).symm.trans H; rw [hy263]; with_reducible exact H2_) | (have H2_ := (Option.bind_some _ _).symm.trans H; with_reducible exact H2_) | with_reducible exact H | (rw [hy263]; exact H) | exact H
         have Ny263 := am hy263
         clear hy263
         replace H := Option.bind_eq_some_iff.mp H
         obtain ⟨t266, A120, H⟩ := H
         replace H : (epitomeref04_Chain.l0 kj4 l0 t266 y263 (wrap64 (x6_1 + 1))) = some r := H
         have A12 := am A120
         clear A120
         have H' := am H
         clear H
         have p259 : 0 ≤ (x6_1 : Int) := of_decide_eq_true as0
         have q259 : x6_1 < (l0.length : Int) := of_decide_eq_true as0
         obtain ⟨ad259, A259_0, c259_0, e259, hx259_0, hl259_0, hi259_0⟩ := at_L3 HR0.out x6_1 p259 q259
         cases e259
         replace hx259_0 := (HB.out.cell (World.block_lt_of_cell? w _ hx259_0)).trans hx259_0
         have HR259_0 := am hi259_0
         have HC259_0 := am hl259_0
         clear hi259_0 hl259_0
         replace p259 := eq_true p259
         replace q259 := eq_true q259
         go_wp2_with (first | ((with_reducible refine gate_callee (f := 28) rfl ?_); refine goesL_ (some 24) rfl rfl Tryd.func28 (by kernel_rfl) rfl #[.slice A259_0 (rd_L3 l0 x6_1).length c259_0, .int .i64 x1_1] rfl ar ?_; (with_reducible refine (epitomeref04_Fit.calls kj4 _ _ (rd_L3 l0 x6_1) x1_1 t260 _ ?side1 ?side2 A10.out).mono ?_); (case side1 => repeat (first | exact (Kd.C_below HR259_0.out HB.out) | (with_reducible refine Kd.C_alloc ?_ _) | (with_reducible refine Kd.C_drewN ?_ _) | (with_reducible refine Kd.C_drew ?_))); (case side2 => exact HC259_0.out); rintro e w13 ⟨v261, rfl, ho0, hb⟩; refine ⟨_, rfl, ?_⟩; have n0_ := am (Kd.S_elder' (by refine kS ?_; exact HO_5.out) (Kd.R_base ho0) hb); have n1_ := am (Kd.R_lower ho0 (below_size bl)); have n2_ := am (below_step bl hb); clear HO_5; clear HB; have HO_5 := n0_; have HO262 := n1_; have HB := n2_; clear n0_ n1_ n2_; (try clear hb); (try clear hb2); (try clear hk); (try clear hi); (try clear ho0); obtain ⟨Ao15, co15, eo15⟩ := Kd.R_slice HO262.out; subst eo15) | ((with_reducible refine gate_builtin (b := .append) (xs := #[.tmp 25, .tmp 27]) rfl ?_); at_builtin; refine Kd.S_append (Kd.slice 25 k25) (w0 := w) w.heap.size rfl (.tmp 25) (.tmp 27) 28 27 (.slice none 0 0) 24 rfl Tryd.underlying28 info27 rfl (by decide) (by omega) u5 x5_1 t260 [.slice Ao15 t260.length co15] (fun _ => True) (fun k_ => some k_ = (.slice Ao15 t260.length co15 : Value).ownBlock) rfl rfl ?aP (fun k_ hk_ => ((Kd.R_mono (ok' := fun k_ => ((fun _ => True)) k_ ∧ some k_ ≠ (u5 : Value).ownBlock) (Kd.R_apart' (HO262.out) (Kd.S_typed HO_5.out) (by decide)) (fun k_ hk => ⟨trivial, hk.2⟩))).1 k_ hk_.symm) ?aF ?aO ?aB ?aS ?aL ?_; (case aP => exact Kd.M_row (Kd.R_mono (Kd.R_tight rfl (Kd.R_mono (ok' := fun k_ => ((fun _ => True)) k_ ∧ some k_ ≠ (u5 : Value).ownBlock) (Kd.R_apart' (HO262.out) (Kd.S_typed HO_5.out) (by decide)) (fun k_ hk => ⟨trivial, hk.2⟩))) (fun _ h_ => h_))); (case aB => exact bl); (case aF => exact (fun _ _ => trivial)); (case aO => exact (by refine kS ?_; exact Kd.S_mono HO_5.out (fun k_ hk => ⟨trivial, fun e_ => hk.2 e_⟩))); (case aS => exact (below_size bl)); (case aL => have := LMc11.out; omega); intro v264 w14 ho hb hg hat; have Rk_ := am (Kd.R_grown (Kd.R_mono (ok' := fun k_ => ((fun _ => True)) k_ ∧ some k_ ≠ (u5 : Value).ownBlock) (Kd.R_apart' (HO262.out) (Kd.S_typed HO_5.out) (by decide)) (fun k_ hk => ⟨trivial, hk.2⟩)) hg (fun _ hk => hk.2)); rw [← Ny263.out] at ho; have n0_ := am (hb); have n1_ := am (ho); clear HB; clear HO_5; clear HO262; have HB := n0_; have HO265 := n1_; clear n0_ n1_; clear ho hb hg hat) | ((with_reducible refine gate_callee (f := 86) rfl ?_); refine goesL_ (some 30) rfl rfl Tryd.func86 (by kernel_rfl) rfl #[.slice Ao15 t260.length co15] rfl ar ?_; (with_reducible refine (epitomeref04_Out.calls kj4 _ _ t260 t266 _ ?side1 ?side2 A12.out).mono ?_); (case side1 => repeat (first | exact (Kd.R_reads' Rk_.out).2.2 | (with_reducible refine Kd.C_alloc ?_ _) | (with_reducible refine Kd.C_drewN ?_ _) | (with_reducible refine Kd.C_drew ?_))); (case side2 => exact (Kd.R_reads' Rk_.out).2.1); rintro e w16 ⟨rfl, hb⟩; refine ⟨_, rfl, ?_⟩; have n0_ := am (Kd.S_below (by refine kS ?_; exact HO265.out) hb); have n1_ := am (below_step bl hb); clear HO265; clear HB; have HO265 := n0_; have HB := n1_; clear n0_ n1_; (try clear hb); (try clear hb2); (try clear hk); (try clear hi)))
         go_roundg kj4
         case measure => have := HK1.out; have := HJ4.out; omega
         case rel => exact ⟨(t266), (y263), (wrap64 (x6_1 + 1)), pj, pj, H', ⟨by have := HK1.out; have := HJ4.out; omega⟩, ⟨by refine kS ?_; exact HO265.out⟩, ⟨bl⟩⟩
        ·rw [if_neg c11] at H
         exact absurd H (by simp)
       ·rw [if_neg c9] at H
        exact absurd H (by simp)
      ·rw [if_neg c8] at H
       exact absurd H (by simp)
     ·replace c7 := Bool.eq_false_iff.mpr c7
      subst c7
      have H1 : (some x5_1) = some r := by rw [if_neg (show ¬ (false = true) by decide)] at H; exact H
      clear H
      have H := H1
      clear H1
      obtain rfl := Option.some.inj H
      simp only [Option.some.injEq, Prod.mk.injEq] at H
      obtain ⟨rfl⟩ := H
      go_wp2
      go_ret
      exact ⟨_, by first | rfl | (simp [errW_none, errW_some] <;> rfl) | (simp [*, errW_none, errW_some] <;> rfl), by refine kS ?_; exact HO_5.out, bl⟩
end Go.Proofs.YtegjegihcebimaaDoor.P
end
