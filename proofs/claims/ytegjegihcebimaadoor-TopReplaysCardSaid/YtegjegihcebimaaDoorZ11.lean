/- Part 11 of the proof of topReplays_holds: out of the texts that this session's programs wrote, what the theorem reaches. -/
import Derived.Test.YtegjegihcebimaaDoorZ10
import Derived.Test.YtegjegihcebimaaDoorZ2
import Derived.Test.YtegjegihcebimaaDoorZ6
import Derived.Test.YtegjegihcebimaaDoorZ8
section
namespace Go.Proofs.YtegjegihcebimaaDoor.P
open Go.RowKit Go.Proofs.YtegjegihcebimaaDoorW.PrintWords Go.Proofs.YtegjegihcebimaaDoorW.PrintLast Go.Proofs.YtegjegihcebimaaDoorW.PrintMore
attribute [local go_sem] max2_int min2_int max_two min_two max_three min_three max_four min_four
set_option linter.unusedVariables false
set_option linter.unusedSimpArgs false
def normal_Is.l0 : Nat → List (S25) → List (S25) → Int → Int → Option (Bool)
 | 0, _, _, _, _ => none
 | k + 1, x0, x5, x6, x7 => if x7 < x6 then (if 0 ≤ x7 then (if x7 < (x5.length : Int) then ((normal_empty.f ((rd_T25 x5 x7).f0) ((rd_T25 x5 x7).f1) ((rd_T25 x5 x7).f2)).bind fun t309 => (if t309 = true then (some false) else (if x7 > 0 then (if 0 ≤ (wrap64 (x7 - 1)) then (if (wrap64 (x7 - 1)) < (x0.length : Int) then (if ((rd_T25 x5 x7).f0) = ((rd_T25 x0 (wrap64 (x7 - 1))).f0) then (some false) else (normal_Is.l0 k x0 x5 x6 (wrap64 (x7 + 1)))) else (none)) else (none)) else (normal_Is.l0 k x0 x5 x6 (wrap64 (x7 + 1)))))) else (none)) else (none)) else (some true)
def normal_Is.f (k : Nat) (l0 : List (S25)) : Option (Bool) := normal_Is.l0 k l0 l0 (l0.length : Int) 0
def normal_Is.T4 : Bool × List (List Nat × List Nat) := (true, [([], []), ([0], [0]), ([1, 1], [1]), ([2], [2]), ([3, 2], [2, 3]), ([4, 2, 2], [2, 4]), ([5], [5]), ([6, 5], [5, 6]), ([5], [5]), ([5], [5]), ([9, 5], [5, 9]), ([8, 10, 5], [5, 8, 10]), ([11, 5], [5, 11]), ([12, 5], [5, 12]), ([7, 13, 5], [5, 7, 13]), ([5, 14, 2], [2, 5, 14]), ([2, 15], [2, 15])])
def normal_Is.B4 : List Nat := [0, 1, 3, 7, 15, 31, 63, 127, 63, 63, 575, 1855, 3903, 7999, 16383, 32767, 65535]
theorem normal_Is.tab4 : rtab .any (opsOf Tryd.f107 4) = normal_Is.T4 := by kernel_rfl
theorem normal_Is.bits4 : waitsOk normal_Is.T4.2 normal_Is.B4 = true := by kernel_rfl
set_option maxHeartbeats 8000000 in
set_option maxRecDepth 100000 in
theorem normal_Is.calls (k : Nat) (A0 : Option Addr) (c0 : Nat) (l0 : List (S25)) (r : Bool) (w : World) (hr0 : Kd.C k25 w A0 l0.length l0) (hc0 : l0.length ≤ c0) (h : normal_Is.f k l0 = some r) :
  Calls Tryd.prog 107 #[.slice A0 l0.length c0] w fun e w' => e = .returned (.bool r) ∧ Below w.heap.size w w' := by
 have hu25 := Tryd.underlying25
 have HR0 := am hr0
 have HC0 := am hc0
 clear hr0 hc0
 have HB := am (Below.refl w.heap.size w)
 have H : (normal_Is.l0 k l0 l0 (l0.length : Int) 0) = some r := h
 clear h
 have H' := am H
 clear H
 go_enter Tryd.func107, Tryd.ntmps107
 go_wp2
 go_loopg [7] k (fun kq v7 w' => ∃ (x7_1 : Int), v7 = .int .i64 x7_1 ∧ Aside0 (normal_Is.l0 kq l0 l0 (l0.length : Int) x7_1 = some r) ∧ Aside0 (kq ≤ k) ∧ Aside0 (Below w.heap.size w w'))
 case atStart => exact ⟨(0), pj, H', ⟨Nat.le_refl _⟩, ⟨bl⟩⟩
 case round =>
  clear H'
  try clear c1
  obtain ⟨x7_1, rfl, HA, HK1, HB⟩ := hrel
  cases gk with
  | zero => exact absurd HA.out (by simp [normal_Is.l0])
  | succ k1 =>
   have H := HA.out
   clear HA
   simp only [normal_Is.l0] at H
   by_cases c2 : x7_1 < (l0.length : Int)
   ·rw [if_pos c2] at H
    have c2b0 : decide (x7_1 < (l0.length : Int)) = true := decide_eq_true c2
    clear c2
    by_cases c3 : 0 ≤ x7_1
    ·rw [if_pos c3] at H
     have c3b0 : decide (0 ≤ x7_1) = true := decide_eq_true c3
     clear c3
     by_cases c4 : x7_1 < (l0.length : Int)
     ·rw [if_pos c4] at H
      have c4b0 : decide (x7_1 < (l0.length : Int)) = true := decide_eq_true c4
      clear c4
      replace H := Option.bind_eq_some_iff.mp H
      obtain ⟨t309, A50, H⟩ := H
      try dsimp only at H
      have A5 := am A50
      clear A50
      by_cases c6 : t309 = true
      ·subst c6
       have H1 : (some false) = some r := by rw [if_pos rfl] at H; exact H
       clear H
       have H := H1
       clear H1
       obtain rfl := Option.some.inj H
       simp only [Option.some.injEq, Prod.mk.injEq] at H
       obtain ⟨rfl⟩ := H
       have p307 : 0 ≤ (x7_1 : Int) := of_decide_eq_true as0
       have q307 : x7_1 < (l0.length : Int) := of_decide_eq_true as0
       obtain ⟨ad307, e307, hx307_0, hx307_1, hx307_2⟩ := at_T25 HR0.out x7_1 p307 q307
       cases e307
       replace hx307_0 := (HB.out.cell (World.block_lt_of_cell? w _ hx307_0)).trans hx307_0
       replace hx307_1 := (HB.out.cell (World.block_lt_of_cell? w _ hx307_1)).trans hx307_1
       replace hx307_2 := (HB.out.cell (World.block_lt_of_cell? w _ hx307_2)).trans hx307_2
       replace p307 := eq_true p307
       replace q307 := eq_true q307
       try go_wp2_with (first | ((with_reducible refine gate_dst (N := 4) rfl ?_); refine box_event ?hg (N := 4) ?hd (cs := #[.int .i64 0, .int .i64 0, .string (⟨#[]⟩ : ByteArray)]) (t := 25) ?hr ?_; (case hd => rfl); (case hg => rfl); (case hr => first | (go_simp; done) | (go_simp; rfl)); intro gb308 hg w7 hbox hb; have n0_ := am (below_step bl hb); have n1_ := am (hbox); have n2_ := am ((gs : w.heap.size ≤ gb308)); have n3_ := am ((gs : w.heap.size ≤ gb308)); clear HB; have HB := n0_; have BK308 := n1_; have GW308 := n2_; have GE308 := n3_; clear n0_ n1_ n2_ n3_; clear hb hbox hg; have hcz8_0 : w7.cell? ⟨gb308, 0, none⟩ = some (.int .i64 0) := (blk_cell BK308.out 0).trans rfl; have hcz8_1 : w7.cell? ⟨gb308, 1, none⟩ = some (.int .i64 0) := (blk_cell BK308.out 1).trans rfl; have hcz8_2 : w7.cell? ⟨gb308, 2, none⟩ = some (.string (⟨#[]⟩ : ByteArray)) := (blk_cell BK308.out 2).trans rfl; have hfz8_0 := blk_frozen BK308.out 0; have hfz8_1 := blk_frozen BK308.out 1; have hfz8_2 := blk_frozen BK308.out 2))
       have n0_ : Aside0 ((((w7.setCell ⟨gb308, 0, none⟩ (.int .i64 ((rd_T25 l0 x7_1).f0))).setCell ⟨gb308, 1, none⟩ (.int .i64 ((rd_T25 l0 x7_1).f1))).setCell ⟨gb308, 2, none⟩ (.string ((rd_T25 l0 x7_1).f2))).heap[gb308]? = some (.cells #[.int .i64 ((rd_T25 l0 x7_1).f0), .int .i64 ((rd_T25 l0 x7_1).f1), .string ((rd_T25 l0 x7_1).f2)] 25 (0, 0))) := ⟨by refine bk ?_; refine blk_put (cs := #[.int .i64 ((rd_T25 l0 x7_1).f0), .int .i64 ((rd_T25 l0 x7_1).f1), .string (⟨#[]⟩ : ByteArray)]) ?_ 2 _ rfl; refine bk ?_; refine blk_put (cs := #[.int .i64 ((rd_T25 l0 x7_1).f0), .int .i64 0, .string (⟨#[]⟩ : ByteArray)]) ?_ 1 _ rfl; refine bk ?_; refine blk_put (cs := #[.int .i64 0, .int .i64 0, .string (⟨#[]⟩ : ByteArray)]) ?_ 0 _ rfl; refine bk ?_; exact BK308.out⟩
       have n1_ : Aside0 (Below w.heap.size w (((w7.setCell ⟨gb308, 0, none⟩ (.int .i64 ((rd_T25 l0 x7_1).f0))).setCell ⟨gb308, 1, none⟩ (.int .i64 ((rd_T25 l0 x7_1).f1))).setCell ⟨gb308, 2, none⟩ (.string ((rd_T25 l0 x7_1).f2)))) := ⟨bl⟩
       (try clear BK308)
       (try clear HB)
       generalize (((w7.setCell ⟨gb308, 0, none⟩ (.int .i64 ((rd_T25 l0 x7_1).f0))).setCell ⟨gb308, 1, none⟩ (.int .i64 ((rd_T25 l0 x7_1).f1))).setCell ⟨gb308, 2, none⟩ (.string ((rd_T25 l0 x7_1).f2))) = w9 at n0_ n1_ ⊢
       have BK308 := n0_
       have HB := n1_
       clear n0_ n1_
       have n0_ := am (blk_drew BK308.out)
       have n1_ := am (below_drew1 HB.out)
       clear BK308
       clear HB
       have BK308 := n0_
       have HB := n1_
       clear n0_ n1_
       refine start_ (n := 17) (S := fun w' => w'.cell? ⟨gb308, 0, none⟩ = some (.int .i64 ((rd_T25 l0 x7_1).f0)) ∧ w'.cell? ⟨gb308, 1, none⟩ = some (.int .i64 ((rd_T25 l0 x7_1).f1)) ∧ w'.cell? ⟨gb308, 2, none⟩ = some (.string ((rd_T25 l0 x7_1).f2))) (ds := []) #[false, false, false, false, false, false, false, false, false, false, false, false, false, false, false, false, false] (by kernel_rfl) rfl rfl ⟨(blk_cell BK308.out 0).trans rfl, (blk_cell BK308.out 1).trans rfl, (blk_cell BK308.out 2).trans rfl⟩ (fun hHeld => ?_); refine with_tabW normal_Is.tab4 normal_Is.bits4 (fun HT_ HW_ => ?_)
       generalize w9.drew = w10 at BK308 HB hHeld ⊢
       refine take_ (i := 0) (N := some 12) (v := ?_) (a' := ?_) #[true, false, false, false, false, false, false, false, false, false, false, false, false, false, false, false, false] rfl rfl (take_ofW HT_.out HW_.out (by kernel_rfl)) (fun _ _ _ h => h) (Or.inl ⟨by rfl, ?_⟩) hHeld ?_ ?_
       rotate_left
       ·rintro w' ⟨s0, s1, s2⟩
        go_simp
        with_reducible rfl
       rotate_left
       ·exact ap
       refine one_ (i := 1) (N := some 13) #[true, true, false, false, false, false, false, false, false, false, false, false, false, false, false, false, false] rfl rfl (one_of HT_.out (by kernel_rfl)) (by decide) (fun K hK => ?_)
       refine goes_ Tryd.func74 (by kernel_rfl) rfl #[.agg #[.int .i64 ((rd_T25 l0 x7_1).f0), .int .i64 ((rd_T25 l0 x7_1).f1), .string ((rd_T25 l0 x7_1).f2)]] (by rfl) rfl rfl ar ?_
       with_reducible refine (normal_empty.calls ((rd_T25 l0 x7_1).f0) ((rd_T25 l0 x7_1).f1) ((rd_T25 l0 x7_1).f2) true _ A5.out).mono ?_
       rintro e w11 ⟨rfl, hb⟩
       refine ⟨_, rfl, ?_⟩
       have n0_ := am (blk_below (g := gb308) (o := .cells #[.int .i64 ((rd_T25 l0 x7_1).f0), .int .i64 ((rd_T25 l0 x7_1).f1), .string ((rd_T25 l0 x7_1).f2)] 25 (0, 0)) (by refine bk ?_; exact BK308.out) hb)
       have n1_ := am (below_step bl hb)
       clear BK308
       clear HB
       have BK308 := n0_
       have HB := n1_
       clear n0_ n1_
       (try clear hb)
       (try clear hb2)
       (try clear hk)
       (try clear hi)
       refine hK.out _ _ ⟨(blk_cell BK308.out 0).trans rfl, (blk_cell BK308.out 1).trans rfl, (blk_cell BK308.out 2).trans rfl⟩ (fun hHeld => ?_)
       clear hK K
       refine norm_ (a' := ?_) ?_ ?_
       rotate_left
       ·show Act.put _ (some 13) _ = _
        simp only [Act.put, List.setIfInBounds_toArray, List.set_cons_zero, List.set_cons_succ, i64_w, i32_w]
        rfl
       refine pure_ (i := 2) (N := some 14) #[true, true, true, false, false, false, false, false, false, false, false, false, false, false, false, false, false] rfl rfl (aT HT_.out) (fun _ _ _ h => h) (Or.inl ⟨rfl, rn⟩) ap ?_
       refine pure_ (i := 3) (N := some 15) (v := undef) (a' := ?_) #[true, true, true, true, false, false, false, false, false, false, false, false, false, false, false, false, false] rfl rfl (aT HT_.out) (fun _ _ _ h => h) (Or.inr ⟨by rfl, rfl⟩) ?_ ?_
       rotate_left
       ·exact ap
       refine pure_ (i := 4) (N := some 16) (v := undef) (a' := ?_) #[true, true, true, true, true, false, false, false, false, false, false, false, false, false, false, false, false] rfl rfl (aT HT_.out) (fun _ _ _ h => h) (Or.inr ⟨by rfl, rfl⟩) ?_ ?_
       rotate_left
       ·exact ap
       refine pure_ (i := 5) (N := some 17) (v := undef) (a' := ?_) #[true, true, true, true, true, true, false, false, false, false, false, false, false, false, false, false, false] rfl rfl (aT HT_.out) (fun _ _ _ h => h) (Or.inr ⟨by rfl, rfl⟩) ?_ ?_
       rotate_left
       ·exact ap
       refine pure_ (i := 6) (N := some 18) (v := undef) (a' := ?_) #[true, true, true, true, true, true, true, false, false, false, false, false, false, false, false, false, false] rfl rfl (aT HT_.out) (fun _ _ _ h => h) (Or.inr ⟨by rfl, rfl⟩) ?_ ?_
       rotate_left
       ·exact ap
       refine pure_ (i := 7) (N := some 19) (v := undef) (a' := ?_) #[true, true, true, true, true, true, true, true, false, false, false, false, false, false, false, false, false] rfl rfl (aT HT_.out) (fun _ _ _ h => h) (Or.inr ⟨by rfl, rfl⟩) ?_ ?_
       rotate_left
       ·exact ap
       refine pure_ (i := 8) (N := some 20) (v := undef) (a' := ?_) #[true, true, true, true, true, true, true, true, true, false, false, false, false, false, false, false, false] rfl rfl (aT HT_.out) (fun _ _ _ h => h) (Or.inr ⟨by rfl, rfl⟩) ?_ ?_
       rotate_left
       ·exact ap
       refine pure_ (i := 9) (N := some 21) (v := undef) (a' := ?_) #[true, true, true, true, true, true, true, true, true, true, false, false, false, false, false, false, false] rfl rfl (aT HT_.out) (fun _ _ _ h => h) (Or.inr ⟨by rfl, rfl⟩) ?_ ?_
       rotate_left
       ·exact ap
       refine pure_ (i := 10) (N := some 22) (v := undef) (a' := ?_) #[true, true, true, true, true, true, true, true, true, true, true, false, false, false, false, false, false] rfl rfl (aT HT_.out) (fun _ _ _ h => h) (Or.inr ⟨by rfl, rfl⟩) ?_ ?_
       rotate_left
       ·exact ap
       refine pure_ (i := 11) (N := some 23) (v := undef) (a' := ?_) #[true, true, true, true, true, true, true, true, true, true, true, true, false, false, false, false, false] rfl rfl (aT HT_.out) (fun _ _ _ h => h) (Or.inr ⟨by rfl, rfl⟩) ?_ ?_
       rotate_left
       ·exact ap
       refine pure_ (i := 12) (N := some 24) (v := undef) (a' := ?_) #[true, true, true, true, true, true, true, true, true, true, true, true, true, false, false, false, false] rfl rfl (aT HT_.out) (fun _ _ _ h => h) (Or.inr ⟨by rfl, rfl⟩) ?_ ?_
       rotate_left
       ·exact ap
       refine pure_ (i := 13) (N := some 25) (v := undef) (a' := ?_) #[true, true, true, true, true, true, true, true, true, true, true, true, true, true, false, false, false] rfl rfl (aT HT_.out) (fun _ _ _ h => h) (Or.inr ⟨by rfl, rfl⟩) ?_ ?_
       rotate_left
       ·exact ap
       refine pure_ (i := 14) (N := some 26) (v := undef) (a' := ?_) #[true, true, true, true, true, true, true, true, true, true, true, true, true, true, true, false, false] rfl rfl (aT HT_.out) (fun _ _ _ h => h) (Or.inr ⟨by rfl, rfl⟩) ?_ ?_
       rotate_left
       ·exact ap
       refine pure_ (i := 15) (N := some 27) (v := undef) (a' := ?_) #[true, true, true, true, true, true, true, true, true, true, true, true, true, true, true, true, false] rfl rfl (aT HT_.out) (fun _ _ _ h => h) (Or.inr ⟨by rfl, rfl⟩) ?_ ?_
       rotate_left
       ·exact ap
       refine pure_ (i := 16) (N := some 28) #[true, true, true, true, true, true, true, true, true, true, true, true, true, true, true, true, true] rfl rfl (aT HT_.out) (fun _ _ _ h => h) (Or.inl ⟨rfl, rn⟩) ap ?_
       refine done_ (done_of HT_.out (by kernel_rfl)) ?_
       try go_wp2
       go_ret
       exact ⟨by first | rfl | (simp [errW_none, errW_some] <;> rfl) | (simp [*, errW_none, errW_some] <;> rfl), bl⟩
      ·replace c6 := Bool.eq_false_iff.mpr c6
       subst c6
       have H1 : (if x7_1 > 0 then (if 0 ≤ (wrap64 (x7_1 - 1)) then (if (wrap64 (x7_1 - 1)) < (l0.length : Int) then (if ((rd_T25 l0 x7_1).f0) = ((rd_T25 l0 (wrap64 (x7_1 - 1))).f0) then (some false) else (normal_Is.l0 k1 l0 l0 (l0.length : Int) (wrap64 (x7_1 + 1)))) else (none)) else (none)) else (normal_Is.l0 k1 l0 l0 (l0.length : Int) (wrap64 (x7_1 + 1)))) = some r := by rw [if_neg (show ¬ (false = true) by decide)] at H; exact H
       clear H
       have H := H1
       clear H1
       by_cases c12 : x7_1 > 0
       ·rw [if_pos c12] at H
        have c12b0 : decide (0 < x7_1) = true := decide_eq_true c12
        clear c12
        obtain ⟨ji13, hji13⟩ : ∃ j_ : Int, (wrap64 (x7_1 - 1)) = j_ := ⟨_, rfl⟩
        replace H : (if 0 ≤ (ji13) then (if (ji13) < (l0.length : Int) then (if ((rd_T25 l0 x7_1).f0) = ((rd_T25 l0 (ji13)).f0) then (some false) else (normal_Is.l0 k1 l0 l0 (l0.length : Int) (wrap64 (x7_1 + 1)))) else (none)) else (none)) = some r := by first | (rw [hji13] at H; exact H) | (simp only [hji13] at H ⊢; exact H)
        (try rw [hji13] at A5)
        have hji13w : (IntKind.i64.wrap (x7_1 - 1)) = ji13 := (i64_w _).trans hji13
        by_cases c14 : 0 ≤ (ji13)
        ·rw [if_pos c14] at H
         have c14b0 : decide (0 ≤ (ji13)) = true := decide_eq_true c14
         clear c14
         by_cases c15 : (ji13) < (l0.length : Int)
         ·rw [if_pos c15] at H
          have c15b0 : decide ((ji13) < (l0.length : Int)) = true := decide_eq_true c15
          clear c15
          by_cases c16 : ((rd_T25 l0 x7_1).f0) = ((rd_T25 l0 (ji13)).f0)
          ·rw [if_pos c16] at H
           have c16b0 : (((rd_T25 l0 x7_1).f0) == ((rd_T25 l0 (ji13)).f0)) = true := beq_iff_eq.mpr c16
           have c16b1 : (((rd_T25 l0 x7_1).f0) != ((rd_T25 l0 (ji13)).f0)) = false := bne_eq_false_iff_eq.mpr c16
           clear c16
           obtain rfl := Option.some.inj H
           simp only [Option.some.injEq, Prod.mk.injEq] at H
           obtain ⟨rfl⟩ := H
           have p307 : 0 ≤ (x7_1 : Int) := of_decide_eq_true as0
           have q307 : x7_1 < (l0.length : Int) := of_decide_eq_true as0
           obtain ⟨ad307, e307, hx307_0, hx307_1, hx307_2⟩ := at_T25 HR0.out x7_1 p307 q307
           cases e307
           replace hx307_0 := (HB.out.cell (World.block_lt_of_cell? w _ hx307_0)).trans hx307_0
           replace hx307_1 := (HB.out.cell (World.block_lt_of_cell? w _ hx307_1)).trans hx307_1
           replace hx307_2 := (HB.out.cell (World.block_lt_of_cell? w _ hx307_2)).trans hx307_2
           replace p307 := eq_true p307
           replace q307 := eq_true q307
           try go_wp2_with (first | ((with_reducible refine gate_dst (N := 4) rfl ?_); refine box_event ?hg (N := 4) ?hd (cs := #[.int .i64 0, .int .i64 0, .string (⟨#[]⟩ : ByteArray)]) (t := 25) ?hr ?_; (case hd => rfl); (case hg => rfl); (case hr => first | (go_simp; done) | (go_simp; rfl)); intro gb308 hg w17 hbox hb; have n0_ := am (below_step bl hb); have n1_ := am (hbox); have n2_ := am ((gs : w.heap.size ≤ gb308)); have n3_ := am ((gs : w.heap.size ≤ gb308)); clear HB; have HB := n0_; have BK308 := n1_; have GW308 := n2_; have GE308 := n3_; clear n0_ n1_ n2_ n3_; clear hb hbox hg; have hcz18_0 : w17.cell? ⟨gb308, 0, none⟩ = some (.int .i64 0) := (blk_cell BK308.out 0).trans rfl; have hcz18_1 : w17.cell? ⟨gb308, 1, none⟩ = some (.int .i64 0) := (blk_cell BK308.out 1).trans rfl; have hcz18_2 : w17.cell? ⟨gb308, 2, none⟩ = some (.string (⟨#[]⟩ : ByteArray)) := (blk_cell BK308.out 2).trans rfl; have hfz18_0 := blk_frozen BK308.out 0; have hfz18_1 := blk_frozen BK308.out 1; have hfz18_2 := blk_frozen BK308.out 2))
           have n0_ : Aside0 ((((w17.setCell ⟨gb308, 0, none⟩ (.int .i64 ((rd_T25 l0 x7_1).f0))).setCell ⟨gb308, 1, none⟩ (.int .i64 ((rd_T25 l0 x7_1).f1))).setCell ⟨gb308, 2, none⟩ (.string ((rd_T25 l0 x7_1).f2))).heap[gb308]? = some (.cells #[.int .i64 ((rd_T25 l0 x7_1).f0), .int .i64 ((rd_T25 l0 x7_1).f1), .string ((rd_T25 l0 x7_1).f2)] 25 (0, 0))) := ⟨by refine bk ?_; refine blk_put (cs := #[.int .i64 ((rd_T25 l0 x7_1).f0), .int .i64 ((rd_T25 l0 x7_1).f1), .string (⟨#[]⟩ : ByteArray)]) ?_ 2 _ rfl; refine bk ?_; refine blk_put (cs := #[.int .i64 ((rd_T25 l0 x7_1).f0), .int .i64 0, .string (⟨#[]⟩ : ByteArray)]) ?_ 1 _ rfl; refine bk ?_; refine blk_put (cs := #[.int .i64 0, .int .i64 0, .string (⟨#[]⟩ : ByteArray)]) ?_ 0 _ rfl; refine bk ?_; exact BK308.out⟩
           have n1_ : Aside0 (Below w.heap.size w (((w17.setCell ⟨gb308, 0, none⟩ (.int .i64 ((rd_T25 l0 x7_1).f0))).setCell ⟨gb308, 1, none⟩ (.int .i64 ((rd_T25 l0 x7_1).f1))).setCell ⟨gb308, 2, none⟩ (.string ((rd_T25 l0 x7_1).f2)))) := ⟨bl⟩
           (try clear BK308)
           (try clear HB)
           generalize (((w17.setCell ⟨gb308, 0, none⟩ (.int .i64 ((rd_T25 l0 x7_1).f0))).setCell ⟨gb308, 1, none⟩ (.int .i64 ((rd_T25 l0 x7_1).f1))).setCell ⟨gb308, 2, none⟩ (.string ((rd_T25 l0 x7_1).f2))) = w19 at n0_ n1_ ⊢
           have BK308 := n0_
           have HB := n1_
           clear n0_ n1_
           have n0_ := am (blk_drew BK308.out)
           have n1_ := am (below_drew1 HB.out)
           clear BK308
           clear HB
           have BK308 := n0_
           have HB := n1_
           clear n0_ n1_
           have p310 : 0 ≤ ((ji13) : Int) := of_decide_eq_true as0
           have q310 : (ji13) < (l0.length : Int) := of_decide_eq_true as0
           obtain ⟨ad310, e310, hx310_0, hx310_1, hx310_2⟩ := at_T25 HR0.out (ji13) p310 q310
           have hw310_2 := hx310_2
           have hw310_1 := hx310_1
           have hw310_0 := hx310_0
           obtain rfl : ad307 = ad310 := (by injection e310)
           replace hx310_0 := (HB.out.cell (World.block_lt_of_cell? w _ hx310_0)).trans hx310_0
           replace hx310_1 := (HB.out.cell (World.block_lt_of_cell? w _ hx310_1)).trans hx310_1
           replace hx310_2 := (HB.out.cell (World.block_lt_of_cell? w _ hx310_2)).trans hx310_2
           replace p310 := eq_true p310
           replace q310 := eq_true q310
           refine start_ (n := 17) (S := fun w' => w'.cell? ⟨gb308, 0, none⟩ = some (.int .i64 ((rd_T25 l0 x7_1).f0)) ∧ w'.cell? ⟨gb308, 1, none⟩ = some (.int .i64 ((rd_T25 l0 x7_1).f1)) ∧ w'.cell? ⟨gb308, 2, none⟩ = some (.string ((rd_T25 l0 x7_1).f2)) ∧ w'.cell? (ad307.add (((ji13)).toNat * 3)) = some (.int .i64 ((rd_T25 l0 (ji13)).f0)) ∧ w'.cell? ⟨(ad307.add (((ji13)).toNat * 3)).block, (ad307.add (((ji13)).toNat * 3)).off + 1, none⟩ = some (.int .i64 ((rd_T25 l0 (ji13)).f1)) ∧ w'.cell? ⟨(ad307.add (((ji13)).toNat * 3)).block, (ad307.add (((ji13)).toNat * 3)).off + 2, none⟩ = some (.string ((rd_T25 l0 (ji13)).f2))) (ds := []) #[false, false, false, false, false, false, false, false, false, false, false, false, false, false, false, false, false] (by kernel_rfl) rfl rfl ⟨(blk_cell BK308.out 0).trans rfl, (blk_cell BK308.out 1).trans rfl, (blk_cell BK308.out 2).trans rfl, ((HB.out.cell (World.block_lt_of_cell? w _ hw310_0)).trans hw310_0), ((HB.out.cell (World.block_lt_of_cell? w _ hw310_1)).trans hw310_1), ((HB.out.cell (World.block_lt_of_cell? w _ hw310_2)).trans hw310_2)⟩ (fun hHeld => ?_); refine with_tabW normal_Is.tab4 normal_Is.bits4 (fun HT_ HW_ => ?_)
           generalize w19.drew = w20 at BK308 HB hx310_0 hx310_1 hx310_2 hHeld ⊢
           refine take_ (i := 0) (N := some 12) (v := ?_) (a' := ?_) #[true, false, false, false, false, false, false, false, false, false, false, false, false, false, false, false, false] rfl rfl (take_ofW HT_.out HW_.out (by kernel_rfl)) (fun _ _ _ h => h) (Or.inl ⟨by rfl, ?_⟩) hHeld ?_ ?_
           rotate_left
           ·rintro w' ⟨s0, s1, s2, s3, s4, s5⟩
            go_simp
            with_reducible rfl
           rotate_left
           ·exact ap
           refine one_ (i := 1) (N := some 13) #[true, true, false, false, false, false, false, false, false, false, false, false, false, false, false, false, false] rfl rfl (one_of HT_.out (by kernel_rfl)) (by decide) (fun K hK => ?_)
           refine goes_ Tryd.func74 (by kernel_rfl) rfl #[.agg #[.int .i64 ((rd_T25 l0 x7_1).f0), .int .i64 ((rd_T25 l0 x7_1).f1), .string ((rd_T25 l0 x7_1).f2)]] (by rfl) rfl rfl ar ?_
           with_reducible refine (normal_empty.calls ((rd_T25 l0 x7_1).f0) ((rd_T25 l0 x7_1).f1) ((rd_T25 l0 x7_1).f2) false _ A5.out).mono ?_
           rintro e w21 ⟨rfl, hb⟩
           refine ⟨_, rfl, ?_⟩
           have n0_ := am (blk_below (g := gb308) (o := .cells #[.int .i64 ((rd_T25 l0 x7_1).f0), .int .i64 ((rd_T25 l0 x7_1).f1), .string ((rd_T25 l0 x7_1).f2)] 25 (0, 0)) (by refine bk ?_; exact BK308.out) hb)
           have n1_ := am (below_step bl hb)
           clear BK308
           clear HB
           have BK308 := n0_
           have HB := n1_
           clear n0_ n1_
           (try clear hb)
           (try clear hb2)
           (try clear hk)
           (try clear hi)
           refine hK.out _ _ ⟨(blk_cell BK308.out 0).trans rfl, (blk_cell BK308.out 1).trans rfl, (blk_cell BK308.out 2).trans rfl, ((HB.out.cell (World.block_lt_of_cell? w _ hw310_0)).trans hw310_0), ((HB.out.cell (World.block_lt_of_cell? w _ hw310_1)).trans hw310_1), ((HB.out.cell (World.block_lt_of_cell? w _ hw310_2)).trans hw310_2)⟩ (fun hHeld => ?_)
           clear hK K
           refine norm_ (a' := ?_) ?_ ?_
           rotate_left
           ·show Act.put _ (some 13) _ = _
            simp only [Act.put, List.setIfInBounds_toArray, List.set_cons_zero, List.set_cons_succ, i64_w, i32_w]
            rfl
           refine pure_ (i := 2) (N := some 14) #[true, true, true, false, false, false, false, false, false, false, false, false, false, false, false, false, false] rfl rfl (aT HT_.out) (fun _ _ _ h => h) (Or.inl ⟨rfl, rn⟩) ap ?_
           refine pure_ (i := 3) (N := some 15) #[true, true, true, true, false, false, false, false, false, false, false, false, false, false, false, false, false] rfl rfl (aT HT_.out) (fun _ _ _ h => h) (Or.inl ⟨rfl, rn⟩) ap ?_
           refine pure_ (i := 4) (N := some 16) #[true, true, true, true, true, false, false, false, false, false, false, false, false, false, false, false, false] rfl rfl (aT HT_.out) (fun _ _ _ h => h) (Or.inl ⟨rfl, rn⟩) ap ?_
           refine pure_ (i := 5) (N := some 17) #[true, true, true, true, true, true, false, false, false, false, false, false, false, false, false, false, false] rfl rfl (aT HT_.out) (fun _ _ _ h => h) (Or.inl ⟨rfl, rn⟩) ap ?_
           refine pure_ (i := 6) (N := some 18) #[true, true, true, true, true, true, true, false, false, false, false, false, false, false, false, false, false] rfl rfl (aT HT_.out) (fun _ _ _ h => h) (Or.inl ⟨rfl, rn⟩) ap ?_
           refine pure_ (i := 8) (N := some 20) #[true, true, true, true, true, true, true, false, true, false, false, false, false, false, false, false, false] rfl rfl (aT HT_.out) (fun _ _ _ h => h) (Or.inl ⟨rfl, rn⟩) ap ?_
           refine pure_ (i := 9) (N := some 21) #[true, true, true, true, true, true, true, false, true, true, false, false, false, false, false, false, false] rfl rfl (aT HT_.out) (fun _ _ _ h => h) (Or.inl ⟨rfl, rn⟩) ap ?_
           refine pure_ (i := 10) (N := some 22) #[true, true, true, true, true, true, true, false, true, true, true, false, false, false, false, false, false] rfl rfl (aT HT_.out) (fun _ _ _ h => h) (Or.inl ⟨rfl, rn⟩) ap ?_
           refine pure_ (i := 11) (N := some 23) #[true, true, true, true, true, true, true, false, true, true, true, true, false, false, false, false, false] rfl rfl (aT HT_.out) (fun _ _ _ h => h) (Or.inl ⟨rfl, rn⟩) ap ?_
           refine pure_ (i := 12) (N := some 24) #[true, true, true, true, true, true, true, false, true, true, true, true, true, false, false, false, false] rfl rfl (aT HT_.out) (fun _ _ _ h => h) (Or.inl ⟨rfl, rn⟩) ap ?_
           refine take_ (i := 7) (N := some 19) (v := ?_) (a' := ?_) #[true, true, true, true, true, true, true, true, true, true, true, true, true, false, false, false, false] rfl rfl (take_ofW HT_.out HW_.out (by kernel_rfl)) (fun _ _ _ h => h) (Or.inl ⟨by rfl, ?_⟩) hHeld ?_ ?_
           rotate_left
           ·rintro w' ⟨s0, s1, s2, s3, s4, s5⟩
            go_simp
            with_reducible rfl
           rotate_left
           ·exact ap
           refine take_ (i := 13) (N := some 25) (v := ?_) (a' := ?_) #[true, true, true, true, true, true, true, true, true, true, true, true, true, true, false, false, false] rfl rfl (take_ofW HT_.out HW_.out (by kernel_rfl)) (fun _ _ _ h => h) (Or.inl ⟨by rfl, ?_⟩) hHeld ?_ ?_
           rotate_left
           ·rintro w' ⟨s0, s1, s2, s3, s4, s5⟩
            go_simp
            with_reducible rfl
           rotate_left
           ·exact ap
           refine pure_ (i := 14) (N := some 26) #[true, true, true, true, true, true, true, true, true, true, true, true, true, true, true, false, false] rfl rfl (aT HT_.out) (fun _ _ _ h => h) (Or.inl ⟨rfl, rn⟩) ap ?_
           refine pure_ (i := 15) (N := some 27) #[true, true, true, true, true, true, true, true, true, true, true, true, true, true, true, true, false] rfl rfl (aT HT_.out) (fun _ _ _ h => h) (Or.inl ⟨rfl, rn⟩) ap ?_
           refine pure_ (i := 16) (N := some 28) #[true, true, true, true, true, true, true, true, true, true, true, true, true, true, true, true, true] rfl rfl (aT HT_.out) (fun _ _ _ h => h) (Or.inl ⟨rfl, rn⟩) ap ?_
           refine done_ (done_of HT_.out (by kernel_rfl)) ?_
           try go_wp2
           go_ret
           exact ⟨by first | rfl | (simp [errW_none, errW_some] <;> rfl) | (simp only [← hji13]; first | rfl | (simp [errW_none, errW_some] <;> rfl)) | (simp [*, errW_none, errW_some] <;> rfl), bl⟩
          ·rw [if_neg c16] at H
           have c16b0 : (((rd_T25 l0 x7_1).f0) == ((rd_T25 l0 (ji13)).f0)) = false := beq_eq_false_iff_ne.mpr c16
           have c16b1 : (((rd_T25 l0 x7_1).f0) != ((rd_T25 l0 (ji13)).f0)) = true := bne_iff_ne.mpr c16
           have H' := am H
           clear H
           have p307 : 0 ≤ (x7_1 : Int) := of_decide_eq_true as0
           have q307 : x7_1 < (l0.length : Int) := of_decide_eq_true as0
           obtain ⟨ad307, e307, hx307_0, hx307_1, hx307_2⟩ := at_T25 HR0.out x7_1 p307 q307
           cases e307
           replace hx307_0 := (HB.out.cell (World.block_lt_of_cell? w _ hx307_0)).trans hx307_0
           replace hx307_1 := (HB.out.cell (World.block_lt_of_cell? w _ hx307_1)).trans hx307_1
           replace hx307_2 := (HB.out.cell (World.block_lt_of_cell? w _ hx307_2)).trans hx307_2
           replace p307 := eq_true p307
           replace q307 := eq_true q307
           try go_wp2_with (first | ((with_reducible refine gate_dst (N := 4) rfl ?_); refine box_event ?hg (N := 4) ?hd (cs := #[.int .i64 0, .int .i64 0, .string (⟨#[]⟩ : ByteArray)]) (t := 25) ?hr ?_; (case hd => rfl); (case hg => rfl); (case hr => first | (go_simp; done) | (go_simp; rfl)); intro gb308 hg w22 hbox hb; have n0_ := am (below_step bl hb); have n1_ := am (hbox); have n2_ := am ((gs : w.heap.size ≤ gb308)); have n3_ := am ((gs : w.heap.size ≤ gb308)); clear HB; have HB := n0_; have BK308 := n1_; have GW308 := n2_; have GE308 := n3_; clear n0_ n1_ n2_ n3_; clear hb hbox hg; have hcz23_0 : w22.cell? ⟨gb308, 0, none⟩ = some (.int .i64 0) := (blk_cell BK308.out 0).trans rfl; have hcz23_1 : w22.cell? ⟨gb308, 1, none⟩ = some (.int .i64 0) := (blk_cell BK308.out 1).trans rfl; have hcz23_2 : w22.cell? ⟨gb308, 2, none⟩ = some (.string (⟨#[]⟩ : ByteArray)) := (blk_cell BK308.out 2).trans rfl; have hfz23_0 := blk_frozen BK308.out 0; have hfz23_1 := blk_frozen BK308.out 1; have hfz23_2 := blk_frozen BK308.out 2))
           have n0_ : Aside0 ((((w22.setCell ⟨gb308, 0, none⟩ (.int .i64 ((rd_T25 l0 x7_1).f0))).setCell ⟨gb308, 1, none⟩ (.int .i64 ((rd_T25 l0 x7_1).f1))).setCell ⟨gb308, 2, none⟩ (.string ((rd_T25 l0 x7_1).f2))).heap[gb308]? = some (.cells #[.int .i64 ((rd_T25 l0 x7_1).f0), .int .i64 ((rd_T25 l0 x7_1).f1), .string ((rd_T25 l0 x7_1).f2)] 25 (0, 0))) := ⟨by refine bk ?_; refine blk_put (cs := #[.int .i64 ((rd_T25 l0 x7_1).f0), .int .i64 ((rd_T25 l0 x7_1).f1), .string (⟨#[]⟩ : ByteArray)]) ?_ 2 _ rfl; refine bk ?_; refine blk_put (cs := #[.int .i64 ((rd_T25 l0 x7_1).f0), .int .i64 0, .string (⟨#[]⟩ : ByteArray)]) ?_ 1 _ rfl; refine bk ?_; refine blk_put (cs := #[.int .i64 0, .int .i64 0, .string (⟨#[]⟩ : ByteArray)]) ?_ 0 _ rfl; refine bk ?_; exact BK308.out⟩
           have n1_ : Aside0 (Below w.heap.size w (((w22.setCell ⟨gb308, 0, none⟩ (.int .i64 ((rd_T25 l0 x7_1).f0))).setCell ⟨gb308, 1, none⟩ (.int .i64 ((rd_T25 l0 x7_1).f1))).setCell ⟨gb308, 2, none⟩ (.string ((rd_T25 l0 x7_1).f2)))) := ⟨bl⟩
           (try clear BK308)
           (try clear HB)
           generalize (((w22.setCell ⟨gb308, 0, none⟩ (.int .i64 ((rd_T25 l0 x7_1).f0))).setCell ⟨gb308, 1, none⟩ (.int .i64 ((rd_T25 l0 x7_1).f1))).setCell ⟨gb308, 2, none⟩ (.string ((rd_T25 l0 x7_1).f2))) = w24 at n0_ n1_ ⊢
           have BK308 := n0_
           have HB := n1_
           clear n0_ n1_
           have n0_ := am (blk_drew BK308.out)
           have n1_ := am (below_drew1 HB.out)
           clear BK308
           clear HB
           have BK308 := n0_
           have HB := n1_
           clear n0_ n1_
           have p310 : 0 ≤ ((ji13) : Int) := of_decide_eq_true as0
           have q310 : (ji13) < (l0.length : Int) := of_decide_eq_true as0
           obtain ⟨ad310, e310, hx310_0, hx310_1, hx310_2⟩ := at_T25 HR0.out (ji13) p310 q310
           have hw310_2 := hx310_2
           have hw310_1 := hx310_1
           have hw310_0 := hx310_0
           obtain rfl : ad307 = ad310 := (by injection e310)
           replace hx310_0 := (HB.out.cell (World.block_lt_of_cell? w _ hx310_0)).trans hx310_0
           replace hx310_1 := (HB.out.cell (World.block_lt_of_cell? w _ hx310_1)).trans hx310_1
           replace hx310_2 := (HB.out.cell (World.block_lt_of_cell? w _ hx310_2)).trans hx310_2
           replace p310 := eq_true p310
           replace q310 := eq_true q310
           refine start_ (n := 17) (S := fun w' => w'.cell? ⟨gb308, 0, none⟩ = some (.int .i64 ((rd_T25 l0 x7_1).f0)) ∧ w'.cell? ⟨gb308, 1, none⟩ = some (.int .i64 ((rd_T25 l0 x7_1).f1)) ∧ w'.cell? ⟨gb308, 2, none⟩ = some (.string ((rd_T25 l0 x7_1).f2)) ∧ w'.cell? (ad307.add (((ji13)).toNat * 3)) = some (.int .i64 ((rd_T25 l0 (ji13)).f0)) ∧ w'.cell? ⟨(ad307.add (((ji13)).toNat * 3)).block, (ad307.add (((ji13)).toNat * 3)).off + 1, none⟩ = some (.int .i64 ((rd_T25 l0 (ji13)).f1)) ∧ w'.cell? ⟨(ad307.add (((ji13)).toNat * 3)).block, (ad307.add (((ji13)).toNat * 3)).off + 2, none⟩ = some (.string ((rd_T25 l0 (ji13)).f2))) (ds := []) #[false, false, false, false, false, false, false, false, false, false, false, false, false, false, false, false, false] (by kernel_rfl) rfl rfl ⟨(blk_cell BK308.out 0).trans rfl, (blk_cell BK308.out 1).trans rfl, (blk_cell BK308.out 2).trans rfl, ((HB.out.cell (World.block_lt_of_cell? w _ hw310_0)).trans hw310_0), ((HB.out.cell (World.block_lt_of_cell? w _ hw310_1)).trans hw310_1), ((HB.out.cell (World.block_lt_of_cell? w _ hw310_2)).trans hw310_2)⟩ (fun hHeld => ?_); refine with_tabW normal_Is.tab4 normal_Is.bits4 (fun HT_ HW_ => ?_)
           generalize w24.drew = w25 at BK308 HB hx310_0 hx310_1 hx310_2 hHeld ⊢
           refine take_ (i := 0) (N := some 12) (v := ?_) (a' := ?_) #[true, false, false, false, false, false, false, false, false, false, false, false, false, false, false, false, false] rfl rfl (take_ofW HT_.out HW_.out (by kernel_rfl)) (fun _ _ _ h => h) (Or.inl ⟨by rfl, ?_⟩) hHeld ?_ ?_
           rotate_left
           ·rintro w' ⟨s0, s1, s2, s3, s4, s5⟩
            go_simp
            with_reducible rfl
           rotate_left
           ·exact ap
           refine one_ (i := 1) (N := some 13) #[true, true, false, false, false, false, false, false, false, false, false, false, false, false, false, false, false] rfl rfl (one_of HT_.out (by kernel_rfl)) (by decide) (fun K hK => ?_)
           refine goes_ Tryd.func74 (by kernel_rfl) rfl #[.agg #[.int .i64 ((rd_T25 l0 x7_1).f0), .int .i64 ((rd_T25 l0 x7_1).f1), .string ((rd_T25 l0 x7_1).f2)]] (by rfl) rfl rfl ar ?_
           with_reducible refine (normal_empty.calls ((rd_T25 l0 x7_1).f0) ((rd_T25 l0 x7_1).f1) ((rd_T25 l0 x7_1).f2) false _ A5.out).mono ?_
           rintro e w26 ⟨rfl, hb⟩
           refine ⟨_, rfl, ?_⟩
           have n0_ := am (blk_below (g := gb308) (o := .cells #[.int .i64 ((rd_T25 l0 x7_1).f0), .int .i64 ((rd_T25 l0 x7_1).f1), .string ((rd_T25 l0 x7_1).f2)] 25 (0, 0)) (by refine bk ?_; exact BK308.out) hb)
           have n1_ := am (below_step bl hb)
           clear BK308
           clear HB
           have BK308 := n0_
           have HB := n1_
           clear n0_ n1_
           (try clear hb)
           (try clear hb2)
           (try clear hk)
           (try clear hi)
           refine hK.out _ _ ⟨(blk_cell BK308.out 0).trans rfl, (blk_cell BK308.out 1).trans rfl, (blk_cell BK308.out 2).trans rfl, ((HB.out.cell (World.block_lt_of_cell? w _ hw310_0)).trans hw310_0), ((HB.out.cell (World.block_lt_of_cell? w _ hw310_1)).trans hw310_1), ((HB.out.cell (World.block_lt_of_cell? w _ hw310_2)).trans hw310_2)⟩ (fun hHeld => ?_)
           clear hK K
           refine norm_ (a' := ?_) ?_ ?_
           rotate_left
           ·show Act.put _ (some 13) _ = _
            simp only [Act.put, List.setIfInBounds_toArray, List.set_cons_zero, List.set_cons_succ, i64_w, i32_w]
            rfl
           refine pure_ (i := 2) (N := some 14) #[true, true, true, false, false, false, false, false, false, false, false, false, false, false, false, false, false] rfl rfl (aT HT_.out) (fun _ _ _ h => h) (Or.inl ⟨rfl, rn⟩) ap ?_
           refine pure_ (i := 3) (N := some 15) #[true, true, true, true, false, false, false, false, false, false, false, false, false, false, false, false, false] rfl rfl (aT HT_.out) (fun _ _ _ h => h) (Or.inl ⟨rfl, rn⟩) ap ?_
           refine pure_ (i := 4) (N := some 16) #[true, true, true, true, true, false, false, false, false, false, false, false, false, false, false, false, false] rfl rfl (aT HT_.out) (fun _ _ _ h => h) (Or.inl ⟨rfl, rn⟩) ap ?_
           refine pure_ (i := 5) (N := some 17) #[true, true, true, true, true, true, false, false, false, false, false, false, false, false, false, false, false] rfl rfl (aT HT_.out) (fun _ _ _ h => h) (Or.inl ⟨rfl, rn⟩) ap ?_
           refine pure_ (i := 6) (N := some 18) #[true, true, true, true, true, true, true, false, false, false, false, false, false, false, false, false, false] rfl rfl (aT HT_.out) (fun _ _ _ h => h) (Or.inl ⟨rfl, rn⟩) ap ?_
           refine pure_ (i := 8) (N := some 20) #[true, true, true, true, true, true, true, false, true, false, false, false, false, false, false, false, false] rfl rfl (aT HT_.out) (fun _ _ _ h => h) (Or.inl ⟨rfl, rn⟩) ap ?_
           refine pure_ (i := 9) (N := some 21) #[true, true, true, true, true, true, true, false, true, true, false, false, false, false, false, false, false] rfl rfl (aT HT_.out) (fun _ _ _ h => h) (Or.inl ⟨rfl, rn⟩) ap ?_
           refine pure_ (i := 10) (N := some 22) #[true, true, true, true, true, true, true, false, true, true, true, false, false, false, false, false, false] rfl rfl (aT HT_.out) (fun _ _ _ h => h) (Or.inl ⟨rfl, rn⟩) ap ?_
           refine pure_ (i := 11) (N := some 23) #[true, true, true, true, true, true, true, false, true, true, true, true, false, false, false, false, false] rfl rfl (aT HT_.out) (fun _ _ _ h => h) (Or.inl ⟨rfl, rn⟩) ap ?_
           refine pure_ (i := 12) (N := some 24) #[true, true, true, true, true, true, true, false, true, true, true, true, true, false, false, false, false] rfl rfl (aT HT_.out) (fun _ _ _ h => h) (Or.inl ⟨rfl, rn⟩) ap ?_
           refine take_ (i := 7) (N := some 19) (v := ?_) (a' := ?_) #[true, true, true, true, true, true, true, true, true, true, true, true, true, false, false, false, false] rfl rfl (take_ofW HT_.out HW_.out (by kernel_rfl)) (fun _ _ _ h => h) (Or.inl ⟨by rfl, ?_⟩) hHeld ?_ ?_
           rotate_left
           ·rintro w' ⟨s0, s1, s2, s3, s4, s5⟩
            go_simp
            with_reducible rfl
           rotate_left
           ·exact ap
           refine take_ (i := 13) (N := some 25) (v := ?_) (a' := ?_) #[true, true, true, true, true, true, true, true, true, true, true, true, true, true, false, false, false] rfl rfl (take_ofW HT_.out HW_.out (by kernel_rfl)) (fun _ _ _ h => h) (Or.inl ⟨by rfl, ?_⟩) hHeld ?_ ?_
           rotate_left
           ·rintro w' ⟨s0, s1, s2, s3, s4, s5⟩
            go_simp
            with_reducible rfl
           rotate_left
           ·exact ap
           refine pure_ (i := 14) (N := some 26) #[true, true, true, true, true, true, true, true, true, true, true, true, true, true, true, false, false] rfl rfl (aT HT_.out) (fun _ _ _ h => h) (Or.inl ⟨rfl, rn⟩) ap ?_
           refine pure_ (i := 15) (N := some 27) #[true, true, true, true, true, true, true, true, true, true, true, true, true, true, true, true, false] rfl rfl (aT HT_.out) (fun _ _ _ h => h) (Or.inl ⟨rfl, rn⟩) ap ?_
           refine pure_ (i := 16) (N := some 28) #[true, true, true, true, true, true, true, true, true, true, true, true, true, true, true, true, true] rfl rfl (aT HT_.out) (fun _ _ _ h => h) (Or.inl ⟨rfl, rn⟩) ap ?_
           refine done_ (done_of HT_.out (by kernel_rfl)) ?_
           try go_wp2
           go_roundg k1
           case measure => have := HK1.out; omega
           case rel => exact ⟨(wrap64 (x7_1 + 1)), pj, H', ⟨by have := HK1.out; omega⟩, ⟨bl⟩⟩
         ·rw [if_neg c15] at H
          exact absurd H (by simp)
        ·rw [if_neg c14] at H
         exact absurd H (by simp)
       ·rw [if_neg c12] at H
        have c12b0 : decide (0 < x7_1) = false := decide_eq_false c12
        clear c12
        have H' := am H
        clear H
        have p307 : 0 ≤ (x7_1 : Int) := of_decide_eq_true as0
        have q307 : x7_1 < (l0.length : Int) := of_decide_eq_true as0
        obtain ⟨ad307, e307, hx307_0, hx307_1, hx307_2⟩ := at_T25 HR0.out x7_1 p307 q307
        cases e307
        replace hx307_0 := (HB.out.cell (World.block_lt_of_cell? w _ hx307_0)).trans hx307_0
        replace hx307_1 := (HB.out.cell (World.block_lt_of_cell? w _ hx307_1)).trans hx307_1
        replace hx307_2 := (HB.out.cell (World.block_lt_of_cell? w _ hx307_2)).trans hx307_2
        replace p307 := eq_true p307
        replace q307 := eq_true q307
        try go_wp2_with (first | ((with_reducible refine gate_dst (N := 4) rfl ?_); refine box_event ?hg (N := 4) ?hd (cs := #[.int .i64 0, .int .i64 0, .string (⟨#[]⟩ : ByteArray)]) (t := 25) ?hr ?_; (case hd => rfl); (case hg => rfl); (case hr => first | (go_simp; done) | (go_simp; rfl)); intro gb308 hg w27 hbox hb; have n0_ := am (below_step bl hb); have n1_ := am (hbox); have n2_ := am ((gs : w.heap.size ≤ gb308)); have n3_ := am ((gs : w.heap.size ≤ gb308)); clear HB; have HB := n0_; have BK308 := n1_; have GW308 := n2_; have GE308 := n3_; clear n0_ n1_ n2_ n3_; clear hb hbox hg; have hcz28_0 : w27.cell? ⟨gb308, 0, none⟩ = some (.int .i64 0) := (blk_cell BK308.out 0).trans rfl; have hcz28_1 : w27.cell? ⟨gb308, 1, none⟩ = some (.int .i64 0) := (blk_cell BK308.out 1).trans rfl; have hcz28_2 : w27.cell? ⟨gb308, 2, none⟩ = some (.string (⟨#[]⟩ : ByteArray)) := (blk_cell BK308.out 2).trans rfl; have hfz28_0 := blk_frozen BK308.out 0; have hfz28_1 := blk_frozen BK308.out 1; have hfz28_2 := blk_frozen BK308.out 2))
        have n0_ : Aside0 ((((w27.setCell ⟨gb308, 0, none⟩ (.int .i64 ((rd_T25 l0 x7_1).f0))).setCell ⟨gb308, 1, none⟩ (.int .i64 ((rd_T25 l0 x7_1).f1))).setCell ⟨gb308, 2, none⟩ (.string ((rd_T25 l0 x7_1).f2))).heap[gb308]? = some (.cells #[.int .i64 ((rd_T25 l0 x7_1).f0), .int .i64 ((rd_T25 l0 x7_1).f1), .string ((rd_T25 l0 x7_1).f2)] 25 (0, 0))) := ⟨by refine bk ?_; refine blk_put (cs := #[.int .i64 ((rd_T25 l0 x7_1).f0), .int .i64 ((rd_T25 l0 x7_1).f1), .string (⟨#[]⟩ : ByteArray)]) ?_ 2 _ rfl; refine bk ?_; refine blk_put (cs := #[.int .i64 ((rd_T25 l0 x7_1).f0), .int .i64 0, .string (⟨#[]⟩ : ByteArray)]) ?_ 1 _ rfl; refine bk ?_; refine blk_put (cs := #[.int .i64 0, .int .i64 0, .string (⟨#[]⟩ : ByteArray)]) ?_ 0 _ rfl; refine bk ?_; exact BK308.out⟩
        have n1_ : Aside0 (Below w.heap.size w (((w27.setCell ⟨gb308, 0, none⟩ (.int .i64 ((rd_T25 l0 x7_1).f0))).setCell ⟨gb308, 1, none⟩ (.int .i64 ((rd_T25 l0 x7_1).f1))).setCell ⟨gb308, 2, none⟩ (.string ((rd_T25 l0 x7_1).f2)))) := ⟨bl⟩
        (try clear BK308)
        (try clear HB)
        generalize (((w27.setCell ⟨gb308, 0, none⟩ (.int .i64 ((rd_T25 l0 x7_1).f0))).setCell ⟨gb308, 1, none⟩ (.int .i64 ((rd_T25 l0 x7_1).f1))).setCell ⟨gb308, 2, none⟩ (.string ((rd_T25 l0 x7_1).f2))) = w29 at n0_ n1_ ⊢
        have BK308 := n0_
        have HB := n1_
        clear n0_ n1_
        have n0_ := am (blk_drew BK308.out)
        have n1_ := am (below_drew1 HB.out)
        clear BK308
        clear HB
        have BK308 := n0_
        have HB := n1_
        clear n0_ n1_
        refine start_ (n := 17) (S := fun w' => w'.cell? ⟨gb308, 0, none⟩ = some (.int .i64 ((rd_T25 l0 x7_1).f0)) ∧ w'.cell? ⟨gb308, 1, none⟩ = some (.int .i64 ((rd_T25 l0 x7_1).f1)) ∧ w'.cell? ⟨gb308, 2, none⟩ = some (.string ((rd_T25 l0 x7_1).f2))) (ds := []) #[false, false, false, false, false, false, false, false, false, false, false, false, false, false, false, false, false] (by kernel_rfl) rfl rfl ⟨(blk_cell BK308.out 0).trans rfl, (blk_cell BK308.out 1).trans rfl, (blk_cell BK308.out 2).trans rfl⟩ (fun hHeld => ?_); refine with_tabW normal_Is.tab4 normal_Is.bits4 (fun HT_ HW_ => ?_)
        generalize w29.drew = w30 at BK308 HB hHeld ⊢
        refine take_ (i := 0) (N := some 12) (v := ?_) (a' := ?_) #[true, false, false, false, false, false, false, false, false, false, false, false, false, false, false, false, false] rfl rfl (take_ofW HT_.out HW_.out (by kernel_rfl)) (fun _ _ _ h => h) (Or.inl ⟨by rfl, ?_⟩) hHeld ?_ ?_
        rotate_left
        ·rintro w' ⟨s0, s1, s2⟩
         go_simp
         with_reducible rfl
        rotate_left
        ·exact ap
        refine one_ (i := 1) (N := some 13) #[true, true, false, false, false, false, false, false, false, false, false, false, false, false, false, false, false] rfl rfl (one_of HT_.out (by kernel_rfl)) (by decide) (fun K hK => ?_)
        refine goes_ Tryd.func74 (by kernel_rfl) rfl #[.agg #[.int .i64 ((rd_T25 l0 x7_1).f0), .int .i64 ((rd_T25 l0 x7_1).f1), .string ((rd_T25 l0 x7_1).f2)]] (by rfl) rfl rfl ar ?_
        with_reducible refine (normal_empty.calls ((rd_T25 l0 x7_1).f0) ((rd_T25 l0 x7_1).f1) ((rd_T25 l0 x7_1).f2) false _ A5.out).mono ?_
        rintro e w31 ⟨rfl, hb⟩
        refine ⟨_, rfl, ?_⟩
        have n0_ := am (blk_below (g := gb308) (o := .cells #[.int .i64 ((rd_T25 l0 x7_1).f0), .int .i64 ((rd_T25 l0 x7_1).f1), .string ((rd_T25 l0 x7_1).f2)] 25 (0, 0)) (by refine bk ?_; exact BK308.out) hb)
        have n1_ := am (below_step bl hb)
        clear BK308
        clear HB
        have BK308 := n0_
        have HB := n1_
        clear n0_ n1_
        (try clear hb)
        (try clear hb2)
        (try clear hk)
        (try clear hi)
        refine hK.out _ _ ⟨(blk_cell BK308.out 0).trans rfl, (blk_cell BK308.out 1).trans rfl, (blk_cell BK308.out 2).trans rfl⟩ (fun hHeld => ?_)
        clear hK K
        refine norm_ (a' := ?_) ?_ ?_
        rotate_left
        ·show Act.put _ (some 13) _ = _
         simp only [Act.put, List.setIfInBounds_toArray, List.set_cons_zero, List.set_cons_succ, i64_w, i32_w]
         rfl
        refine pure_ (i := 2) (N := some 14) #[true, true, true, false, false, false, false, false, false, false, false, false, false, false, false, false, false] rfl rfl (aT HT_.out) (fun _ _ _ h => h) (Or.inl ⟨rfl, rn⟩) ap ?_
        refine pure_ (i := 3) (N := some 15) #[true, true, true, true, false, false, false, false, false, false, false, false, false, false, false, false, false] rfl rfl (aT HT_.out) (fun _ _ _ h => h) (Or.inl ⟨rfl, rn⟩) ap ?_
        refine pure_ (i := 4) (N := some 16) #[true, true, true, true, true, false, false, false, false, false, false, false, false, false, false, false, false] rfl rfl (aT HT_.out) (fun _ _ _ h => h) (Or.inl ⟨rfl, rn⟩) ap ?_
        refine pure_ (i := 5) (N := some 17) #[true, true, true, true, true, true, false, false, false, false, false, false, false, false, false, false, false] rfl rfl (aT HT_.out) (fun _ _ _ h => h) (Or.inl ⟨rfl, rn⟩) ap ?_
        refine pure_ (i := 6) (N := some 18) (v := undef) (a' := ?_) #[true, true, true, true, true, true, true, false, false, false, false, false, false, false, false, false, false] rfl rfl (aT HT_.out) (fun _ _ _ h => h) (Or.inr ⟨by rfl, rfl⟩) ?_ ?_
        rotate_left
        ·exact ap
        refine pure_ (i := 7) (N := some 19) (v := undef) (a' := ?_) #[true, true, true, true, true, true, true, true, false, false, false, false, false, false, false, false, false] rfl rfl (aT HT_.out) (fun _ _ _ h => h) (Or.inr ⟨by rfl, rfl⟩) ?_ ?_
        rotate_left
        ·exact ap
        refine pure_ (i := 8) (N := some 20) (v := undef) (a' := ?_) #[true, true, true, true, true, true, true, true, true, false, false, false, false, false, false, false, false] rfl rfl (aT HT_.out) (fun _ _ _ h => h) (Or.inr ⟨by rfl, rfl⟩) ?_ ?_
        rotate_left
        ·exact ap
        refine pure_ (i := 9) (N := some 21) (v := undef) (a' := ?_) #[true, true, true, true, true, true, true, true, true, true, false, false, false, false, false, false, false] rfl rfl (aT HT_.out) (fun _ _ _ h => h) (Or.inr ⟨by rfl, rfl⟩) ?_ ?_
        rotate_left
        ·exact ap
        refine pure_ (i := 10) (N := some 22) (v := undef) (a' := ?_) #[true, true, true, true, true, true, true, true, true, true, true, false, false, false, false, false, false] rfl rfl (aT HT_.out) (fun _ _ _ h => h) (Or.inr ⟨by rfl, rfl⟩) ?_ ?_
        rotate_left
        ·exact ap
        refine pure_ (i := 11) (N := some 23) (v := undef) (a' := ?_) #[true, true, true, true, true, true, true, true, true, true, true, true, false, false, false, false, false] rfl rfl (aT HT_.out) (fun _ _ _ h => h) (Or.inr ⟨by rfl, rfl⟩) ?_ ?_
        rotate_left
        ·exact ap
        refine pure_ (i := 12) (N := some 24) (v := undef) (a' := ?_) #[true, true, true, true, true, true, true, true, true, true, true, true, true, false, false, false, false] rfl rfl (aT HT_.out) (fun _ _ _ h => h) (Or.inr ⟨by rfl, rfl⟩) ?_ ?_
        rotate_left
        ·exact ap
        refine pure_ (i := 13) (N := some 25) (v := undef) (a' := ?_) #[true, true, true, true, true, true, true, true, true, true, true, true, true, true, false, false, false] rfl rfl (aT HT_.out) (fun _ _ _ h => h) (Or.inr ⟨by rfl, rfl⟩) ?_ ?_
        rotate_left
        ·exact ap
        refine pure_ (i := 14) (N := some 26) (v := undef) (a' := ?_) #[true, true, true, true, true, true, true, true, true, true, true, true, true, true, true, false, false] rfl rfl (aT HT_.out) (fun _ _ _ h => h) (Or.inr ⟨by rfl, rfl⟩) ?_ ?_
        rotate_left
        ·exact ap
        refine pure_ (i := 15) (N := some 27) #[true, true, true, true, true, true, true, true, true, true, true, true, true, true, true, true, false] rfl rfl (aT HT_.out) (fun _ _ _ h => h) (Or.inl ⟨rfl, rn⟩) ap ?_
        refine pure_ (i := 16) (N := some 28) #[true, true, true, true, true, true, true, true, true, true, true, true, true, true, true, true, true] rfl rfl (aT HT_.out) (fun _ _ _ h => h) (Or.inl ⟨rfl, rn⟩) ap ?_
        refine done_ (done_of HT_.out (by kernel_rfl)) ?_
        try go_wp2
        go_roundg k1
        case measure => have := HK1.out; omega
        case rel => exact ⟨(wrap64 (x7_1 + 1)), pj, H', ⟨by have := HK1.out; omega⟩, ⟨bl⟩⟩
     ·rw [if_neg c4] at H
      exact absurd H (by simp)
    ·rw [if_neg c3] at H
     exact absurd H (by simp)
   ·rw [if_neg c2] at H
    have c2b0 : decide (x7_1 < (l0.length : Int)) = false := decide_eq_false c2
    clear c2
    obtain rfl := Option.some.inj H
    simp only [Option.some.injEq, Prod.mk.injEq] at H
    obtain ⟨rfl⟩ := H
    go_wp2
    go_ret
    exact ⟨by first | rfl | (simp [errW_none, errW_some] <;> rfl) | (simp [*, errW_none, errW_some] <;> rfl), bl⟩
def Fine (base : World) (v r : Value) : Prop := ∃ (fid : Nat) (caps : Array Value), v = .func (Fn.func fid) #[] caps ∧ (∀ (args : Array Value) (w : World), (callFunc fid args).run Tryd.prog w = .ok (.enter fid args) w) ∧ ∀ W, Below base.heap.size base W → Calls Tryd.prog fid caps W fun e w' => e = .returned r ∧ Below W.heap.size W w'
theorem Fine.below {base W : World} {v r : Value} (h : Fine base v r) (hb : Below base.heap.size base W) : Fine W v r := by
 obtain ⟨fid, caps, e, he, h⟩ := h
 exact ⟨fid, caps, e, he, fun W' hb' => h W' (below_then hb hb.size hb')⟩
set_option maxHeartbeats 8000000 in
set_option maxRecDepth 100000 in
theorem chain_is.inner (fid : Nat) (caps : Array Value) (x : Int) (g1 g2 : Nat) (w : World) (h1 : w.heap[g1]? = some (.cells #[.func (Fn.func fid) #[] caps] 22 (0, 0))) (h2 : w.heap[g2]? = some (.cells #[.int .i64 x] 29 (0, 0)))
  (hen : ∀ (args : Array Value) (w : World), (callFunc fid args).run Tryd.prog w = .ok (.enter fid args) w) (hso : ∀ W, Below w.heap.size w W → Calls Tryd.prog fid caps W fun e w' => e = .returned (.bool false) ∧ Below W.heap.size W w') :
  Calls Tryd.prog 109 #[.pointer (some ⟨g1, 0, none⟩), .pointer (some ⟨g2, 0, none⟩)] w fun e w' => e = .returned (.int .i64 0) ∧ Below w.heap.size w w' := by
 have hc1 : w.cell? ⟨g1, 0, none⟩ = some (.func (Fn.func fid) #[] caps) := (blk_cell h1 0).trans rfl
 have HS := am hso
 clear hso
 go_enter Tryd.func109, Tryd.ntmps109
 go_wp2_with (go_at_fn fid; (with_reducible refine (HS.out _ (Below.refl _ _)).mono ?_); rintro e w1 ⟨rfl, hb⟩; have HB1 := am hb; clear hb)
 go_ret
 exact ⟨rfl, HB1.out⟩
set_option maxHeartbeats 8000000 in
set_option maxRecDepth 100000 in
theorem chain_is.calls (v : Value) (x : Int) (w : World) (hso : Fine w v (.bool false)) :
  Calls Tryd.prog 99 #[v, .int .i64 x] w fun e w' => ∃ v', e = .returned v' ∧ Fine w' v' (.int .i64 0) ∧ Below w.heap.size w w' := by
 have hmf : ∀ (fn : Fn) (first cap : Array Value) (w : World), (Instr.makeFunc fn first cap).run Tryd.prog w = .ok (.func fn first cap) w := fun _ _ _ _ => rfl
 obtain ⟨fid, caps, rfl, hen, hso⟩ := hso
 have HS := am hso
 clear hso
 go_enter Tryd.func99, Tryd.ntmps99
 go_wp2
 go_ret
 have b2 : Below w.heap.size w ((w.alloc (.cells #[.func (Fn.func fid) #[] caps] 22)).alloc (.cells #[.int .i64 x] 29)) := (below_alloc (Below.refl _ _) _).alloc (by simp) _
 refine ⟨_, rfl, ⟨_, _, rfl, Go.Proofs.enters_of Tryd.func109 (by kernel_rfl) rfl, fun W hb => ?_⟩, b2⟩
 refine chain_is.inner fid caps x w.heap.size (w.heap.size + 1) W (blk_below (blk_alloc (heap_alloc_new w _) _) hb) (blk_below (by have := heap_alloc_new (w.alloc (.cells #[.func (Fn.func fid) #[] caps] 22)) (.cells #[.int .i64 x] 29); simpa using this) hb) hen (fun W' hb' => HS.out W' ?_)
 exact below_then (below_then b2 b2.size hb) (below_then b2 b2.size hb).size hb'
set_option maxHeartbeats 8000000 in
set_option maxRecDepth 100000 in
theorem chain_first.calls (g c : Nat) (vs : List Value) (w : World) (hl : vs.length < 1000) (hg : w.heap[g]? = some (.cells vs.toArray 163 (0, 0))) (hv : ∀ v ∈ vs, Fine w v (.int .i64 0)) :
  Calls Tryd.prog 98 #[.slice (some ⟨g, 0, none⟩) vs.length c] w fun e w' => e = .returned (.int .i64 0) ∧ Below w.heap.size w w' := by
 have HG := am hg; have HV := am hv; have HZ := am hl
 clear hg hv hl
 go_enter Tryd.func98, Tryd.ntmps98
 go_wp2
 go_loopw [4, 5, 8] (fun _ _ v8 wr => ∃ j : Nat, v8 = .int .i64 j ∧ j ≤ vs.length ∧ Aside0 (Below w.heap.size w wr)) (fun _ _ v8 _ => vs.length - (intOf v8).toNat)
 case atStart => exact ⟨0, rfl, Nat.zero_le _, ⟨Below.refl _ _⟩⟩
 case round =>
  obtain ⟨j, rfl, hj, HB⟩ := hrel
  by_cases hlt : j < vs.length
  ·have hltb : decide ((j : Int) < (vs.length : Int)) = true := decide_eq_true (by omega)
   have HL := am hlt
   have p2 : ((j : Int) < (vs.length : Int)) = True := eq_true (by omega)
   have p3 : (j < vs.length) = True := eq_true hlt
   have ew : wrap64 ((j : Int) + 1) = ((j + 1 : Nat) : Int) := by have := HZ.out; unfold wrap64; omega
   have hf := Fine.below (HV.out vs[j] (List.getElem_mem _)) HB.out
   obtain ⟨fid, caps, ev, hen, hf⟩ := hf
   have HF := am hf
   have hx0 : wr.cell? ⟨g, j, none⟩ = some (.func (Fn.func fid) #[] caps) := by
    rw [blk_cell (blk_below HG.out HB.out) j, ← ev]
    simp [hlt]
   clear hlt hf ev
   go_wp2_with (go_at_fn fid; (with_reducible refine (HF.out _ (Below.refl _ _)).mono ?_); rintro e w1 ⟨rfl, hb⟩; have HB1 := am (below_then HB.out HB.out.size hb); clear hb)
   go_round
   case measure => exact op_sum.less HL.out ew
   case rel => exact ⟨j + 1, by rw [ew], HL.out, HB1⟩
  ·have hltb : decide ((j : Int) < (vs.length : Int)) = false := decide_eq_false (by omega)
   go_wp2
   go_ret
   exact ⟨rfl, HB.out⟩
theorem chain_sizes.c1 (g : Nat) (n : Int) (w : World) (h : w.heap[g]? = some (.cells #[.int .i64 n] 3 (0, 0))) (h0 : 0 ≤ n) : Calls Tryd.prog 100 #[.pointer (some ⟨g, 0, none⟩)] w fun e w' => e = .returned (.bool false) ∧ Below w.heap.size w w' := by
 have hc : w.cell? ⟨g, 0, none⟩ = some (.int .i64 n) := (blk_cell h 0).trans rfl
 have hd : decide (n < 0) = false := decide_eq_false (by omega)
 have HB := am (Below.refl w.heap.size w)
 clear h0
 go_enter Tryd.func100, Tryd.ntmps100
 go_wp2
 go_ret
 exact ⟨by first | rfl | (simp; done), by repeat (first | exact HB.out | apply pw_below_drewN | apply below_drew1)⟩
theorem chain_sizes.c2 (g : Nat) (n : Int) (w : World) (h : w.heap[g]? = some (.cells #[.int .i64 n] 3 (0, 0))) (h0 : n ≤ 1048576) : Calls Tryd.prog 101 #[.pointer (some ⟨g, 0, none⟩)] w fun e w' => e = .returned (.bool false) ∧ Below w.heap.size w w' := by
 have hc : w.cell? ⟨g, 0, none⟩ = some (.int .i64 n) := (blk_cell h 0).trans rfl
 have hd : decide (1048576 < n) = false := decide_eq_false (by omega)
 have HB := am (Below.refl w.heap.size w)
 clear h0
 go_enter Tryd.func101, Tryd.ntmps101
 go_wp2
 go_ret
 exact ⟨by first | rfl | (simp; done), by repeat (first | exact HB.out | apply pw_below_drewN | apply below_drew1)⟩
theorem chain_sizes.c3 (g g1 : Nat) (s : ByteArray) (A1 A2 : Option Addr) (n m c1 c2 : Nat) (w : World) (h : w.heap[g]? = some (.cells #[.int .i64 0] 29 (0, 0))) (h1 : w.heap[g1]? = some (.cells #[.string s, .slice A1 n c1, .slice A2 m c2] 42 (0, 0))) (hn : n = m + 1) (hm : m < 1000000) :
  Calls Tryd.prog 102 #[.pointer (some ⟨g, 0, none⟩), .pointer (some ⟨g1, 0, none⟩)] w fun e w' => e = .returned (.bool false) ∧ Below w.heap.size w w' := by
 have hc : w.cell? ⟨g, 0, none⟩ = some (.int .i64 0) := (blk_cell h 0).trans rfl
 have hc1 : w.cell? ⟨g1, 1, none⟩ = some (.slice A1 n c1) := (blk_cell h1 1).trans rfl
 have hc2 : w.cell? ⟨g1, 2, none⟩ = some (.slice A2 m c2) := (blk_cell h1 2).trans rfl
 have hw : wrap64 ((m : Int) + 1) = (m : Int) + 1 := by unfold wrap64; omega
 have hd : ((n : Int) != (m : Int) + 1) = false := by rw [hn]; simp
 have HB := am (Below.refl w.heap.size w)
 clear hm hn
 go_enter Tryd.func102, Tryd.ntmps102
 go_wp2
 go_ret
 exact ⟨by first | rfl | (simp; done), by repeat (first | exact HB.out | apply pw_below_drewN | apply below_drew1)⟩
theorem chain_sizes.c4 (k : Nat) (g : Nat) (A : Option Addr) (c : Nat) (l : List S25) (w : World) (h : w.heap[g]? = some (.cells #[.slice A l.length c] 27 (0, 0))) (hr : Kd.C k25 w A l.length l) (hc : l.length ≤ c) (hT : Tabs w) (hm : op_May.f k l = some 0) :
  Calls Tryd.prog 103 #[.pointer (some ⟨g, 0, none⟩)] w fun e w' => e = .returned (.int .i64 0) ∧ Below w.heap.size w w' := by
 have hc : w.cell? ⟨g, 0, none⟩ = some (.slice A l.length c) := (blk_cell h 0).trans rfl
 have HR := am hr; have HC := am hc; have HT := am hT; have HM := am hm; have HL := am ‹l.length ≤ c›
 clear hr hT hm
 go_enter Tryd.func103, Tryd.ntmps103
 go_wp2_with (go_at_call 46; (with_reducible refine (op_May.calls k A c l 0 _ HR.out HL.out HT.out HM.out).mono ?_); rintro e w1 ⟨rfl, hb⟩; have HB1 := am hb; clear hb)
 go_ret
 exact ⟨rfl, HB1.out⟩
theorem chain_sizes.c6 (g : Nat) (A : Option Addr) (c : Nat) (l : List S25) (n : Int) (w : World) (h : w.heap[g]? = some (.cells #[.slice A l.length c] 27 (0, 0))) (hr : Kd.C k25 w A l.length l) (hc : l.length ≤ c) (hT : Tabs w) (hm : op_Out.f l = some n) (hn : n ≤ 1048576) :
  Calls Tryd.prog 105 #[.pointer (some ⟨g, 0, none⟩)] w fun e w' => e = .returned (.bool false) ∧ Below w.heap.size w w' := by
 have hc : w.cell? ⟨g, 0, none⟩ = some (.slice A l.length c) := (blk_cell h 0).trans rfl
 have hd : decide (1048576 < n) = false := decide_eq_false (by omega)
 have HR := am hr; have HC := am hc; have HT := am hT; have HM := am hm; have HL := am ‹l.length ≤ c›
 clear hr hT hm hn
 go_enter Tryd.func105, Tryd.ntmps105
 go_wp2_with (go_at_call 62; (with_reducible refine (op_Out.calls A c l n _ HR.out HL.out HT.out HM.out).mono ?_); rintro e w1 ⟨rfl, hb⟩; have HB1 := am hb; clear hb)
 go_ret
 exact ⟨by first | rfl | (simp; done), HB1.out⟩
theorem chain_sizes.c7 (k : Nat) (g : Nat) (A : Option Addr) (c : Nat) (l : List S25) (w : World) (h : w.heap[g]? = some (.cells #[.slice A l.length c] 27 (0, 0))) (hr : Kd.C k25 w A l.length l) (hc : l.length ≤ c) (hm : normal_Is.f k l = some true) :
  Calls Tryd.prog 106 #[.pointer (some ⟨g, 0, none⟩)] w fun e w' => e = .returned (.bool false) ∧ Below w.heap.size w w' := by
 have hc : w.cell? ⟨g, 0, none⟩ = some (.slice A l.length c) := (blk_cell h 0).trans rfl
 have HR := am hr; have HC := am hc; have HM := am hm; have HL := am ‹l.length ≤ c›
 clear hr hm
 go_enter Tryd.func106, Tryd.ntmps106
 go_wp2_with (go_at_call 107; (with_reducible refine (normal_Is.calls k A c l true _ HR.out HL.out HM.out).mono ?_); rintro e w1 ⟨rfl, hb⟩; have HB1 := am hb; clear hb)
 go_ret
 exact ⟨by first | rfl | (simp; done), HB1.out⟩
set_option maxHeartbeats 8000000 in
set_option maxRecDepth 100000 in
theorem chain_sizes.c5 (g g4 : Nat) (A : Option Addr) (c : Nat) (l : List S25) (n : Int) (w : World) (h : w.heap[g]? = some (.cells #[.slice A l.length c] 27 (0, 0))) (h4 : w.heap[g4]? = some (.cells #[.int .i64 n] 3 (0, 0))) (hr : Kd.C k25 w A l.length l) (hc : l.length ≤ c) (hT : Tabs w) (hm : op_In.f l = some n) :
  Calls Tryd.prog 104 #[.pointer (some ⟨g, 0, none⟩), .pointer (some ⟨g4, 0, none⟩)] w fun e w' => e = .returned (.bool false) ∧ Below w.heap.size w w' := by
 have HBD := am (below_drew1 (Below.refl w.heap.size w))
 have hc0 : w.drew.cell? ⟨g, 0, none⟩ = some (.slice A l.length c) := (blk_cell h 0).trans rfl
 have hc4 : w.drew.cell? ⟨g4, 0, none⟩ = some (.int .i64 n) := (blk_cell h4 0).trans rfl
 have hd : (n != n) = false := by simp
 have HRD := am (Kd.C_below hr HBD.out); have HTD := am (Tabs.below hT HBD.out); have HM := am hm; have HL := am hc; have H4 := am (blk_below h4 HBD.out)
 clear hr hT hm h h4
 go_enter Tryd.func104, Tryd.ntmps104
 go_wp2
 go_region_law (go_simp; go_at_call 20; (with_reducible refine (op_In.calls A c l n _ HRD.out HL.out HTD.out HM.out).mono ?_); rintro e w1 ⟨rfl, hb⟩; have HB1 := am (below_then HBD.out HBD.out.size hb); have cp1 : w1.cell? ⟨g4, 0, none⟩ = some (.int .i64 n) := (blk_cell (blk_below H4.out hb) 0).trans rfl; clear hb)
 all_goals go_wp2
 all_goals go_ret
 all_goals exact ⟨by first | rfl | (simp; done), HB1.out⟩
def chain_sizes.l (k : Nat) : Int → List (List S25) → List Int → Option (List Int)
 | _, [], out => some out
 | n, x :: l, out => (op_May.f k x).bind fun e => if e = 0 then (op_In.f x).bind fun m => (if m = n then (op_Out.f x).bind fun q => (if q ≤ 1048576 then (normal_Is.f k x).bind fun b => (if b = true then chain_sizes.l k q l (out ++ [q]) else none) else none) else none) else none
def chain_sizes.f (k : Nat) (s : ByteArray) (revs : List Int) (segs : List (List S25)) : Option (List Int × Int) :=
 if segs.length < 1000000 then (points_Count.f s).bind fun n => (if 0 ≤ n ∧ n ≤ 1048576 then (snap_PutRow.f revs).bind fun p => (if p.2 = 0 ∧ revs.length = segs.length + 1 then (chain_sizes.l k n segs [n]).bind fun o => some (o, 0) else none) else none) else none
theorem chain_sizes.fine {w : World} {fid : Nat} {caps : Array Value} {r : Value} (hen : ∀ (args : Array Value) (w : World), (callFunc fid args).run Tryd.prog w = .ok (.enter fid args) w) (h : ∀ W, Below w.heap.size w W → Calls Tryd.prog fid caps W fun e w' => e = .returned r ∧ Below W.heap.size W w') : Fine w (.func (Fn.func fid) #[] caps) r := ⟨fid, caps, rfl, hen, h⟩
set_option maxHeartbeats 8000000 in
set_option maxRecDepth 100000 in
theorem chain_sizes.calls (k : Nat) (a0_0 : ByteArray) (A0_1 : Option Addr) (c0_1 : Nat) (l0_1 : List Int) (A0_2 : Option Addr) (c0_2 : Nat) (l0_2 : List (List (S25))) (r1 : List Int) (r2 : Int) (w : World) (hr0_1 : Kd.C (Kd.int .i64) w A0_1 l0_1.length l0_1) (hc0_1 : l0_1.length ≤ c0_1) (hr0_2 : Kd.C (Kd.slice 25 k25) w A0_2 l0_2.length l0_2) (hc0_2 : l0_2.length ≤ c0_2) (hT : Tabs w) (h : chain_sizes.f k a0_0 l0_1 l0_2 = some (r1, r2)) :
  Calls Tryd.prog 88 #[.agg #[.string a0_0, .slice A0_1 l0_1.length c0_1, .slice A0_2 l0_2.length c0_2]] w fun e w' => ∃ v0_ : Value, e = .returned (.tuple #[v0_, .int .i64 r2]) ∧ Kd.R (Kd.int .i64) 3 w' w.heap.size (fun _ => True) v0_ r1 ∧ Below w.heap.size w w' := by
 have hmf : ∀ (fn : Fn) (first cap : Array Value) (w : World), (Instr.makeFunc fn first cap).run Tryd.prog w = .ok (.func fn first cap) w := fun _ _ _ _ => rfl
 unfold chain_sizes.f at h
 by_cases hs : l0_2.length < 1000000
 ·rw [if_pos hs] at h
  obtain ⟨n, hn, h⟩ := Option.bind_eq_some_iff.mp h
  by_cases hb : 0 ≤ n ∧ n ≤ 1048576
  ·rw [if_pos hb] at h
   obtain ⟨p, hp, h⟩ := Option.bind_eq_some_iff.mp h
   by_cases hq : p.2 = 0 ∧ l0_1.length = l0_2.length + 1
   ·rw [if_pos hq] at h
    obtain ⟨o, ho, h⟩ := Option.bind_eq_some_iff.mp h
    simp only [Option.some.injEq, Prod.mk.injEq] at h
    obtain ⟨rfl, rfl⟩ := h
    obtain ⟨rp, ep⟩ := p
    obtain ⟨rfl, hq⟩ := hq
    have HR1 := am hr0_1; have HC1 := am hc0_1; have HR2 := am hr0_2; have HC2 := am hc0_2; have HT := am hT; have HN := am hn; have HBD := am hb; have HP := am hp; have HQ := am hq; have HOO := am ho; have HZ := am hs
    have HB := am (Below.refl w.heap.size w)
    clear hr0_1 hc0_1 hr0_2 hc0_2 hT hn hb hp hq ho hs
    have HB0 := am (below_alloc (Below.refl w.heap.size w) (.cells #[.string a0_0, .slice A0_1 l0_1.length c0_1, .slice A0_2 l0_2.length c0_2] 42))
    have HG0 : Aside0 ((w.alloc (.cells #[.string a0_0, .slice A0_1 l0_1.length c0_1, .slice A0_2 l0_2.length c0_2] 42)).heap[w.heap.size]? = some (.cells #[.string a0_0, .slice A0_1 l0_1.length c0_1, .slice A0_2 l0_2.length c0_2] 42 (0, 0))) := ⟨heap_alloc_new w _⟩
    go_enter Tryd.func88, Tryd.ntmps88
    go_wp2_with (first | (go_at_call 10; (with_reducible refine (points_Count.calls a0_0 n _ (Tabs.below HT.out HB0.out) HN.out).mono ?_); rintro e w1 ⟨rfl, hb⟩; have HB1 := am (below_then HB0.out HB0.out.size hb); have HB2 := am (HB1.out.alloc HB1.out.size (.cells #[.int .i64 n] 3)); have HG2 : Aside0 ((w1.alloc (.cells #[.int .i64 n] 3)).heap[w.heap.size]? = some (.cells #[.string a0_0, .slice A0_1 l0_1.length c0_1, .slice A0_2 l0_2.length c0_2] 42 (0, 0))) := ⟨blk_alloc (blk_below HG0.out hb) _⟩; have HN2 : Aside0 ((w1.alloc (.cells #[.int .i64 n] 3)).heap[w1.heap.size]? = some (.cells #[.int .i64 n] 3 (0, 0))) := ⟨heap_alloc_new w1 _⟩; have cx1 : (w1.alloc (.cells #[.int .i64 n] 3)).cell? ⟨w.heap.size, 1, none⟩ = some (.slice A0_1 l0_1.length c0_1) := (blk_cell HG2.out 1).trans rfl; clear hb) | (go_at_call 97; (with_reducible refine (snap_PutRow.calls A0_1 c0_1 l0_1 rp 0 _ (Kd.C_below HR1.out HB2.out) HC1.out HP.out).mono ?_); rintro e w3 ⟨v3, rfl, ho3, hb⟩; have HB3 := am ((below_then HB2.out HB2.out.size hb).alloc (below_then HB2.out HB2.out.size hb).size (.cells #[.int .i64 0] 29)); have HG3 : Aside0 ((w3.alloc (.cells #[.int .i64 0] 29)).heap[w.heap.size]? = some (.cells #[.string a0_0, .slice A0_1 l0_1.length c0_1, .slice A0_2 l0_2.length c0_2] 42 (0, 0))) := ⟨blk_alloc (blk_below HG2.out hb) _⟩; have HN3 : Aside0 ((w3.alloc (.cells #[.int .i64 0] 29)).heap[w1.heap.size]? = some (.cells #[.int .i64 n] 3 (0, 0))) := ⟨blk_alloc (blk_below HN2.out hb) _⟩; have HE3 : Aside0 ((w3.alloc (.cells #[.int .i64 0] 29)).heap[w3.heap.size]? = some (.cells #[.int .i64 0] 29 (0, 0))) := ⟨heap_alloc_new w3 _⟩; clear hb ho3) | (go_at_call 99; (with_reducible refine (chain_is.calls (.func (Fn.func 100) #[] #[.pointer (some ⟨w1.heap.size, 0, none⟩)]) 3 _ ?sf).mono ?_); (case sf => exact chain_sizes.fine (Go.Proofs.enters_of Tryd.func100 (by kernel_rfl) rfl) (fun W hb => chain_sizes.c1 w1.heap.size n W (blk_below HN3.out hb) HBD.out.1)); rintro e w4 ⟨v4, rfl, hf, hb⟩; obtain ⟨f4, k4, ev, he⟩ := id hf; clear he; subst ev; have HF4 := am hf; have HB4 := am (below_then HB3.out HB3.out.size hb); have HG4 := am (blk_below HG3.out hb); have HN4 := am (blk_below HN3.out hb); have HE4 := am (blk_below HE3.out hb); clear hb hf) | (go_at_call 99; (with_reducible refine (chain_is.calls (.func (Fn.func 101) #[] #[.pointer (some ⟨w1.heap.size, 0, none⟩)]) 4 _ ?sf).mono ?_); (case sf => exact chain_sizes.fine (Go.Proofs.enters_of Tryd.func101 (by kernel_rfl) rfl) (fun W hb => chain_sizes.c2 w1.heap.size n W (blk_below HN4.out hb) HBD.out.2)); rintro e w5 ⟨v5, rfl, hf, hb⟩; obtain ⟨f5, k5, ev, he⟩ := id hf; clear he; subst ev; have HF5 := am hf; have HB5 := am (below_then HB4.out HB4.out.size hb); have HG5 := am (blk_below HG4.out hb); have HN5 := am (blk_below HN4.out hb); have HE5 := am (blk_below HE4.out hb); have HFa4 := am (Fine.below HF4.out hb); clear hb hf) | (go_at_call 99; (with_reducible refine (chain_is.calls (.func (Fn.func 102) #[] #[.pointer (some ⟨w3.heap.size, 0, none⟩), .pointer (some ⟨w.heap.size, 0, none⟩)]) 6 _ ?sf).mono ?_); (case sf => exact chain_sizes.fine (Go.Proofs.enters_of Tryd.func102 (by kernel_rfl) rfl) (fun W hb => chain_sizes.c3 w3.heap.size w.heap.size a0_0 A0_1 A0_2 l0_1.length l0_2.length c0_1 c0_2 W (blk_below HE5.out hb) (blk_below HG5.out hb) HQ.out HZ.out)); rintro e w6 ⟨v6, rfl, hf, hb⟩; obtain ⟨f6, k6, ev, he⟩ := id hf; clear he; subst ev; have HF6 := am hf; have HB6 := am (below_then HB5.out HB5.out.size hb); have HG6 := am (blk_below HG5.out hb); have HN6 := am (blk_below HN5.out hb); have HE6 := am (blk_below HE5.out hb); have HV6 : Aside0 (∀ v ∈ [.func (Fn.func f4) #[] k4, .func (Fn.func f5) #[] k5, .func (Fn.func f6) #[] k6], Fine (w6.alloc (.cells #[.func (Fn.func f4) #[] k4, .func (Fn.func f5) #[] k5, .func (Fn.func f6) #[] k6] 163)) v (.int .i64 0)) := ⟨by have ha := below_alloc (Below.refl w6.heap.size w6) (.cells #[.func (Fn.func f4) #[] k4, .func (Fn.func f5) #[] k5, .func (Fn.func f6) #[] k6] 163); intro v hv; simp only [List.mem_cons, List.not_mem_nil, or_false] at hv; rcases hv with rfl | rfl | rfl; exact Fine.below (Fine.below HFa4.out hb) ha; exact Fine.below (Fine.below HF5.out hb) ha; exact Fine.below hf ha⟩; clear hb hf) | (go_at_call 98; (refine (chain_first.calls w6.heap.size 3 [.func (Fn.func f4) #[] k4, .func (Fn.func f5) #[] k5, .func (Fn.func f6) #[] k6] _ (by simp) ?sg ?sv).mono ?_); (case sg => exact heap_alloc_new w6 _); (case sv => exact HV6.out); rintro e w7 ⟨rfl, hb⟩; have ha6 := HB6.out.alloc HB6.out.size (.cells #[.func (Fn.func f4) #[] k4, .func (Fn.func f5) #[] k5, .func (Fn.func f6) #[] k6] 163); have HB7 := am (below_then ha6 ha6.size hb); have HG7 := am (blk_below (blk_alloc HG6.out _) hb); have HN7 := am (blk_below (blk_alloc HN6.out _) hb); have cn7 : w7.cell? ⟨w1.heap.size, 0, none⟩ = some (.int .i64 n) := (blk_cell HN7.out 0).trans rfl; clear hb ha6) | ((with_reducible refine gate_dst (N := 33) rfl ?_); refine Kd.R_lit (Kd.int .i64) (w0 := w) w.heap.size 3 ?hg (N := 33) ?hd (xs := ([n] : List Int)) (inner := [.int .i64 n]) (ok := fun k => k ≠ w1.heap.size) (okp := fun k => k ≠ w1.heap.size) ?hr ?hp (fun _ hk => hk) ?hf HB7.out HB7.out.size (by simp) ?_; (case hd => rfl); (case hg => rfl); (case hr => first | (go_simp; done) | (go_simp; rfl)); (case hp => exact (Reps.one (show Kd.M (Kd.int .i64) _ _ _ n [.int .i64 n] from rfl) (Reps.none _ _))); (case hf => have := blk_lt HN7.out; omega); intro v8 w8 ho hb hg_ hnew_; have hk8 : Kept w7 w8 (fun _ => False) := Kept.of_grown hg_ (Kept.refl _ _) (fun k e => by cases e); have HO8 := am ho; have HB8 := am hb; have HN8 := am (blk_kept HN7.out hk8 (fun e => e)); have HG8 := am (blk_kept HG7.out hk8 (fun e => e)); have cx8 : w8.cell? ⟨w.heap.size, 2, none⟩ = some (.slice A0_2 l0_2.length c0_2) := (blk_cell HG8.out 2).trans rfl; clear ho hb hg_ hnew_ hk8))
    have HO0 := HOO
    clear HOO
    have HGW : Aside0 (w.heap.size ≤ w1.heap.size) := ⟨HB1.out.size⟩
    go_loopw [8, 10, 11, 37] (fun v8' _ _ v37 wr => ∃ (j : Nat) (m : Int) (out : List Int), v37 = .int .i64 j ∧ j ≤ l0_2.length ∧ Aside0 (chain_sizes.l k m (l0_2.drop j) out = some o) ∧ Aside0 (wr.heap[w1.heap.size]? = some (.cells #[.int .i64 m] 3 (0, 0))) ∧ Aside0 (Kd.R (Kd.int .i64) 3 wr w.heap.size (fun k => k ≠ w1.heap.size) v8' out) ∧ Aside0 (Below w.heap.size w wr) ∧ Aside0 (out.length ≤ j + 1)) (fun _ _ _ v37 _ => l0_2.length - (intOf v37).toNat)
    case atStart => exact ⟨0, n, [n], rfl, Nat.zero_le _, HO0, HN8, HO8, HB8, ⟨by simp⟩⟩
    case round =>
     clear HO0 HN8 HO8 HB8
     obtain ⟨j, m, out, rfl, hj, HA, HN9, HO9, HB9, HLN⟩ := hrel
     by_cases hlt : j < l0_2.length
     ·have hltb : decide ((j : Int) < (l0_2.length : Int)) = true := decide_eq_true (by omega)
      have HL := am hlt
      have h := HA.out
      clear HA
      rw [rows_next l0_2 j hlt, chain_sizes.l] at h
      obtain ⟨e1, he1, h⟩ := Option.bind_eq_some_iff.mp h
      by_cases z1 : e1 = 0
      ·subst z1
       rw [if_pos rfl] at h
       obtain ⟨m2, hm2, h⟩ := Option.bind_eq_some_iff.mp h
       by_cases z2 : m2 = m
       ·subst z2
        rw [if_pos rfl] at h
        obtain ⟨q, hq, h⟩ := Option.bind_eq_some_iff.mp h
        by_cases z3 : q ≤ 1048576
        ·rw [if_pos z3] at h
         obtain ⟨b4, hb4, h⟩ := Option.bind_eq_some_iff.mp h
         by_cases z4 : b4 = true
         ·subst z4
          rw [if_pos rfl] at h
          obtain ⟨ad, A, c, eA, hx, hcl, hC⟩ := at_rows (Kd.C_below HR2.out HB9.out) j hlt
          subst eA
          have HMY := am he1; have HIN := am hm2; have HOU := am hq; have HQB := am z3; have HIS := am hb4; have HH := am h; have HCL := am hcl
          have p2 : ((j : Int) < (l0_2.length : Int)) = True := eq_true (by omega)
          have p3 : (j < l0_2.length) = True := eq_true hlt
          have ew : Aside0 (wrap64 ((j : Int) + 1) = ((j + 1 : Nat) : Int)) := ⟨by have := HZ.out; unfold wrap64; omega⟩
          have HB10 := am (HB9.out.alloc HB9.out.size (.cells #[.slice A (rowsAt l0_2 j).length c] 27))
          have HX10 : Aside0 ((wr.alloc (.cells #[.slice A (rowsAt l0_2 j).length c] 27)).heap[wr.heap.size]? = some (.cells #[.slice A (rowsAt l0_2 j).length c] 27 (0, 0))) := ⟨heap_alloc_new wr _⟩
          have HN10 : Aside0 ((wr.alloc (.cells #[.slice A (rowsAt l0_2 j).length c] 27)).heap[w1.heap.size]? = some (.cells #[.int .i64 m2] 3 (0, 0))) := ⟨blk_alloc HN9.out _⟩
          have HC10 : Aside0 (Kd.C k25 (wr.alloc (.cells #[.slice A (rowsAt l0_2 j).length c] 27)) A (rowsAt l0_2 j).length (rowsAt l0_2 j)) := ⟨Kd.C_alloc hC _⟩
          have HO10 : Aside0 (Kd.R (Kd.int .i64) 3 (wr.alloc (.cells #[.slice A (rowsAt l0_2 j).length c] 27)) w.heap.size (fun k => k ≠ w1.heap.size) u8 out) := ⟨Kd.R_alloc HO9.out _⟩
          have HT10 : Aside0 (Tabs (wr.alloc (.cells #[.slice A (rowsAt l0_2 j).length c] 27))) := ⟨Tabs.below HT.out HB10.out⟩
          clear hlt h he1 hm2 hq z3 hb4 hcl hC
          go_wp2_with (first | (go_at_call 99; (with_reducible refine (chain_is.calls (.func (Fn.func 104) #[] #[.pointer (some ⟨wr.heap.size, 0, none⟩), .pointer (some ⟨w1.heap.size, 0, none⟩)]) 5 _ ?sf).mono ?_); (case sf => exact chain_sizes.fine (Go.Proofs.enters_of Tryd.func104 (by kernel_rfl) rfl) (fun W hb => chain_sizes.c5 wr.heap.size w1.heap.size A c _ m2 W (blk_below HX10.out hb) (blk_below HN10.out hb) (Kd.C_below HC10.out hb) HCL.out (Tabs.below HT10.out hb) HIN.out)); rintro e w11 ⟨v11, rfl, hf, hb⟩; obtain ⟨f11, k11, ev, he⟩ := id hf; clear he; subst ev; have HF11 := am hf; have HB11 := am (below_then HB10.out HB10.out.size hb); have HX11 := am (blk_below HX10.out hb); have HN11 := am (blk_below HN10.out hb); have HC11 := am (Kd.C_below HC10.out hb); have HO11 := am (Kd.R_below HO10.out hb); have HT11 := am (Tabs.below HT10.out hb); clear hb hf) | (go_at_call 99; (with_reducible refine (chain_is.calls (.func (Fn.func 105) #[] #[.pointer (some ⟨wr.heap.size, 0, none⟩)]) 4 _ ?sf).mono ?_); (case sf => exact chain_sizes.fine (Go.Proofs.enters_of Tryd.func105 (by kernel_rfl) rfl) (fun W hb => chain_sizes.c6 wr.heap.size A c _ q W (blk_below HX11.out hb) (Kd.C_below HC11.out hb) HCL.out (Tabs.below HT11.out hb) HOU.out HQB.out)); rintro e w12 ⟨v12, rfl, hf, hb⟩; obtain ⟨f12, k12, ev, he⟩ := id hf; clear he; subst ev; have HF12 := am hf; have HB12 := am (below_then HB11.out HB11.out.size hb); have HX12 := am (blk_below HX11.out hb); have HN12 := am (blk_below HN11.out hb); have HC12 := am (Kd.C_below HC11.out hb); have HO12 := am (Kd.R_below HO11.out hb); have HT12 := am (Tabs.below HT11.out hb); have HFa11 := am (Fine.below HF11.out hb); clear hb hf) | (go_at_call 99; (with_reducible refine (chain_is.calls (.func (Fn.func 106) #[] #[.pointer (some ⟨wr.heap.size, 0, none⟩)]) 8 _ ?sf).mono ?_); (case sf => exact chain_sizes.fine (Go.Proofs.enters_of Tryd.func106 (by kernel_rfl) rfl) (fun W hb => chain_sizes.c7 k wr.heap.size A c _ W (blk_below HX12.out hb) (Kd.C_below HC12.out hb) HCL.out HIS.out)); rintro e w13 ⟨v13, rfl, hf, hb⟩; obtain ⟨f13, k13, ev, he⟩ := id hf; clear he; subst ev; have HF13 := am hf; have HB13 := am (below_then HB12.out HB12.out.size hb); have HX13 := am (blk_below HX12.out hb); have HN13 := am (blk_below HN12.out hb); have HC13 := am (Kd.C_below HC12.out hb); have HO13 := am (Kd.R_below HO12.out hb); have HT13 := am (Tabs.below HT12.out hb); have HFa12 := am (Fine.below (Fine.below HFa11.out hb) (below_alloc (Below.refl _ _) (.cells #[.func (Fn.func 103) #[] #[.pointer (some ⟨wr.heap.size, 0, none⟩)], .func (Fn.func f11) #[] k11, .func (Fn.func f12) #[] k12, .func (Fn.func f13) #[] k13] 163))); have HFb12 := am (Fine.below (Fine.below HF12.out hb) (below_alloc (Below.refl _ _) (.cells #[.func (Fn.func 103) #[] #[.pointer (some ⟨wr.heap.size, 0, none⟩)], .func (Fn.func f11) #[] k11, .func (Fn.func f12) #[] k12, .func (Fn.func f13) #[] k13] 163))); have HFc12 := am (Fine.below hf (below_alloc (Below.refl _ _) (.cells #[.func (Fn.func 103) #[] #[.pointer (some ⟨wr.heap.size, 0, none⟩)], .func (Fn.func f11) #[] k11, .func (Fn.func f12) #[] k12, .func (Fn.func f13) #[] k13] 163))); have HFd12 : Aside0 (Fine (w13.alloc (.cells #[.func (Fn.func 103) #[] #[.pointer (some ⟨wr.heap.size, 0, none⟩)], .func (Fn.func f11) #[] k11, .func (Fn.func f12) #[] k12, .func (Fn.func f13) #[] k13] 163)) (.func (Fn.func 103) #[] #[.pointer (some ⟨wr.heap.size, 0, none⟩)]) (.int .i64 0)) := ⟨chain_sizes.fine (Go.Proofs.enters_of Tryd.func103 (by kernel_rfl) rfl) (fun W hb2 => chain_sizes.c4 k wr.heap.size A c _ W (blk_below (blk_alloc HX13.out _) hb2) (Kd.C_below (Kd.C_alloc HC13.out _) hb2) HCL.out (Tabs.below (Tabs.below HT13.out (below_alloc (Below.refl _ _) _)) hb2) HMY.out)⟩; clear hb hf) | (go_at_call 98; (refine (chain_first.calls w13.heap.size 4 [.func (Fn.func 103) #[] #[.pointer (some ⟨wr.heap.size, 0, none⟩)], .func (Fn.func f11) #[] k11, .func (Fn.func f12) #[] k12, .func (Fn.func f13) #[] k13] _ (by simp) ?sg ?sv).mono ?_); (case sg => exact heap_alloc_new w13 _); (case sv => intro v hv; simp only [List.mem_cons, List.not_mem_nil, or_false] at hv; rcases hv with rfl | rfl | rfl | rfl; exact HFd12.out; exact HFa12.out; exact HFb12.out; exact HFc12.out); rintro e w14 ⟨rfl, hb⟩; have ha := below_alloc (Below.refl w13.heap.size w13) (.cells #[.func (Fn.func 103) #[] #[.pointer (some ⟨wr.heap.size, 0, none⟩)], .func (Fn.func f11) #[] k11, .func (Fn.func f12) #[] k12, .func (Fn.func f13) #[] k13] 163); have hb2 := below_then ha (by simp) hb; have HB14 := am (below_then HB13.out HB13.out.size hb2); have HX14 := am (blk_below HX13.out hb2); have HN14 := am (blk_below HN13.out hb2); have HC14 := am (Kd.C_below HC13.out hb2); have HO14 := am (Kd.R_below HO13.out hb2); have HT14 := am (Tabs.below HT13.out hb2); have cx14 : w14.cell? ⟨wr.heap.size, 0, none⟩ = some (.slice A (rowsAt l0_2 j).length c) := (blk_cell HX14.out 0).trans rfl; clear hb ha hb2) | (go_at_call 62; (with_reducible refine (op_Out.calls A c (rowsAt l0_2 j) q _ HC14.out HCL.out HT14.out HOU.out).mono ?_); rintro e w15 ⟨rfl, hb⟩; have HB15 := am (below_then HB14.out HB14.out.size hb); have HN15 := am (blk_below HN14.out hb); have HO15 := am (Kd.R_below HO14.out hb); have cn15 : w15.cell? ⟨w1.heap.size, 0, none⟩ = some (.int .i64 m2) := (blk_cell HN15.out 0).trans rfl; have fn15 : w15.frozen? ⟨w1.heap.size, 0, none⟩ = false := blk_frozen HN15.out 0; have HN16 : Aside0 ((w15.setCell ⟨w1.heap.size, 0, none⟩ (.int .i64 q)).heap[w1.heap.size]? = some (.cells #[.int .i64 q] 3 (0, 0))) := ⟨blk_put HN15.out 0 _ rfl⟩; have cn16 : (w15.setCell ⟨w1.heap.size, 0, none⟩ (.int .i64 q)).cell? ⟨w1.heap.size, 0, none⟩ = some (.int .i64 q) := (blk_cell HN16.out 0).trans rfl; have HO16 := am (Kd.R_far (p := ⟨w1.heap.size, 0, none⟩) HO15.out (fun k hk => hk) (.int .i64 q)); have HB16 := am (HB15.out.setCell (p := ⟨w1.heap.size, 0, none⟩) HGW.out (.int .i64 q)); clear hb) | ((with_reducible refine gate_builtin (b := .append) (xs := #[.tmp 55, .tmp 57]) rfl ?_); at_builtin; refine Kd.R_append (Kd.int .i64) (w0 := w) w.heap.size rfl (.tmp 55) (.tmp 57) 38 3 (.int .i64 0) 8 rfl Tryd.underlying38 info3 rfl (by decide) (by omega) u8 out q [.int .i64 q] (fun k => k ≠ w1.heap.size) (fun _ => False) rfl ?hx ?aP (fun _ hk => hk.elim) ?aF ?aO ?aB ?aS ?aL ?_; (case hx => show Value.slice (some ⟨w15.heap.size, 0, none⟩) 1 1 = _; simp); (case aP => exact rfl); (case aB => exact HB16.out); (case aF => intro k hk; have := blk_lt HN16.out; omega); (case aO => exact HO16.out); (case aS => exact HB16.out.size); (case aL => have := HLN.out; have := HZ.out; have := HL.out; omega); intro v17 w17 ho hb hg hat; have HO17 := am ho; have HB17 := am hb; have HN17 := am (blk_kept HN16.out (Kept.of_grown (S := fun k => u8.ownBlock = some k) hg (Kept.refl _ _) (fun k e => .inl e)) (fun e => (HO16.out.1 _ e) rfl)); clear ho hb hg hat))
          go_roundw
          case rel => exact ⟨j + 1, q, out ++ [q], by rw [ew.out], HL.out, HH, HN17, HO17, HB17, ⟨by rw [List.length_append]; have := HLN.out; simp; omega⟩⟩
          case measure => exact op_sum.less HL.out ew.out
         ·rw [if_neg z4] at h; cases h
        ·rw [if_neg z3] at h; cases h
       ·rw [if_neg z2] at h; cases h
      ·rw [if_neg z1] at h; cases h
     ·have hltb : decide ((j : Int) < (l0_2.length : Int)) = false := decide_eq_false (by omega)
      have h := HA.out
      clear HA
      rw [List.drop_of_length_le (by omega), chain_sizes.l] at h
      obtain rfl := Option.some.inj h
      go_wp2
      go_ret2
      exact ⟨_, rfl, Kd.R_mono HO9.out (fun _ _ => trivial), HB9.out⟩
   ·rw [if_neg hq] at h; cases h
  ·rw [if_neg hb] at h; cases h
 ·rw [if_neg hs] at h; cases h
def chain_May.f (k : Nat) (a0_0 : ByteArray) (l0_1 : List Int) (l0_2 : List (List (S25))) : Option (Int) := (chain_sizes.f k a0_0 l0_1 l0_2).bind fun bt312 => (some bt312.2)
set_option maxHeartbeats 8000000 in
set_option maxRecDepth 100000 in
theorem chain_May.calls (k : Nat) (a0_0 : ByteArray) (A0_1 : Option Addr) (c0_1 : Nat) (l0_1 : List Int) (A0_2 : Option Addr) (c0_2 : Nat) (l0_2 : List (List (S25))) (r : Int) (w : World) (hr0_1 : Kd.C (Kd.int .i64) w A0_1 l0_1.length l0_1) (hc0_1 : l0_1.length ≤ c0_1) (hr0_2 : Kd.C (Kd.slice 25 k25) w A0_2 l0_2.length l0_2) (hc0_2 : l0_2.length ≤ c0_2) (hT : Tabs w) (h : chain_May.f k a0_0 l0_1 l0_2 = some r) :
  Calls Tryd.prog 66 #[.agg #[.string a0_0, .slice A0_1 l0_1.length c0_1, .slice A0_2 l0_2.length c0_2]] w fun e w' => e = .returned (.int .i64 r) ∧ Below w.heap.size w w' := by
 have HT := am hT
 clear hT
 have hu42 := Tryd.underlying42
 have HR0_1 := am hr0_1
 have HC0_1 := am hc0_1
 clear hr0_1 hc0_1
 have HR0_2 := am hr0_2
 have HC0_2 := am hc0_2
 clear hr0_2 hc0_2
 have HB := am (Below.refl w.heap.size w)
 have H : ((chain_sizes.f k a0_0 l0_1 l0_2).bind fun bt312 => (some bt312.2)) = some r := h
 clear h
 replace H := Option.bind_eq_some_iff.mp H
 obtain ⟨⟨t312, t315⟩, A20, H⟩ := H
 replace H : (some t315) = some r := H
 have A2 := am A20
 clear A20
 obtain rfl := Option.some.inj H
 simp only [Option.some.injEq, Prod.mk.injEq] at H
 obtain ⟨rfl⟩ := H
 go_enter Tryd.func66, Tryd.ntmps66
 go_wp2_with (first | ((with_reducible refine gate_dst (N := 1) rfl ?_); refine box_event ?hg (N := 1) ?hd (cs := #[.string a0_0, .slice A0_1 l0_1.length c0_1, .slice A0_2 l0_2.length c0_2]) (t := 42) ?hr ?_; (case hd => rfl); (case hg => rfl); (case hr => first | (go_simp; done) | (go_simp; rfl)); intro gb311 hg w3 hbox hb; have n0_ := am (below_step bl hb); have n1_ := am (hbox); have n2_ := am ((gs : w.heap.size ≤ gb311)); have n3_ := am ((gs : w.heap.size ≤ gb311)); clear HB; have HB := n0_; have BK311 := n1_; have GW311 := n2_; have GE311 := n3_; clear n0_ n1_ n2_ n3_; clear hb hbox hg; have hcz4_0 : w3.cell? ⟨gb311, 0, none⟩ = some (.string a0_0) := (blk_cell BK311.out 0).trans rfl; have hcz4_1 : w3.cell? ⟨gb311, 1, none⟩ = some (.slice A0_1 l0_1.length c0_1) := (blk_cell BK311.out 1).trans rfl; have hcz4_2 : w3.cell? ⟨gb311, 2, none⟩ = some (.slice A0_2 l0_2.length c0_2) := (blk_cell BK311.out 2).trans rfl; have hfz4_0 := blk_frozen BK311.out 0; have hfz4_1 := blk_frozen BK311.out 1; have hfz4_2 := blk_frozen BK311.out 2) | ((with_reducible refine gate_callee (f := 88) rfl ?_); refine goesL_ (some 7) rfl rfl Tryd.func88 (by kernel_rfl) rfl #[.agg #[.string a0_0, .slice A0_1 l0_1.length c0_1, .slice A0_2 l0_2.length c0_2]] rfl ar ?_; (with_reducible refine (chain_sizes.calls k a0_0 _ _ l0_1 _ _ l0_2 t312 t315 _ ?side1 ?side2 ?side3 ?side4 ?side5 A2.out).mono ?_); (case side1 => repeat (first | exact (Kd.C_below HR0_1.out HB.out) | (with_reducible refine Kd.C_alloc ?_ _) | (with_reducible refine Kd.C_drewN ?_ _) | (with_reducible refine Kd.C_drew ?_))); (case side2 => exact HC0_1.out); (case side3 => repeat (first | exact (Kd.C_below HR0_2.out HB.out) | (with_reducible refine Kd.C_alloc ?_ _) | (with_reducible refine Kd.C_drewN ?_ _) | (with_reducible refine Kd.C_drew ?_))); (case side4 => exact HC0_2.out); (case side5 => exact Tabs.below HT.out bl); rintro e w5 ⟨v313, rfl, ho0, hb⟩; refine ⟨_, rfl, ?_⟩; have n0_ := am (Kd.R_lower ho0 (below_size bl)); have n1_ := am (blk_below (g := gb311) (o := .cells #[.string a0_0, .slice A0_1 l0_1.length c0_1, .slice A0_2 l0_2.length c0_2] 42 (0, 0)) (by refine bk ?_; exact BK311.out) hb); have n2_ := am (below_step bl hb); clear BK311; clear HB; have HO314 := n0_; have BK311 := n1_; have HB := n2_; clear n0_ n1_ n2_; (try clear hb); (try clear hb2); (try clear hk); (try clear hi); (try clear ho0)))
 go_ret
 exact ⟨by first | rfl | (simp [errW_none, errW_some] <;> rfl) | (simp [*, errW_none, errW_some] <;> rfl), bl⟩
end Go.Proofs.YtegjegihcebimaaDoor.P
end
