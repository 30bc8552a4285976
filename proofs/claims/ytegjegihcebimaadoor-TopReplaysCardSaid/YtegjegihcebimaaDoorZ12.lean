/- Part 12 of the proof of topReplays_holds: out of the texts that this session's programs wrote, what the theorem reaches. -/
import Derived.Test.YtegjegihcebimaaDoorZ10
import Derived.Test.YtegjegihcebimaaDoorZ11
import Derived.Test.YtegjegihcebimaaDoorZ2
import Derived.Test.YtegjegihcebimaaDoorZ6
import Derived.Test.YtegjegihcebimaaDoorZ8
section
namespace Go.Proofs.YtegjegihcebimaaDoor.P
open Go.RowKit Go.Proofs.YtegjegihcebimaaDoorW.PrintWords Go.Proofs.YtegjegihcebimaaDoorW.PrintLast Go.Proofs.YtegjegihcebimaaDoorW.PrintMore
attribute [local go_sem] max2_int min2_int max_two min_two max_three min_three max_four min_four
set_option linter.unusedVariables false
set_option linter.unusedSimpArgs false
def chain_At.f (k : Nat) (a0_0 : ByteArray) (l0_1 : List Int) (l0_2 : List (List (S25))) (a1 : Int) : Option (ByteArray × Int) := (chain_May.f k a0_0 l0_1 l0_2).bind fun t317 => (if t317 = 0 then (if a1 < 0 then (some ((⟨#[]⟩ : ByteArray), 6)) else (if a1 > (l0_2.length : Int) then (some ((⟨#[]⟩ : ByteArray), 6)) else (if 0 ≤ a1 then (if a1 ≤ (l0_2.length : Int) then ((apply_All.f k a0_0 (l0_2.take (a1 : Int).toNat)).bind fun bt322 => (some (bt322.1, bt322.2))) else (none)) else (none)))) else (some ((⟨#[]⟩ : ByteArray), t317)))
def chain_At.T6 : Bool × List (List Nat × List Nat) := (true, [([], []), ([0], [0]), ([], []), ([2], [2]), ([], []), ([3, 4], [3, 4]), ([1, 5], [1, 5]), ([6], [6]), ([6], [6]), ([7, 6, 0, 1, 2, 3, 4, 5, 6, 7, 8], [7]), ([8, 9, 0, 1, 2, 3, 4, 5, 6, 7, 8, 9], [8])])
def chain_At.B6 : List Nat := [0, 1, 0, 4, 0, 28, 63, 127, 127, 511, 1023]
theorem chain_At.tab6 : rtab .any (opsOf Tryd.f27 6) = chain_At.T6 := by kernel_rfl
theorem chain_At.bits6 : waitsOk chain_At.T6.2 chain_At.B6 = true := by kernel_rfl
set_option maxHeartbeats 8000000 in
set_option maxRecDepth 100000 in
theorem chain_At.calls (k : Nat) (a0_0 : ByteArray) (A0_1 : Option Addr) (c0_1 : Nat) (l0_1 : List Int) (A0_2 : Option Addr) (c0_2 : Nat) (l0_2 : List (List (S25))) (a1 : Int) (r1 : ByteArray) (r2 : Int) (w : World) (hr0_1 : Kd.C (Kd.int .i64) w A0_1 l0_1.length l0_1) (hc0_1 : l0_1.length ≤ c0_1) (hr0_2 : Kd.C (Kd.slice 25 k25) w A0_2 l0_2.length l0_2) (hc0_2 : l0_2.length ≤ c0_2) (hT : Tabs w) (h : chain_At.f k a0_0 l0_1 l0_2 a1 = some (r1, r2)) :
  Calls Tryd.prog 27 #[.agg #[.string a0_0, .slice A0_1 l0_1.length c0_1, .slice A0_2 l0_2.length c0_2], .int .i64 a1] w fun e w' => e = .returned (.tuple #[.string r1, .int .i64 r2]) ∧ Below w.heap.size w w' := by
 have HT := am hT
 clear hT
 have hu42 := Tryd.underlying42
 have HR0_1 := am hr0_1
 have HC0_1 := am hc0_1
 clear hr0_1 hc0_1
 have HR0_2 := am hr0_2
 have HC0_2 := am hc0_2
 clear hr0_2 hc0_2
 have HB := am (Below.refl w.heap.size w)
 have H : ((chain_May.f k a0_0 l0_1 l0_2).bind fun t317 => (if t317 = 0 then (if a1 < 0 then (some ((⟨#[]⟩ : ByteArray), 6)) else (if a1 > (l0_2.length : Int) then (some ((⟨#[]⟩ : ByteArray), 6)) else (if 0 ≤ a1 then (if a1 ≤ (l0_2.length : Int) then ((apply_All.f k a0_0 (l0_2.take (a1 : Int).toNat)).bind fun bt322 => (some (bt322.1, bt322.2))) else (none)) else (none)))) else (some ((⟨#[]⟩ : ByteArray), t317)))) = some (r1, r2) := h
 clear h
 replace H := Option.bind_eq_some_iff.mp H
 obtain ⟨t317, A30, H⟩ := H
 try dsimp only at H
 have A3 := am A30
 clear A30
 by_cases c4 : t317 = 0
 ·rw [if_pos c4] at H
  have c4b0 : (t317 == 0) = true := beq_iff_eq.mpr c4
  have c4b1 : (t317 != 0) = false := bne_eq_false_iff_eq.mpr c4
  clear c4
  by_cases c5 : a1 < 0
  ·rw [if_pos c5] at H
   have c5b0 : decide (a1 < 0) = true := decide_eq_true c5
   clear c5
   simp only [Option.some.injEq, Prod.mk.injEq] at H
   obtain ⟨rfl, rfl⟩ := H
   go_enter Tryd.func27, Tryd.ntmps27
   go_wp2_with (first | ((with_reducible refine gate_dst (N := 2) rfl ?_); (try (refine gate_guard (by rfl) ?_; dsimp only)); refine box_event ?hg (N := 2) ?hd (cs := #[.string a0_0, .slice A0_1 l0_1.length c0_1, .slice A0_2 l0_2.length c0_2]) (t := 42) ?hr ?_; (case hd => rfl); (case hg => rfl); (case hr => first | (go_simp; done) | (go_simp; rfl)); intro gb316 hg w6 hbox hb; have n0_ := am (below_step bl hb); have n1_ := am (hbox); have n2_ := am ((gs : w.heap.size ≤ gb316)); have n3_ := am ((gs : w.heap.size ≤ gb316)); clear HB; have HB := n0_; have BK316 := n1_; have GW316 := n2_; have GE316 := n3_; clear n0_ n1_ n2_ n3_; clear hb hbox hg; have hcz7_0 : w6.cell? ⟨gb316, 0, none⟩ = some (.string a0_0) := (blk_cell BK316.out 0).trans rfl; have hcz7_1 : w6.cell? ⟨gb316, 1, none⟩ = some (.slice A0_1 l0_1.length c0_1) := (blk_cell BK316.out 1).trans rfl; have hcz7_2 : w6.cell? ⟨gb316, 2, none⟩ = some (.slice A0_2 l0_2.length c0_2) := (blk_cell BK316.out 2).trans rfl; have hfz7_0 := blk_frozen BK316.out 0; have hfz7_1 := blk_frozen BK316.out 1; have hfz7_2 := blk_frozen BK316.out 2) | ((with_reducible refine gate_callee (f := 66) rfl ?_); refine goesL_ (some 8) rfl rfl Tryd.func66 (by kernel_rfl) rfl #[.agg #[.string a0_0, .slice A0_1 l0_1.length c0_1, .slice A0_2 l0_2.length c0_2]] rfl ar ?_; (with_reducible refine (chain_May.calls k a0_0 _ _ l0_1 _ _ l0_2 t317 _ ?side1 ?side2 ?side3 ?side4 ?side5 A3.out).mono ?_); (case side1 => repeat (first | exact (Kd.C_below HR0_1.out HB.out) | (with_reducible refine Kd.C_alloc ?_ _) | (with_reducible refine Kd.C_drewN ?_ _) | (with_reducible refine Kd.C_drew ?_))); (case side2 => exact HC0_1.out); (case side3 => repeat (first | exact (Kd.C_below HR0_2.out HB.out) | (with_reducible refine Kd.C_alloc ?_ _) | (with_reducible refine Kd.C_drewN ?_ _) | (with_reducible refine Kd.C_drew ?_))); (case side4 => exact HC0_2.out); (case side5 => exact Tabs.below HT.out bl); rintro e w8 ⟨rfl, hb⟩; refine ⟨_, rfl, ?_⟩; have n0_ := am (blk_below (g := gb316) (o := .cells #[.string a0_0, .slice A0_1 l0_1.length c0_1, .slice A0_2 l0_2.length c0_2] 42 (0, 0)) (by refine bk ?_; exact BK316.out) hb); have n1_ := am (below_step bl hb); clear BK316; clear HB; have BK316 := n0_; have HB := n1_; clear n0_ n1_; (try clear hb); (try clear hb2); (try clear hk); (try clear hi)))
   go_ret2
   exact ⟨by first | rfl | (simp [errW_none, errW_some] <;> rfl) | (simp [*, errW_none, errW_some] <;> rfl), bl⟩
  ·rw [if_neg c5] at H
   have c5b0 : decide (a1 < 0) = false := decide_eq_false c5
   clear c5
   by_cases c9 : a1 > (l0_2.length : Int)
   ·rw [if_pos c9] at H
    have c9b0 : decide ((l0_2.length : Int) < a1) = true := decide_eq_true c9
    clear c9
    simp only [Option.some.injEq, Prod.mk.injEq] at H
    obtain ⟨rfl, rfl⟩ := H
    go_enter Tryd.func27, Tryd.ntmps27
    go_wp2_with (first | ((with_reducible refine gate_dst (N := 2) rfl ?_); (try (refine gate_guard (by rfl) ?_; dsimp only)); refine box_event ?hg (N := 2) ?hd (cs := #[.string a0_0, .slice A0_1 l0_1.length c0_1, .slice A0_2 l0_2.length c0_2]) (t := 42) ?hr ?_; (case hd => rfl); (case hg => rfl); (case hr => first | (go_simp; done) | (go_simp; rfl)); intro gb316 hg w10 hbox hb; have n0_ := am (below_step bl hb); have n1_ := am (hbox); have n2_ := am ((gs : w.heap.size ≤ gb316)); have n3_ := am ((gs : w.heap.size ≤ gb316)); clear HB; have HB := n0_; have BK316 := n1_; have GW316 := n2_; have GE316 := n3_; clear n0_ n1_ n2_ n3_; clear hb hbox hg; have hcz11_0 : w10.cell? ⟨gb316, 0, none⟩ = some (.string a0_0) := (blk_cell BK316.out 0).trans rfl; have hcz11_1 : w10.cell? ⟨gb316, 1, none⟩ = some (.slice A0_1 l0_1.length c0_1) := (blk_cell BK316.out 1).trans rfl; have hcz11_2 : w10.cell? ⟨gb316, 2, none⟩ = some (.slice A0_2 l0_2.length c0_2) := (blk_cell BK316.out 2).trans rfl; have hfz11_0 := blk_frozen BK316.out 0; have hfz11_1 := blk_frozen BK316.out 1; have hfz11_2 := blk_frozen BK316.out 2) | ((with_reducible refine gate_callee (f := 66) rfl ?_); refine goesL_ (some 8) rfl rfl Tryd.func66 (by kernel_rfl) rfl #[.agg #[.string a0_0, .slice A0_1 l0_1.length c0_1, .slice A0_2 l0_2.length c0_2]] rfl ar ?_; (with_reducible refine (chain_May.calls k a0_0 _ _ l0_1 _ _ l0_2 t317 _ ?side1 ?side2 ?side3 ?side4 ?side5 A3.out).mono ?_); (case side1 => repeat (first | exact (Kd.C_below HR0_1.out HB.out) | (with_reducible refine Kd.C_alloc ?_ _) | (with_reducible refine Kd.C_drewN ?_ _) | (with_reducible refine Kd.C_drew ?_))); (case side2 => exact HC0_1.out); (case side3 => repeat (first | exact (Kd.C_below HR0_2.out HB.out) | (with_reducible refine Kd.C_alloc ?_ _) | (with_reducible refine Kd.C_drewN ?_ _) | (with_reducible refine Kd.C_drew ?_))); (case side4 => exact HC0_2.out); (case side5 => exact Tabs.below HT.out bl); rintro e w12 ⟨rfl, hb⟩; refine ⟨_, rfl, ?_⟩; have n0_ := am (blk_below (g := gb316) (o := .cells #[.string a0_0, .slice A0_1 l0_1.length c0_1, .slice A0_2 l0_2.length c0_2] 42 (0, 0)) (by refine bk ?_; exact BK316.out) hb); have n1_ := am (below_step bl hb); clear BK316; clear HB; have BK316 := n0_; have HB := n1_; clear n0_ n1_; (try clear hb); (try clear hb2); (try clear hk); (try clear hi); have hcz13_0 : w12.cell? ⟨gb316, 0, none⟩ = some (.string a0_0) := (blk_cell BK316.out 0).trans rfl; have hcz13_1 : w12.cell? ⟨gb316, 1, none⟩ = some (.slice A0_1 l0_1.length c0_1) := (blk_cell BK316.out 1).trans rfl; have hcz13_2 : w12.cell? ⟨gb316, 2, none⟩ = some (.slice A0_2 l0_2.length c0_2) := (blk_cell BK316.out 2).trans rfl; have hfz13_0 := blk_frozen BK316.out 0; have hfz13_1 := blk_frozen BK316.out 1; have hfz13_2 := blk_frozen BK316.out 2))
    go_ret2
    exact ⟨by first | rfl | (simp [errW_none, errW_some] <;> rfl) | (simp [*, errW_none, errW_some] <;> rfl), bl⟩
   ·rw [if_neg c9] at H
    have c9b0 : decide ((l0_2.length : Int) < a1) = false := decide_eq_false c9
    clear c9
    by_cases c14 : 0 ≤ a1
    ·rw [if_pos c14] at H
     have c14b0 := eq_true c14
     have c14b1 : decide (0 ≤ a1) = true := decide_eq_true c14
     clear c14
     by_cases c15 : a1 ≤ (l0_2.length : Int)
     ·rw [if_pos c15] at H
      have c15b0 := eq_true c15
      have c15b1 : decide (a1 ≤ (l0_2.length : Int)) = true := decide_eq_true c15
      clear c15
      obtain ⟨y318, hy318⟩ : ∃ y_ : List (List (S25)), y_ = (l0_2.take (a1 : Int).toNat) := ⟨_, rfl⟩
      replace H : ((apply_All.f k a0_0 y318).bind fun bt322 => (some (bt322.1, bt322.2))) = some (r1, r2) := by first | (rw [hy318]; with_reducible exact H) | (have H2_ := (Option.bind_some _ _).symm.trans H; rw [hy318]; with_reducible exact H2_) | (have H2_ := (Option.bind_some _ _).symm.trans H; with_reducible exact H2_) | with_reducible exact H | (rw [hy318]; exact H) | exact H
      have Ny318 := am hy318
      clear hy318
      replace H := Option.bind_eq_some_iff.mp H
      obtain ⟨⟨t322, t323⟩, A160, H⟩ := H
      replace H : (some (t322, t323)) = some (r1, r2) := H
      have A16 := am A160
      clear A160
      simp only [Option.some.injEq, Prod.mk.injEq] at H
      obtain ⟨rfl, rfl⟩ := H
      go_enter Tryd.func27, Tryd.ntmps27
      try go_wp2_with (first | ((with_reducible refine gate_dst (N := 2) rfl ?_); (try (refine gate_guard (by rfl) ?_; dsimp only)); refine box_event ?hg (N := 2) ?hd (cs := #[.string a0_0, .slice A0_1 l0_1.length c0_1, .slice A0_2 l0_2.length c0_2]) (t := 42) ?hr ?_; (case hd => rfl); (case hg => rfl); (case hr => first | (go_simp; done) | (go_simp; rfl)); intro gb316 hg w17 hbox hb; have n0_ := am (below_step bl hb); have n1_ := am (hbox); have n2_ := am ((gs : w.heap.size ≤ gb316)); have n3_ := am ((gs : w.heap.size ≤ gb316)); clear HB; have HB := n0_; have BK316 := n1_; have GW316 := n2_; have GE316 := n3_; clear n0_ n1_ n2_ n3_; clear hb hbox hg; have hcz18_0 : w17.cell? ⟨gb316, 0, none⟩ = some (.string a0_0) := (blk_cell BK316.out 0).trans rfl; have hcz18_1 : w17.cell? ⟨gb316, 1, none⟩ = some (.slice A0_1 l0_1.length c0_1) := (blk_cell BK316.out 1).trans rfl; have hcz18_2 : w17.cell? ⟨gb316, 2, none⟩ = some (.slice A0_2 l0_2.length c0_2) := (blk_cell BK316.out 2).trans rfl; have hfz18_0 := blk_frozen BK316.out 0; have hfz18_1 := blk_frozen BK316.out 1; have hfz18_2 := blk_frozen BK316.out 2) | ((with_reducible refine gate_callee (f := 66) rfl ?_); refine goesL_ (some 8) rfl rfl Tryd.func66 (by kernel_rfl) rfl #[.agg #[.string a0_0, .slice A0_1 l0_1.length c0_1, .slice A0_2 l0_2.length c0_2]] rfl ar ?_; (with_reducible refine (chain_May.calls k a0_0 _ _ l0_1 _ _ l0_2 t317 _ ?side1 ?side2 ?side3 ?side4 ?side5 A3.out).mono ?_); (case side1 => repeat (first | exact (Kd.C_below HR0_1.out HB.out) | (with_reducible refine Kd.C_alloc ?_ _) | (with_reducible refine Kd.C_drewN ?_ _) | (with_reducible refine Kd.C_drew ?_))); (case side2 => exact HC0_1.out); (case side3 => repeat (first | exact (Kd.C_below HR0_2.out HB.out) | (with_reducible refine Kd.C_alloc ?_ _) | (with_reducible refine Kd.C_drewN ?_ _) | (with_reducible refine Kd.C_drew ?_))); (case side4 => exact HC0_2.out); (case side5 => exact Tabs.below HT.out bl); rintro e w19 ⟨rfl, hb⟩; refine ⟨_, rfl, ?_⟩; have n0_ := am (blk_below (g := gb316) (o := .cells #[.string a0_0, .slice A0_1 l0_1.length c0_1, .slice A0_2 l0_2.length c0_2] 42 (0, 0)) (by refine bk ?_; exact BK316.out) hb); have n1_ := am (below_step bl hb); clear BK316; clear HB; have BK316 := n0_; have HB := n1_; clear n0_ n1_; (try clear hb); (try clear hb2); (try clear hk); (try clear hi); have hcz20_0 : w19.cell? ⟨gb316, 0, none⟩ = some (.string a0_0) := (blk_cell BK316.out 0).trans rfl; have hcz20_1 : w19.cell? ⟨gb316, 1, none⟩ = some (.slice A0_1 l0_1.length c0_1) := (blk_cell BK316.out 1).trans rfl; have hcz20_2 : w19.cell? ⟨gb316, 2, none⟩ = some (.slice A0_2 l0_2.length c0_2) := (blk_cell BK316.out 2).trans rfl; have hfz20_0 := blk_frozen BK316.out 0; have hfz20_1 := blk_frozen BK316.out 1; have hfz20_2 := blk_frozen BK316.out 2))
      have n0_ := am (blk_drew BK316.out)
      have n1_ := am (below_drew1 HB.out)
      clear BK316
      clear HB
      have BK316 := n0_
      have HB := n1_
      clear n0_ n1_
      have q22 : (a1 : Int) ≤ ((l0_2.length : Int) : Int) := of_decide_eq_true as0
      obtain ⟨i022, hi022, _, hsz22, _⟩ := info_parts info27
      have hroom22 : l0_2.length ≤ c0_2 := HC0_2.out
      have hC22 : Kd.C (Kd.slice 25 k25) _ A0_2 l0_2.length l0_2 := HR0_2.out
      have hcut22 := cut_to (P := Tryd.prog) 28 27 .i64 Tryd.underlying28 hi022 A0_2 l0_2.length c0_2 a1 (of_decide_eq_true as0) q22 hroom22
      have hr22 := Kd.C_take (m := (a1 : Int).toNat) hC22 (by omega)
      have hy22 : y318.length = (a1 : Int).toNat := (by rw [Ny318.out, List.length_take]; omega)
      rw [← Ny318.out] at hr22
      rw [← hy22] at hcut22
      have HR321 := am hr22
      have HC321 := am (show y318.length ≤ c0_2 from by omega)
      clear hr22 hC22 hroom22 hi022 hsz22
      have KY22 := am hy22
      clear hy22
      replace q22 := eq_true q22
      refine start_ (n := 11) (S := fun w' => w'.cell? ⟨gb316, 0, none⟩ = some (.string a0_0) ∧ w'.cell? ⟨gb316, 1, none⟩ = some (.slice A0_1 l0_1.length c0_1) ∧ w'.cell? ⟨gb316, 2, none⟩ = some (.slice A0_2 l0_2.length c0_2)) (ds := []) #[false, false, false, false, false, false, false, false, false, false, false] (by kernel_rfl) rfl rfl ⟨(blk_cell BK316.out 0).trans rfl, (blk_cell BK316.out 1).trans rfl, (blk_cell BK316.out 2).trans rfl⟩ (fun hHeld => ?_); refine with_tabW chain_At.tab6 chain_At.bits6 (fun HT_ HW_ => ?_)
      generalize w19.drew = w21 at BK316 HB HR321 hHeld ⊢
      refine pure_ (i := 0) (N := some 21) #[true, false, false, false, false, false, false, false, false, false, false] rfl rfl (aT HT_.out) (fun _ _ _ h => h) (Or.inl ⟨rfl, rn⟩) ap ?_
      refine pure_ (i := 2) (N := some 23) #[true, false, true, false, false, false, false, false, false, false, false] rfl rfl (aT HT_.out) (fun _ _ _ h => h) (Or.inl ⟨rfl, rn⟩) ap ?_
      refine pure_ (i := 4) (N := some 25) #[true, false, true, false, true, false, false, false, false, false, false] rfl rfl (aT HT_.out) (fun _ _ _ h => h) (Or.inl ⟨rfl, rn⟩) ap ?_
      refine take_ (i := 1) (N := some 22) (v := ?_) (a' := ?_) #[true, true, true, false, true, false, false, false, false, false, false] rfl rfl (take_ofW HT_.out HW_.out (by kernel_rfl)) (fun _ _ _ h => h) (Or.inl ⟨by rfl, ?_⟩) hHeld ?_ ?_
      rotate_left
      ·rintro w' ⟨s0, s1, s2⟩
       go_simp
       with_reducible rfl
      rotate_left
      ·exact ap
      refine take_ (i := 3) (N := some 24) (v := ?_) (a' := ?_) #[true, true, true, true, true, false, false, false, false, false, false] rfl rfl (take_ofW HT_.out HW_.out (by kernel_rfl)) (fun _ _ _ h => h) (Or.inl ⟨by rfl, ?_⟩) hHeld ?_ ?_
      rotate_left
      ·rintro w' ⟨s0, s1, s2⟩
       go_simp
       with_reducible rfl
      rotate_left
      ·exact ap
      refine pure_ (i := 5) (N := some 26) #[true, true, true, true, true, true, false, false, false, false, false] rfl rfl (aT HT_.out) (fun _ _ _ h => h) (Or.inl ⟨rfl, rn⟩) ap ?_
      refine one_ (i := 6) (N := some 27) #[true, true, true, true, true, true, true, false, false, false, false] rfl rfl (one_of HT_.out (by kernel_rfl)) (by decide) (fun K hK => ?_)
      refine goes_ Tryd.func14 (by kernel_rfl) rfl #[.string a0_0, .slice A0_2 y318.length c0_2] (by rfl) rfl rfl ar ?_
      with_reducible refine (apply_All.calls k a0_0 _ _ y318 t322 t323 _ ?side1 ?side2 ?side3 A16.out).mono ?_
      (case side1 => repeat (first | exact (Kd.C_below HR321.out HB.out) | (with_reducible refine Kd.C_alloc ?_ _) | (with_reducible refine Kd.C_drewN ?_ _) | (with_reducible refine Kd.C_drew ?_)))
      (case side2 => exact HC321.out)
      (case side3 => exact Tabs.below HT.out bl)
      rintro e w23 ⟨rfl, hb⟩
      refine ⟨_, rfl, ?_⟩
      have n0_ := am (blk_below (g := gb316) (o := .cells #[.string a0_0, .slice A0_1 l0_1.length c0_1, .slice A0_2 l0_2.length c0_2] 42 (0, 0)) (by refine bk ?_; exact BK316.out) hb)
      have n1_ := am (below_step bl hb)
      clear BK316
      clear HB
      have BK316 := n0_
      have HB := n1_
      clear n0_ n1_
      (try clear hb)
      (try clear hb2)
      (try clear hk)
      (try clear hi)
      refine hK.out _ _ ⟨(blk_cell BK316.out 0).trans rfl, (blk_cell BK316.out 1).trans rfl, (blk_cell BK316.out 2).trans rfl⟩ (fun hHeld => ?_)
      clear hK K
      refine norm_ (a' := ?_) ?_ ?_
      rotate_left
      ·show Act.put _ (some 27) _ = _
       simp only [Act.put, List.setIfInBounds_toArray, List.set_cons_zero, List.set_cons_succ, i64_w, i32_w]
       rfl
      refine pure_ (i := 7) (N := some 28) #[true, true, true, true, true, true, true, true, false, false, false] rfl rfl (aT HT_.out) (fun _ _ _ h => h) (Or.inl ⟨rfl, rn⟩) ap ?_
      refine pure_ (i := 8) (N := some 29) #[true, true, true, true, true, true, true, true, true, false, false] rfl rfl (aT HT_.out) (fun _ _ _ h => h) (Or.inl ⟨rfl, rn⟩) ap ?_
      refine pure_ (i := 9) (N := some 4) #[true, true, true, true, true, true, true, true, true, true, false] rfl rfl (aT HT_.out) (fun _ _ _ h => h) (Or.inl ⟨rfl, rn⟩) ap ?_
      refine pure_ (i := 10) (N := some 5) #[true, true, true, true, true, true, true, true, true, true, true] rfl rfl (aT HT_.out) (fun _ _ _ h => h) (Or.inl ⟨rfl, rn⟩) ap ?_
      refine done_ (done_of HT_.out (by kernel_rfl)) ?_
      try go_wp2
      go_ret2
      exact ⟨by first | rfl | (simp [errW_none, errW_some] <;> rfl) | (simp [*, errW_none, errW_some] <;> rfl), bl⟩
     ·rw [if_neg c15] at H
      exact absurd H (by simp)
    ·rw [if_neg c14] at H
     exact absurd H (by simp)
 ·rw [if_neg c4] at H
  have c4b0 : (t317 == 0) = false := beq_eq_false_iff_ne.mpr c4
  have c4b1 : (t317 != 0) = true := bne_iff_ne.mpr c4
  simp only [Option.some.injEq, Prod.mk.injEq] at H
  obtain ⟨rfl, rfl⟩ := H
  go_enter Tryd.func27, Tryd.ntmps27
  go_wp2_with (first | ((with_reducible refine gate_dst (N := 2) rfl ?_); (try (refine gate_guard (by rfl) ?_; dsimp only)); refine box_event ?hg (N := 2) ?hd (cs := #[.string a0_0, .slice A0_1 l0_1.length c0_1, .slice A0_2 l0_2.length c0_2]) (t := 42) ?hr ?_; (case hd => rfl); (case hg => rfl); (case hr => first | (go_simp; done) | (go_simp; rfl)); intro gb316 hg w24 hbox hb; have n0_ := am (below_step bl hb); have n1_ := am (hbox); have n2_ := am ((gs : w.heap.size ≤ gb316)); have n3_ := am ((gs : w.heap.size ≤ gb316)); clear HB; have HB := n0_; have BK316 := n1_; have GW316 := n2_; have GE316 := n3_; clear n0_ n1_ n2_ n3_; clear hb hbox hg; have hcz25_0 : w24.cell? ⟨gb316, 0, none⟩ = some (.string a0_0) := (blk_cell BK316.out 0).trans rfl; have hcz25_1 : w24.cell? ⟨gb316, 1, none⟩ = some (.slice A0_1 l0_1.length c0_1) := (blk_cell BK316.out 1).trans rfl; have hcz25_2 : w24.cell? ⟨gb316, 2, none⟩ = some (.slice A0_2 l0_2.length c0_2) := (blk_cell BK316.out 2).trans rfl; have hfz25_0 := blk_frozen BK316.out 0; have hfz25_1 := blk_frozen BK316.out 1; have hfz25_2 := blk_frozen BK316.out 2) | ((with_reducible refine gate_callee (f := 66) rfl ?_); refine goesL_ (some 8) rfl rfl Tryd.func66 (by kernel_rfl) rfl #[.agg #[.string a0_0, .slice A0_1 l0_1.length c0_1, .slice A0_2 l0_2.length c0_2]] rfl ar ?_; (with_reducible refine (chain_May.calls k a0_0 _ _ l0_1 _ _ l0_2 t317 _ ?side1 ?side2 ?side3 ?side4 ?side5 A3.out).mono ?_); (case side1 => repeat (first | exact (Kd.C_below HR0_1.out HB.out) | (with_reducible refine Kd.C_alloc ?_ _) | (with_reducible refine Kd.C_drewN ?_ _) | (with_reducible refine Kd.C_drew ?_))); (case side2 => exact HC0_1.out); (case side3 => repeat (first | exact (Kd.C_below HR0_2.out HB.out) | (with_reducible refine Kd.C_alloc ?_ _) | (with_reducible refine Kd.C_drewN ?_ _) | (with_reducible refine Kd.C_drew ?_))); (case side4 => exact HC0_2.out); (case side5 => exact Tabs.below HT.out bl); rintro e w26 ⟨rfl, hb⟩; refine ⟨_, rfl, ?_⟩; have n0_ := am (blk_below (g := gb316) (o := .cells #[.string a0_0, .slice A0_1 l0_1.length c0_1, .slice A0_2 l0_2.length c0_2] 42 (0, 0)) (by refine bk ?_; exact BK316.out) hb); have n1_ := am (below_step bl hb); clear BK316; clear HB; have BK316 := n0_; have HB := n1_; clear n0_ n1_; (try clear hb); (try clear hb2); (try clear hk); (try clear hi)))
  go_ret2
  exact ⟨by first | rfl | (simp [errW_none, errW_some] <;> rfl) | (simp [*, errW_none, errW_some] <;> rfl), bl⟩
def chain_Sizes.f (k : Nat) (a0_0 : ByteArray) (l0_1 : List Int) (l0_2 : List (List (S25))) : Option (List Int × Int) := (chain_sizes.f k a0_0 l0_1 l0_2).bind fun bt325 => (some (bt325.1, bt325.2))
set_option maxHeartbeats 8000000 in
set_option maxRecDepth 100000 in
theorem chain_Sizes.calls (k : Nat) (a0_0 : ByteArray) (A0_1 : Option Addr) (c0_1 : Nat) (l0_1 : List Int) (A0_2 : Option Addr) (c0_2 : Nat) (l0_2 : List (List (S25))) (r1 : List Int) (r2 : Int) (w : World) (hr0_1 : Kd.C (Kd.int .i64) w A0_1 l0_1.length l0_1) (hc0_1 : l0_1.length ≤ c0_1) (hr0_2 : Kd.C (Kd.slice 25 k25) w A0_2 l0_2.length l0_2) (hc0_2 : l0_2.length ≤ c0_2) (hT : Tabs w) (h : chain_Sizes.f k a0_0 l0_1 l0_2 = some (r1, r2)) :
  Calls Tryd.prog 54 #[.agg #[.string a0_0, .slice A0_1 l0_1.length c0_1, .slice A0_2 l0_2.length c0_2]] w fun e w' => ∃ v0_ : Value, e = .returned (.tuple #[v0_, .int .i64 r2]) ∧ Kd.R (Kd.int .i64) 3 w' w.heap.size (fun _ => True) v0_ r1 ∧ Below w.heap.size w w' := by
 have HT := am hT
 clear hT
 have hu42 := Tryd.underlying42
 have HR0_1 := am hr0_1
 have HC0_1 := am hc0_1
 clear hr0_1 hc0_1
 have HR0_2 := am hr0_2
 have HC0_2 := am hc0_2
 clear hr0_2 hc0_2
 have HB := am (Below.refl w.heap.size w)
 have H : ((chain_sizes.f k a0_0 l0_1 l0_2).bind fun bt325 => (some (bt325.1, bt325.2))) = some (r1, r2) := h
 clear h
 replace H := Option.bind_eq_some_iff.mp H
 obtain ⟨⟨t325, t328⟩, A20, H⟩ := H
 replace H : (some (t325, t328)) = some (r1, r2) := H
 have A2 := am A20
 clear A20
 simp only [Option.some.injEq, Prod.mk.injEq] at H
 obtain ⟨rfl, rfl⟩ := H
 go_enter Tryd.func54, Tryd.ntmps54
 go_wp2_with (first | ((with_reducible refine gate_dst (N := 1) rfl ?_); refine box_event ?hg (N := 1) ?hd (cs := #[.string a0_0, .slice A0_1 l0_1.length c0_1, .slice A0_2 l0_2.length c0_2]) (t := 42) ?hr ?_; (case hd => rfl); (case hg => rfl); (case hr => first | (go_simp; done) | (go_simp; rfl)); intro gb324 hg w3 hbox hb; have n0_ := am (below_step bl hb); have n1_ := am (hbox); have n2_ := am ((gs : w.heap.size ≤ gb324)); have n3_ := am ((gs : w.heap.size ≤ gb324)); clear HB; have HB := n0_; have BK324 := n1_; have GW324 := n2_; have GE324 := n3_; clear n0_ n1_ n2_ n3_; clear hb hbox hg; have hcz4_0 : w3.cell? ⟨gb324, 0, none⟩ = some (.string a0_0) := (blk_cell BK324.out 0).trans rfl; have hcz4_1 : w3.cell? ⟨gb324, 1, none⟩ = some (.slice A0_1 l0_1.length c0_1) := (blk_cell BK324.out 1).trans rfl; have hcz4_2 : w3.cell? ⟨gb324, 2, none⟩ = some (.slice A0_2 l0_2.length c0_2) := (blk_cell BK324.out 2).trans rfl; have hfz4_0 := blk_frozen BK324.out 0; have hfz4_1 := blk_frozen BK324.out 1; have hfz4_2 := blk_frozen BK324.out 2) | ((with_reducible refine gate_callee (f := 88) rfl ?_); refine goesL_ (some 5) rfl rfl Tryd.func88 (by kernel_rfl) rfl #[.agg #[.string a0_0, .slice A0_1 l0_1.length c0_1, .slice A0_2 l0_2.length c0_2]] rfl ar ?_; (with_reducible refine (chain_sizes.calls k a0_0 _ _ l0_1 _ _ l0_2 t325 t328 _ ?side1 ?side2 ?side3 ?side4 ?side5 A2.out).mono ?_); (case side1 => repeat (first | exact (Kd.C_below HR0_1.out HB.out) | (with_reducible refine Kd.C_alloc ?_ _) | (with_reducible refine Kd.C_drewN ?_ _) | (with_reducible refine Kd.C_drew ?_))); (case side2 => exact HC0_1.out); (case side3 => repeat (first | exact (Kd.C_below HR0_2.out HB.out) | (with_reducible refine Kd.C_alloc ?_ _) | (with_reducible refine Kd.C_drewN ?_ _) | (with_reducible refine Kd.C_drew ?_))); (case side4 => exact HC0_2.out); (case side5 => exact Tabs.below HT.out bl); rintro e w5 ⟨v326, rfl, ho0, hb⟩; refine ⟨_, rfl, ?_⟩; have n0_ := am (Kd.R_lower ho0 (below_size bl)); have n1_ := am (blk_below (g := gb324) (o := .cells #[.string a0_0, .slice A0_1 l0_1.length c0_1, .slice A0_2 l0_2.length c0_2] 42 (0, 0)) (by refine bk ?_; exact BK324.out) hb); have n2_ := am (below_step bl hb); clear BK324; clear HB; have HO327 := n0_; have BK324 := n1_; have HB := n2_; clear n0_ n1_ n2_; (try clear hb); (try clear hb2); (try clear hk); (try clear hi); (try clear ho0)))
 go_ret2
 exact ⟨_, by first | rfl | (simp [errW_none, errW_some] <;> rfl) | (simp [*, errW_none, errW_some] <;> rfl), by refine kR ?_; exact HO327.out, bl⟩
def keep_Floor.l0 : Nat → Int → Int → List Int → Int → Int → Option (Int)
 | 0, _, _, _, _, _ => none
 | k + 1, x1, x5, x8, x9, x10 => if x10 < x9 then (if 0 ≤ x10 then (if x10 < (x8.length : Int) then (if (rd x8 x10) > x1 then (some x5) else (keep_Floor.l0 k x1 x10 x8 x9 (wrap64 (x10 + 1)))) else (none)) else (none)) else (some x5)
def keep_Floor.f (k : Nat) (l0 : List Int) (a1 : Int) : Option (Int) := keep_Floor.l0 k a1 0 l0 (l0.length : Int) 0
set_option maxHeartbeats 8000000 in
set_option maxRecDepth 100000 in
theorem keep_Floor.calls (k : Nat) (A0 : Option Addr) (c0 : Nat) (l0 : List Int) (a1 : Int) (r : Int) (w : World) (hr0 : Kd.C (Kd.int .i64) w A0 l0.length l0) (hc0 : l0.length ≤ c0) (h : keep_Floor.f k l0 a1 = some r) :
  Calls Tryd.prog 55 #[.slice A0 l0.length c0, .int .i64 a1] w fun e w' => e = .returned (.int .i64 r) ∧ Drawn0 w w' := by
 have HR0 := am hr0
 have HC0 := am hc0
 clear hr0 hc0
 have H : (keep_Floor.l0 k a1 0 l0 (l0.length : Int) 0) = some r := h
 clear h
 have H' := am H
 clear H
 go_enter Tryd.func55, Tryd.ntmps55
 go_wp2
 go_loopg [5, 10] k (fun kq v5 v10 w' => ∃ (x5_1 : Int) (x10_1 : Int), v5 = .int .i64 x5_1 ∧ v10 = .int .i64 x10_1 ∧ Aside0 (keep_Floor.l0 kq a1 x5_1 l0 (l0.length : Int) x10_1 = some r) ∧ Aside0 (kq ≤ k) ∧ Drawn0 w w')
 case atStart => exact ⟨(0), (0), pj, pj, H', ⟨Nat.le_refl _⟩, by repeat (first | exact Drawn0.refl _ | apply Drawn0.step)⟩
 case round =>
  clear H'
  try clear p2
  obtain ⟨x5_1, x10_1, rfl, rfl, HA, HK1, ⟨m1, rfl⟩⟩ := hrel
  cases gk with
  | zero => exact absurd HA.out (by simp [keep_Floor.l0])
  | succ k1 =>
   have H := HA.out
   clear HA
   simp only [keep_Floor.l0] at H
   by_cases c3 : x10_1 < (l0.length : Int)
   ·rw [if_pos c3] at H
    have c3b0 : decide (x10_1 < (l0.length : Int)) = true := decide_eq_true c3
    clear c3
    by_cases c4 : 0 ≤ x10_1
    ·rw [if_pos c4] at H
     have c4b0 : decide (0 ≤ x10_1) = true := decide_eq_true c4
     clear c4
     by_cases c5 : x10_1 < (l0.length : Int)
     ·rw [if_pos c5] at H
      have c5b0 : decide (x10_1 < (l0.length : Int)) = true := decide_eq_true c5
      clear c5
      by_cases c6 : (rd l0 x10_1) > a1
      ·rw [if_pos c6] at H
       have c6b0 : decide (a1 < (rd l0 x10_1)) = true := decide_eq_true c6
       clear c6
       obtain rfl := Option.some.inj H
       simp only [Option.some.injEq, Prod.mk.injEq] at H
       obtain ⟨rfl⟩ := H
       have p329 : 0 ≤ (x10_1 : Int) := of_decide_eq_true as0
       have q329 : x10_1 < (l0.length : Int) := of_decide_eq_true as0
       obtain ⟨ad329, e329, hx329_0⟩ := Kd.at_int HR0.out x10_1 p329 q329
       cases e329
       replace p329 := eq_true p329
       replace q329 := eq_true q329
       go_wp2
       go_ret
       exact ⟨pj, by repeat (first | exact Drawn0.refl _ | apply Drawn0.step)⟩
      ·rw [if_neg c6] at H
       have c6b0 : decide (a1 < (rd l0 x10_1)) = false := decide_eq_false c6
       clear c6
       have H' := am H
       clear H
       have p329 : 0 ≤ (x10_1 : Int) := of_decide_eq_true as0
       have q329 : x10_1 < (l0.length : Int) := of_decide_eq_true as0
       obtain ⟨ad329, e329, hx329_0⟩ := Kd.at_int HR0.out x10_1 p329 q329
       cases e329
       replace p329 := eq_true p329
       replace q329 := eq_true q329
       go_wp2
       go_roundg k1
       case measure => have := HK1.out; omega
       case rel => exact ⟨(x10_1), (wrap64 (x10_1 + 1)), pj, pj, H', ⟨by have := HK1.out; omega⟩, by repeat (first | exact Drawn0.refl _ | apply Drawn0.step)⟩
     ·rw [if_neg c5] at H
      exact absurd H (by simp)
    ·rw [if_neg c4] at H
     exact absurd H (by simp)
   ·rw [if_neg c3] at H
    have c3b0 : decide (x10_1 < (l0.length : Int)) = false := decide_eq_false c3
    clear c3
    obtain rfl := Option.some.inj H
    simp only [Option.some.injEq, Prod.mk.injEq] at H
    obtain ⟨rfl⟩ := H
    go_wp2
    go_ret
    exact ⟨pj, by repeat (first | exact Drawn0.refl _ | apply Drawn0.step)⟩
def i64ok (x : Int) : Prop := -9223372036854775808 ≤ x ∧ x ≤ 9223372036854775807
instance (x : Int) : Decidable (i64ok x) := inferInstanceAs (Decidable (_ ∧ _))
theorem i64ok.wf {x : Int} (h : i64ok x) : (Lit.int .i64 x).wf = true := by
 unfold i64ok at h
 simp [Lit.wf, IntKind.min, IntKind.max, IntKind.signed, IntKind.bits]; omega
theorem keep_Of.keyed : Go.Maps.Keyed Tryd.prog 3 := Go.Maps.int_keyed Tryd.underlying3
theorem keep_Of.zero (w : World) : (zeroValue 4).run Tryd.prog w = .ok (.bool false) w := by kernel_rfl
theorem plainElem_bool_inv {H : Type} {P : Program} {e : TypeId} (he : P.underlying e = some .bool) {v : Value} {z : DataW H × List MemPlace} (h : plainElem P e v = some z) : ∃ x, v = .bool x ∧ z = (.lit (.bool x), []) := by
 unfold plainElem at h
 rw [he] at h
 cases v <;> simp at h
 exact ⟨_, rfl, h.symm⟩
def SM (w : World) (b n : Nat) (l : List Int) : Prop := ∃ D : DataW Unit, w.ownsMap Tryd.prog 3 (plainElem Tryd.prog 4) b n D ∧ Go.Maps.IsMap D ∧ ∀ x : Int, D.atKey (.int .i64 x) (.lit (.bool false)) = .lit (.bool (decide (x ∈ l)))
theorem SM.kept {w w' : World} {b n : Nat} {l : List Int} {row : Option Nat} (h : SM w b n l) (hg : w.grownBy w' row) (hne : some b ≠ row) : SM w' b n l := by
 obtain ⟨D, h1, h2, h3⟩ := h
 exact ⟨D, h1.kept hg hne, h2, h3⟩
theorem SM_made (w : World) : SM (w.alloc (.map #[] 0)) w.heap.size 0 [] := ⟨.map [], World.ownsMap_made w _ _ _, Go.Maps.isMap_empty, fun x => by simp [DataW.atKey]⟩
theorem SM.put {w : World} {b n : Nat} {l : List Int} (h : SM w b n l) (hn : n < maxLen) {y : Int} (hy : i64ok y) :
  ∃ w', (Instr.mapUpdate 143 (.map (some b)) (.int .i64 y) (.bool true)).run Tryd.prog w = .ok () w' ∧ SM w' b (n + 1) (y :: l) ∧ w.grownBy w' (some b) := by
 obtain ⟨D, h1, h2, h3⟩ := h
 obtain ⟨w', hrun, r1, r2⟩ := h1.update keep_Of.keyed Tryd.underlying143 hn (Go.Maps.keyOf_int_mk Tryd.underlying3 hy.wf) (plainElem_bool Tryd.underlying4 true)
 refine ⟨w', hrun, ⟨_, r1, h2.put _ _, fun x => ?_⟩, r2⟩
 by_cases c : x = y
 ·subst c
  rw [Go.Maps.atKey_put_same h2 (by simp [WideAt.IsKeyLit])]
  simp
 ·rw [Go.Maps.atKey_put_other (by intro e; injection e with e1 e2; exact c e2), h3]
  simp [c]
theorem SM.look {w : World} {b n : Nat} {l : List Int} (h : SM w b n l) {x : Int} (hx : i64ok x) :
  (Instr.lookup 143 (.map (some b)) (.int .i64 x) false).run Tryd.prog w = .ok (.bool (decide (x ∈ l))) w := by
 obtain ⟨D, h1, h2, h3⟩ := h
 obtain ⟨v, ps, hrun, hv⟩ := h1.lookup keep_Of.keyed Tryd.underlying143 (keep_Of.zero w) (plainElem_bool Tryd.underlying4 false) (Go.Maps.keyOf_int_mk Tryd.underlying3 hx.wf)
 obtain ⟨c, rfl, e⟩ := plainElem_bool_inv Tryd.underlying4 hv
 have e1 := congrArg Prod.fst e
 rw [h3] at e1
 have e2 : decide (x ∈ l) = c := Lit.bool.inj (DataW.lit.inj e1)
 rw [e2]
 exact hrun
theorem SM.lt {w : World} {b n : Nat} {l : List Int} (h : SM w b n l) : b < w.heap.size := by
 obtain ⟨D, h1, _⟩ := h
 exact h1.lt
theorem keep_Of.cut (A : Option Addr) (n c m : Nat) (hm : m ≤ n) (hc : n ≤ c) (W : World) : (Instr.slice 38 (.slice A n c) (some (.int .i64 (m : Int))) none none).run Tryd.prog W = .ok (.slice (if c = m then A else A.map (·.add (m * 1))) (n - m) (c - m)) W := by
 obtain ⟨i0, hi0, _, hsz, _⟩ := info_parts info3
 have h := cut_from (P := Tryd.prog) 38 3 .i64 Tryd.underlying38 hi0 1 hsz A n c (m : Int) (by omega) (by omega) W
 rw [Int.toNat_natCast] at h
 exact h
theorem SM_cell {W w1 : World} {row : Option Nat} {base : Nat} {a : Addr} {v : Value} (hg : W.grownBy w1 row) (hb : a.block < base) (h : W.cell? a = some v) (hr : row = none ∨ row = some base := by first | exact .inl rfl | exact .inr rfl) : w1.cell? a = some v := by
 refine hg.cell h ?_
 rcases hr with rfl | rfl
 ·simp
 ·simp; omega
theorem rd_mem {l : List Int} {i : Int} (h0 : 0 ≤ i) (h1 : i < (l.length : Int)) : rd l i ∈ l := by
 unfold rd
 rw [List.getD_eq_getElem?_getD, List.getElem?_eq_getElem (by omega)]
 exact List.getElem_mem _
def keep_Of.p (r l1 : List Int) (x : Int) : Bool := decide (x = rd r 0) || decide (x = rd r ((r.length : Int) - 1)) || decide (x ∈ l1)
def keep_Of.f (k : Nat) (l0 l1 : List Int) (a2 : Int) : Option (List Int) :=
 (keep_Floor.f k l0 a2).bind fun m => if 0 ≤ m ∧ m < (l0.length : Int) ∧ l0.length < 1000000 ∧ l1.length < 1000000 ∧ (∀ x ∈ l0, i64ok x) ∧ (∀ x ∈ l1, i64ok x) then some ((l0.drop m.toNat).filter (keep_Of.p (l0.drop m.toNat) l1)) else none
def SX (w : World) (b n : Nat) (q l1 : List Int) (j : Nat) : Prop := ∃ L, SM w b n L ∧ ∀ x, x ∈ L ↔ (x = rd q 0 ∨ x = rd q ((q.length : Int) - 1) ∨ x ∈ l1.take j)
theorem SX.kept {w w' : World} {b n : Nat} {q l1 : List Int} {j : Nat} {row : Option Nat} (h : SX w b n q l1 j) (hg : w.grownBy w' row) (hne : some b ≠ row) : SX w' b n q l1 j := by
 obtain ⟨L, h1, h2⟩ := h
 exact ⟨L, h1.kept hg hne, h2⟩
theorem SX.put {w : World} {b n : Nat} {q l1 : List Int} {j : Nat} (h : SX w b n q l1 j) (hn : n < maxLen) (hj : j < l1.length) (hy : i64ok (rd l1 (j : Int))) :
  ∃ w', (Instr.mapUpdate 143 (.map (some b)) (.int .i64 (rd l1 (j : Int))) (.bool true)).run Tryd.prog w = .ok () w' ∧ SX w' b (n + 1) q l1 (j + 1) ∧ w.grownBy w' (some b) := by
 obtain ⟨L, h1, h2⟩ := h
 obtain ⟨w', hrun, hs, hg⟩ := h1.put hn hy
 refine ⟨w', hrun, ⟨_, hs, fun x => ?_⟩, hg⟩
 have e : rd l1 (j : Int) = l1[j] := by unfold rd; rw [Int.toNat_natCast, List.getD_eq_getElem?_getD, List.getElem?_eq_getElem hj]; rfl
 rw [List.mem_cons, h2, List.take_succ_eq_append_getElem hj, List.mem_append, List.mem_singleton, e]
 constructor
 ·rintro (h | h | h | h) <;> simp [h]
 ·rintro (h | h | h | h) <;> simp [h]
theorem SX.look {w : World} {b n : Nat} {q l1 : List Int} (h : SX w b n q l1 l1.length) {x : Int} (hx : i64ok x) :
  (Instr.lookup 143 (.map (some b)) (.int .i64 x) false).run Tryd.prog w = .ok (.bool (keep_Of.p q l1 x)) w := by
 obtain ⟨L, h1, h2⟩ := h
 rw [h1.look hx]
 have e : decide (x ∈ L) = keep_Of.p q l1 x := by
  unfold keep_Of.p
  rw [Bool.eq_iff_iff]
  simp [h2]
  constructor
  ·rintro (h | h | h) <;> simp [h]
  ·rintro ((h | h) | h) <;> simp [h]
 rw [e]
set_option maxHeartbeats 8000000 in
set_option maxRecDepth 100000 in
theorem keep_Of.calls (k : Nat) (A0 : Option Addr) (c0 : Nat) (l0 : List Int) (A1 : Option Addr) (c1 : Nat) (l1 : List Int) (a2 : Int) (r : List Int) (w : World) (hr0 : Kd.C (Kd.int .i64) w A0 l0.length l0) (hc0 : l0.length ≤ c0) (hr1 : Kd.C (Kd.int .i64) w A1 l1.length l1) (hc1 : l1.length ≤ c1) (h : keep_Of.f k l0 l1 a2 = some r) :
  Calls Tryd.prog 56 #[.slice A0 l0.length c0, .slice A1 l1.length c1, .int .i64 a2] w fun e w' => ∃ v0_ : Value, e = .returned v0_ ∧ Kd.R (Kd.int .i64) 3 w' w.heap.size (fun _ => True) v0_ r ∧ Below w.heap.size w w' := by
 unfold keep_Of.f at h
 have hmm := @run_makeMap Tryd.prog
 obtain ⟨m', hm', h⟩ := Option.bind_eq_some_iff.mp h
 by_cases z : 0 ≤ m' ∧ m' < (l0.length : Int) ∧ l0.length < 1000000 ∧ l1.length < 1000000 ∧ (∀ x ∈ l0, i64ok x) ∧ (∀ x ∈ l1, i64ok x)
 ·rw [if_pos z] at h
  have h := Option.some.inj h
  obtain ⟨z0, z1, z2, z3, z4, z5⟩ := z
  obtain ⟨m, rfl⟩ : ∃ m : Nat, m' = (m : Int) := ⟨m'.toNat, by omega⟩
  rw [Int.toNat_natCast] at h
  have hml : m < l0.length := by omega
  obtain ⟨q, hq⟩ : ∃ q, l0.drop m = q := ⟨_, rfl⟩
  have hql : l0.length - m = q.length := by rw [← hq, List.length_drop]
  have hqi : ∀ x ∈ q, i64ok x := fun x hx => z4 x (List.mem_of_mem_drop (hq ▸ hx))
  rw [hq] at h
  have hcm : ¬ c0 = m := by omega
  have hcq := Kd.C_drop hr0 (m := m) (by omega) hc0
  rw [hq, if_neg hcm] at hcq
  have hcut := fun W => keep_Of.cut A0 l0.length c0 m (by omega) hc0 W
  rw [if_neg hcm, hql] at hcut
  obtain ⟨A, hA⟩ : ∃ A, A0.map (·.add (m * 1)) = A := ⟨_, rfl⟩
  have hA2 : A0.map (·.add (m * (Kd.int .i64).sz)) = A := hA
  rw [hA] at hcut
  rw [hA2] at hcq
  obtain ⟨q', hq'⟩ : ∃ q', q.length = q' + 1 := ⟨q.length - 1, by omega⟩
  obtain ⟨ad, eA, hx0⟩ := Kd.at_int hcq 0 (by omega) (by omega)
  obtain ⟨_, _, hx9⟩ := Kd.at_int hcq (q' : Int) (by omega) (by omega)
  subst eA
  rename_i e9
  cases e9
  rw [Int.toNat_natCast] at hx9
  have hx0 : w.cell? ad = some (.int .i64 (rd q 0)) := by rw [show ad = ad.add 0 by cases ad; simp [Addr.add]]; exact hx0
  have HM := am hm'; have HR0 := am hr0; have HC0 := am hc0; have HR1 := am hr1; have HQ := am hcq; have HX0 := am hx0; have HX9 := am hx9; have HCUT := am hcut; have HQI := am hqi; have HSI := am z5; have HZ1 := am z3; have HH := am h; have HQL := am hq'
  have HZQ : Aside0 (q.length < 1000000) := ⟨by omega⟩
  have hp1 : (0 < q.length) = True := eq_true (by omega)
  have hp2 : (q' < q.length) = True := eq_true (by omega)
  have hp3 : ((q' : Int) < (q.length : Int)) = True := eq_true (by omega)
  have hw1 : wrap64 ((q.length : Int) - 1) = (q' : Int) := by unfold wrap64; omega
  have hw2 : IntKind.i64.wrap ((q.length : Int) - 1) = (q' : Int) := by rw [IntKind.wrap_i64]; omega
  clear hm' hr0 hc0 hr1 hc1 hcq hx0 hx9 hqi z0 z1 z2 z3 z4 z5 h hq hql hcm hA hA2 hml hq'
  go_enter Tryd.func56, Tryd.ntmps56
  go_wp2_with (go_at_call 55; (with_reducible refine (keep_Floor.calls k A0 c0 l0 a2 (m : Int) _ HR0.out HC0.out HM.out).mono ?_); rintro e w1 ⟨rfl, nd, rfl⟩)
  have HSM3 : Aside0 (SM ((w.drewN (nd + 1)).alloc (.map #[] 0)) w.heap.size 0 []) := ⟨SM_made _⟩
  have HI0 : Aside0 (rd q 0 ∈ q) := ⟨rd_mem (by omega) (by have := HQL.out; omega)⟩
  have HI9 : Aside0 (rd q (q' : Int) ∈ q) := ⟨rd_mem (by omega) (by have := HQL.out; omega)⟩
  have HX0L : Aside0 (ad.block < w.heap.size) := ⟨World.block_lt_of_cell? w _ HX0.out⟩
  have HX9L : Aside0 ((ad.add q').block < w.heap.size) := ⟨World.block_lt_of_cell? w _ HX9.out⟩
  have hx0_2 : (w.drewN (nd + 1)).cell? ad = some (.int .i64 (rd q 0)) := HX0.out
  have hx9_2 : (w.drewN (nd + 1)).cell? (ad.add q') = some (.int .i64 (rd q (q' : Int))) := HX9.out
  have hx0_3 : ((w.drewN (nd + 1)).alloc (.map #[] 0)).cell? ad = some (.int .i64 (rd q 0)) := SM_cell (World.grownBy_alloc _ _ none) HX0L.out hx0_2
  have hx9_3 : ((w.drewN (nd + 1)).alloc (.map #[] 0)).cell? (ad.add q') = some (.int .i64 (rd q (q' : Int))) := SM_cell (World.grownBy_alloc _ _ none) HX9L.out hx9_2
  obtain ⟨w5, hrun5, hs5, hg5⟩ := SM.put HSM3.out (by unfold maxLen; decide) (HQI.out _ HI0.out)
  obtain ⟨w6, hrun6, hs6, hg6⟩ := SM.put hs5 (by unfold maxLen; decide) (HQI.out _ HI9.out)
  obtain ⟨v5, hrv5, ht5, hh5⟩ := SM.put HSM3.out (by unfold maxLen; decide) (HQI.out _ HI9.out)
  obtain ⟨v6, hrv6, ht6, hh6⟩ := SM.put ht5 (by unfold maxLen; decide) (HQI.out _ HI0.out)
  have hx0_5 : w5.cell? ad = some (.int .i64 (rd q 0)) := SM_cell hg5 HX0L.out hx0_3
  have hx9_5 : w5.cell? (ad.add q') = some (.int .i64 (rd q (q' : Int))) := SM_cell hg5 HX9L.out hx9_3
  have hx0_6 : v5.cell? ad = some (.int .i64 (rd q 0)) := SM_cell hh5 HX0L.out hx0_3
  have hx9_6 : v5.cell? (ad.add q') = some (.int .i64 (rd q (q' : Int))) := SM_cell hh5 HX9L.out hx9_3
  have hb3 := (below_drew1 (pw_below_drewN (Below.refl w.heap.size w) nd)).alloc (by simp) (.map #[] 0)
  have HW6 : Aside0 (SX w6 w.heap.size 2 q l1 0) := ⟨_, hs6, fun x => by rw [HQL.out]; simp [or_comm]⟩
  have HV6 : Aside0 (SX v6 w.heap.size 2 q l1 0) := ⟨_, ht6, fun x => by rw [HQL.out]; simp⟩
  have HBW : Aside0 (Below w.heap.size w w6) := ⟨(hb3.grown hg5 (by simp) (fun j hj => by cases hj; exact Nat.le_refl _)).grown hg6 (by have := hg5.size; simp at this; omega) (fun j hj => by cases hj; exact Nat.le_refl _)⟩
  have HBV : Aside0 (Below w.heap.size w v6) := ⟨(hb3.grown hh5 (by simp) (fun j hj => by cases hj; exact Nat.le_refl _)).grown hh6 (by have := hh5.size; simp at this; omega) (fun j hj => by cases hj; exact Nat.le_refl _)⟩
  clear hs5 hg5 hs6 hg6 ht5 hh5 ht6 hh6 hb3
  refine wp_region_noPanic ?_
  go_region
  all_goals (refine NoPanic.normal ?_)
  all_goals (first | (show Exit.then _ _ Exit.normal _ w6; have HSX := HW6; have HBX := HBW; generalize w6 = wz at HSX HBX ⊢) | (show Exit.then _ _ Exit.normal _ v6; have HSX := HV6; have HBX := HBV; generalize v6 = wz at HSX HBX ⊢))
  all_goals clear hrun5 hrun6 hrv5 hrv6 HW6 HV6 HBW HBV hx0_2 hx9_2 hx0_3 hx9_3 hx0_5 hx9_5 hx0_6 hx9_6
  all_goals go_wp2
  all_goals
   go_loopw [9, 31] (fun _ v31 wr => ∃ j : Nat, v31 = .int .i64 j ∧ j ≤ l1.length ∧ Aside0 (SX wr w.heap.size (2 + j) q l1 j) ∧ Aside0 (Below w.heap.size w wr)) (fun _ v31 _ => l1.length - (intOf v31).toNat)
   case atStart => exact ⟨0, rfl, Nat.zero_le _, HSX, HBX⟩
   case round =>
    clear HSX HBX
    obtain ⟨j, rfl, hj, HSX, HBX⟩ := hrel
    by_cases hlt : j < l1.length
    ·have hltb : decide ((j : Int) < (l1.length : Int)) = true := decide_eq_true (by omega)
     have HL := am hlt
     obtain ⟨ad1, e1, hx1⟩ := Kd.at_int (Kd.C_below HR1.out HBX.out) (j : Int) (by omega) (by omega)
     subst e1
     rw [Int.toNat_natCast] at hx1
     have p2 : ((j : Int) < (l1.length : Int)) = True := eq_true (by omega)
     have p3 : (j < l1.length) = True := eq_true hlt
     have ew : wrap64 ((j : Int) + 1) = ((j + 1 : Nat) : Int) := by have := HZ1.out; unfold wrap64; omega
     obtain ⟨w9, hrun9, hs9, hg9⟩ := HSX.out.put (by have := HZ1.out; unfold maxLen; omega) hlt (HSI.out _ (rd_mem (by omega) (by omega)))
     have HS9 := am hs9
     have HB9 := am (HBX.out.grown hg9 HBX.out.size (fun j hj => by cases hj; exact Nat.le_refl _))
     clear hlt hs9 hg9 HSX HBX
     go_wp2
     go_round
     case measure => exact op_sum.less HL.out ew
     case rel => exact ⟨j + 1, by rw [ew], HL.out, HS9, HB9⟩
    ·have hltb : decide ((j : Int) < (l1.length : Int)) = false := decide_eq_false (by omega)
     obtain rfl : j = l1.length := by omega
     clear hlt hj
     go_wp2
     go_loopw [10, 12, 40] (fun v10 _ v40 wr => ∃ (j : Nat) (out : List Int), v40 = .int .i64 j ∧ j ≤ q.length ∧ Aside0 (out = (q.take j).filter (keep_Of.p q l1)) ∧ Aside0 (SX wr w.heap.size (2 + l1.length) q l1 l1.length) ∧ Aside0 (Kd.R (Kd.int .i64) 3 wr w.heap.size (fun k => k ≠ w.heap.size) v10 out) ∧ Aside0 (Below w.heap.size w wr)) (fun _ _ v40 _ => q.length - (intOf v40).toNat)
     case atStart => exact ⟨0, [], rfl, Nat.zero_le _, ⟨by simp⟩, HSX, ⟨Kd.R_nil _ _ _ _ _⟩, HBX⟩
     case round =>
      clear HSX HBX
      obtain ⟨j, out, rfl, hj, HOE, HSX, HOO, HBX⟩ := hrel
      by_cases hlt : j < q.length
      ·have hltb : decide ((j : Int) < (q.length : Int)) = true := decide_eq_true (by omega)
       have HL := am hlt
       obtain ⟨ad1, e1, hx1⟩ := Kd.at_int (Kd.C_below HQ.out HBX.out) (j : Int) (by omega) (by omega)
       cases e1
       rw [Int.toNat_natCast] at hx1
       have p2 : ((j : Int) < (q.length : Int)) = True := eq_true (by omega)
       have p3 : (j < q.length) = True := eq_true hlt
       have ew : wrap64 ((j : Int) + 1) = ((j + 1 : Nat) : Int) := by have := HZQ.out; unfold wrap64; omega
       have hlk := HSX.out.look (HQI.out _ (rd_mem (l := q) (i := (j : Int)) (by omega) (by omega)))
       have HON : Aside0 ((q.take (j + 1)).filter (keep_Of.p q l1) = out ++ [rd q (j : Int)].filter (keep_Of.p q l1)) := ⟨by
        have e : rd q (j : Int) = q[j] := by unfold rd; rw [Int.toNat_natCast, List.getD_eq_getElem?_getD, List.getElem?_eq_getElem hlt]; rfl
        rw [List.take_succ_eq_append_getElem hlt, List.filter_append, HOE.out, e]⟩
       have HLN : Aside0 (out.length ≤ j) := ⟨by rw [HOE.out]; exact Nat.le_trans (List.length_filter_le _ _) (by rw [List.length_take]; omega)⟩
       have HSG : Aside0 (some w.heap.size ≠ u10.ownBlock) := ⟨fun e => (HOO.out.1 _ e.symm) rfl⟩
       have HGL : Aside0 (w.heap.size < wr.heap.size) := ⟨by obtain ⟨L, h1, _⟩ := HSX.out; exact h1.lt⟩
       clear hlt HOE
       cases hb : keep_Of.p q l1 (rd q (j : Int)) with
       | true =>
        rw [hb] at hlk
        have HO2 : Aside0 (out ++ [rd q (j : Int)] = (q.take (j + 1)).filter (keep_Of.p q l1)) := ⟨by rw [HON.out]; simp [hb]⟩
        clear hb
        go_wp2_with ((with_reducible refine gate_builtin (b := .append) (xs := #[.tmp 47, .tmp 49]) rfl ?_); at_builtin; refine Kd.R_append (Kd.int .i64) (w0 := w) w.heap.size rfl (.tmp 47) (.tmp 49) 38 3 (.int .i64 0) 8 rfl Tryd.underlying38 info3 rfl (by decide) (by omega) u10 out (rd q (j : Int)) [.int .i64 (rd q (j : Int))] (fun k => k ≠ w.heap.size) (fun _ => False) rfl rfl ?aP (fun _ hk => hk.elim) ?aF ?aO ?aB ?aS ?aL ?_; (case aP => exact rfl); (case aB => exact HBX.out); (case aF => intro k hk; have := HGL.out; omega); (case aO => exact HOO.out); (case aS => exact HBX.out.size); (case aL => have := HLN.out; have := HZQ.out; have := HL.out; omega); intro v17 w17 ho hb2 hg hat; have HO17 := am ho; have HB17 := am hb2; have HS17 := am (HSX.out.kept hg HSG.out); clear ho hb2 hg hat)
        go_round
        case measure => exact op_sum.less HL.out ew
        case rel => exact ⟨j + 1, _, by rw [ew], HL.out, HO2, HS17, HO17, HB17⟩
       | false =>
        rw [hb] at hlk
        have HO2 : Aside0 (out = (q.take (j + 1)).filter (keep_Of.p q l1)) := ⟨by rw [HON.out]; simp [hb]⟩
        clear hb
        go_wp2
        go_round
        case measure => exact op_sum.less HL.out ew
        case rel => exact ⟨j + 1, _, by rw [ew], HL.out, HO2, HSX, HOO, HBX⟩
      ·have hltb : decide ((j : Int) < (q.length : Int)) = false := decide_eq_false (by omega)
       obtain rfl : j = q.length := by omega
       clear hlt hj
       have HF : Aside0 (out = r) := ⟨by rw [HOE.out, List.take_length]; exact HH.out⟩
       go_wp2
       go_ret
       exact ⟨_, rfl, Kd.R_mono (HF.out ▸ HOO.out) (fun _ _ => trivial), HBX.out⟩
 ·rw [if_neg z] at h; cases h
def compact_Of.to (y : Int) : List Int → Nat → Option Nat
 | [], _ => none
 | x :: l, i => if x = y then some i else compact_Of.to y l (i + 1)
def compact_Of.l (k : Nat) (sz revs : List Int) (segs : List (List S25)) : Nat → List Int → Option (List (List S25))
 | _, [] => some []
 | at_, y :: rest => (compact_Of.to y (revs.drop at_) at_).bind fun t => if t ≤ segs.length ∧ at_ < sz.length then (fuse_Of.f k (rd sz (at_ : Int)) ((segs.take t).drop at_)).bind fun r => (if r.2 = 0 then (compact_Of.l k sz revs segs t rest).bind fun o => some (r.1 :: o) else none) else none
def compact_Of.f (k : Nat) (s : ByteArray) (revs : List Int) (segs : List (List S25)) (set : List Int) (floor : Int) : Option (ByteArray × List Int × List (List S25) × Int) :=
 if segs.length < 1000000 ∧ revs.length < 1000000 then (chain_Sizes.f k s revs segs).bind fun z => (if z.2 = 0 then (keep_Floor.f k revs floor).bind fun a => (chain_At.f k s revs segs a).bind fun b => (if b.2 = 0 then (keep_Of.f k revs set floor).bind fun kept => (if 0 ≤ a ∧ 1 ≤ kept.length ∧ kept.length < 1000000 then (compact_Of.l k z.1 revs segs a.toNat (kept.drop 1)).bind fun o => some (b.1, kept, o, 0) else none) else none) else none) else none
def SG (w : World) (base gS m : Nat) (rows : List (List S25)) : Prop := ∃ (cs : List Value) (f : Nat → Nat), cs.length = m ∧ rows.length ≤ m ∧ w.heap[gS]? = some (.cells cs.toArray 27 (0, 0)) ∧
 (∀ j x, rows[j]? = some x → ∃ v, cs[j]? = some v ∧ Kd.R k25 25 w base (fun k => f k = j ∧ k ≠ gS) v x) ∧ (∀ j, rows.length ≤ j → j < m → cs[j]? = some (.slice none 0 0))
theorem made_nil (m : Nat) : madeCells #[.slice none 0 0] m = (List.replicate m (Value.slice none 0 0)).toArray := by
 unfold madeCells
 apply Array.ext
 ·simp
 ·intro i h1 h2
  simp [Nat.mod_one]
theorem SG_start {w : World} {base gS m : Nat} (h : w.heap[gS]? = some (.cells (madeCells #[.slice none 0 0] m) 27 (0, 0))) : SG w base gS m [] := by
 refine ⟨List.replicate m (.slice none 0 0), fun _ => 0, by simp, Nat.zero_le _, by rw [← made_nil]; exact h, fun j x hx => by simp at hx, fun j _ hj => by simp [hj]⟩
theorem SG_drewN {w : World} {base gS m : Nat} {rows : List (List S25)} (h : SG w base gS m rows) (n : Nat) : SG (w.drewN n) base gS m rows := by
 obtain ⟨cs, f, h1, h2, h3, h4, h5⟩ := h
 exact ⟨cs, f, h1, h2, h3, fun j x hx => by obtain ⟨v, e, hr⟩ := h4 j x hx; exact ⟨v, e, Kd.R_drewN hr n⟩, h5⟩
theorem SG_put {w w1 : World} {base gS m : Nat} {rows : List (List S25)} {v : Value} {x : List S25} (h : SG w base gS m rows) (hm : rows.length < m) (hb : Below w.heap.size w w1) (hr : Kd.R k25 25 w1 w.heap.size (fun _ => True) v x) (hbase : base ≤ w.heap.size) :
  SG (w1.setCell ⟨gS, rows.length, none⟩ v) base gS m (rows ++ [x]) := by
 obtain ⟨cs, f, h1, h2, h3, h4, h5⟩ := h
 have hlt := blk_lt h3
 refine ⟨cs.set rows.length v, fun k => if w.heap.size ≤ k then rows.length else f k, by simp [h1], by simp; omega, ?_, ?_, ?_⟩
 ·have := blk_put (blk_below h3 hb) rows.length v rfl
  rw [this]; simp
 ·intro j y hy
  by_cases c : j < rows.length
  ·rw [List.getElem?_append_left c] at hy
   obtain ⟨u, e, hu⟩ := h4 j y hy
   refine ⟨u, by rw [List.getElem?_set_ne (by omega)]; exact e, ?_⟩
   have h6 := Kd.R_far (p := ⟨gS, rows.length, none⟩) (Kd.R_below (Kd.R_bound hu) hb) (fun k hk => hk.1.2) v
   exact Kd.R_mono h6 (fun k hk => ⟨by show (if w.heap.size ≤ k then rows.length else f k) = j; rw [if_neg (by have := hk.2.2.1; omega)]; exact hk.1.1, hk.1.2⟩)
  ·rw [List.getElem?_append_right (by omega)] at hy
   have hj : j = rows.length := by
    have := (List.getElem?_eq_some_iff.mp hy).1
    simp at this; omega
   subst hj
   have hyx : x = y := by simpa using hy
   subst hyx
   refine ⟨v, by rw [List.getElem?_set_self (by omega)], ?_⟩
   have h6 := Kd.R_far (p := ⟨gS, rows.length, none⟩) (Kd.R_bound hr) (fun k hk => by have := hk.2.1; show k ≠ gS; omega) v
   exact Kd.R_lower (Kd.R_mono h6 (fun k hk => ⟨by show (if w.heap.size ≤ k then rows.length else f k) = rows.length; rw [if_pos hk.2.1], by have := hk.2.1; omega⟩)) hbase
 ·intro j hj hjm
  rw [List.length_append, List.length_singleton] at hj
  rw [List.getElem?_set_ne (by omega)]
  exact h5 j (by omega) hjm
theorem SG_S {w : World} {base gS m : Nat} {rows : List (List S25)} (h : SG w base gS m rows) (hm : rows.length = m) (hb : base ≤ gS) (hml : m ≤ maxLen) : Kd.S (Kd.slice 25 k25) 27 w base (fun _ => True) (.slice (some ⟨gS, 0, none⟩) m m) rows := by
 obtain ⟨cs, f, h1, h2, h3, h4, h5⟩ := h
 refine ⟨f, fun _ _ => trivial, cs, ⟨by rw [List.length_zipIdx, hm, h1]; show m = m * 1; omega, .inr ⟨gS, m, cs.toArray, by rw [List.length_zipIdx, hm], hb, h3, by rw [List.length_zipIdx, hm]; exact Nat.le_refl _, hml, by show cs.toArray.size = m * 1; simp [h1], ?_⟩⟩, ?_⟩
 ·show cs.toArray.toList.take (rows.zipIdx.length * 1) = cs
  rw [List.length_zipIdx, hm, Nat.mul_one, List.toList_toArray, ← h1, List.take_length]
 ·refine ⟨by rw [List.length_zipIdx, hm, h1]; show m = m * 1; omega, fun j p hj => ?_⟩
  rw [List.getElem?_zipIdx] at hj
  obtain ⟨x, hx, rfl⟩ := Option.map_eq_some_iff.1 hj
  obtain ⟨v, hv, hr⟩ := h4 j x hx
  have e : (cs.drop (j * (Kd.tag f (Kd.slice 25 k25)).sz)).take (Kd.tag f (Kd.slice 25 k25)).sz = [v] := by
   show (cs.drop (j * 1)).take 1 = [v]
   rw [Nat.mul_one]
   have hlt := (List.getElem?_eq_some_iff.mp hv).1
   rw [List.drop_eq_getElem_cons hlt]
   have := (List.getElem?_eq_some_iff.mp hv).2
   simp [this]
  rw [e]
  refine Kd.M_row (Kd.R_mono hr (fun k hk => ⟨⟨trivial, ?_⟩, by simpa using hk.1⟩))
  simp only [Value.ownBlock]
  intro e2
  injection e2 with e2
  exact hk.2 e2
def _root_.Go.World.next (w : World) : Nat := w.heap.size
def compact_Of.NS (w w6 : World) (gR gS gL n m : Nat) (b : ByteArray) : Prop :=
 w.heap[gR]? = some (.cells (madeCells #[.int .i64 0] n) 3 (0, 0)) ∧ w.heap[gS]? = some (.cells (madeCells #[.slice none 0 0] m) 27 (0, 0)) ∧ w.heap[gL]? = some (.cells #[.string b, .slice (some ⟨gR, 0, none⟩) n n, .slice (some ⟨gS, 0, none⟩) m m] 42 (0, 0)) ∧ Below w6.heap.size w6 w ∧ gR ≠ gS ∧ gR ≠ gL ∧ gS ≠ gL ∧ w6.next ≤ gR ∧ w6.next ≤ gS ∧ w6.next ≤ gL
theorem compact_Of.three (w6 : World) (o1 o2 o3 : Obj) : ((((w6.alloc o1).alloc o2).alloc o3).drew).heap[w6.heap.size]? = some o1 ∧ ((((w6.alloc o1).alloc o2).alloc o3).drew).heap[w6.heap.size + 1]? = some o2 ∧ ((((w6.alloc o1).alloc o2).alloc o3).drew).heap[w6.heap.size + 1 + 1]? = some o3 ∧ Below w6.heap.size w6 ((((w6.alloc o1).alloc o2).alloc o3).drew) ∧ w6.next = w6.heap.size := by
 refine ⟨blk_alloc (blk_alloc (heap_alloc_new w6 o1) _) _, ?_, ?_, below_drew1 (((below_alloc (Below.refl _ _) _).alloc (by simp) _).alloc (by simp; omega) _), rfl⟩
 ·have := heap_alloc_new (w6.alloc o1) o2
  rw [show (w6.alloc o1).heap.size = w6.heap.size + 1 by simp] at this
  exact blk_alloc this _
 ·have := heap_alloc_new ((w6.alloc o1).alloc o2) o3
  rw [show ((w6.alloc o1).alloc o2).heap.size = w6.heap.size + 1 + 1 by simp] at this
  exact this
def compact_Of.MF (w w6 : World) (gR gS gL m : Nat) (kept : List Int) (b : ByteArray) (rows : List (List S25)) : Prop :=
 w.heap[gR]? = some (.cells (kept.map (Value.int .i64)).toArray 3 (0, 0)) ∧ w.heap[gL]? = some (.cells #[.string b, .slice (some ⟨gR, 0, none⟩) kept.length kept.length, .slice (some ⟨gS, 0, none⟩) m m] 42 (0, 0)) ∧ SG w w6.next gS m rows ∧ Below w6.heap.size w6 w ∧ (gR ≠ gS ∧ gR ≠ gL ∧ gS ≠ gL ∧ w6.next ≤ gR ∧ w6.next ≤ gS ∧ w6.next ≤ gL)
theorem compact_Of.MF_drewN {w w6 : World} {gR gS gL m : Nat} {kept : List Int} {b : ByteArray} {rows : List (List S25)} (h : compact_Of.MF w w6 gR gS gL m kept b rows) (n : Nat) : compact_Of.MF (w.drewN n) w6 gR gS gL m kept b rows := by
 obtain ⟨h1, h2, h3, h4, h5⟩ := h
 exact ⟨h1, h2, SG_drewN h3 n, pw_below_drewN h4 n, h5⟩
theorem compact_Of.MF_put {w w1 w6 : World} {gR gS gL m : Nat} {kept : List Int} {b : ByteArray} {rows : List (List S25)} {v : Value} {x : List S25} (h : compact_Of.MF w w6 gR gS gL m kept b rows) (hm : rows.length < m) (hb : Below w.heap.size w w1) (hr : Kd.R k25 25 w1 w.heap.size (fun _ => True) v x) :
  compact_Of.MF (w1.setCell ⟨gS, rows.length, none⟩ v) w6 gR gS gL m kept b (rows ++ [x]) := by
 obtain ⟨h1, h2, h3, h4, h5⟩ := h
 refine ⟨?_, ?_, SG_put h3 hm hb hr h4.size, (below_then h4 h4.size hb).setCell (p := ⟨gS, rows.length, none⟩) h5.2.2.2.2.1 _, h5⟩
 ·rw [Below.heap_setCell w1 ⟨gS, rows.length, none⟩ v gR h5.1]; exact blk_below h1 hb
 ·rw [Below.heap_setCell w1 ⟨gS, rows.length, none⟩ v gL (fun e => h5.2.2.1 e.symm)]; exact blk_below h2 hb
theorem compact_Of.copied {w6 w9 : World} {gR gS gL m : Nat} {kept : List Int} {b : ByteArray} (h : compact_Of.NS w9 w6 gR gS gL kept.length m b) :
  compact_Of.MF (w9.setRow gR ((madeCells #[.int .i64 0] kept.length).toList.take 0 ++ (kept.map (Value.int .i64) ++ (madeCells #[.int .i64 0] kept.length).toList.drop (0 + (kept.map (Value.int .i64)).length))).toArray) w6 gR gS gL m kept b [] := by
 obtain ⟨h1, h2, h3, h4, h5, h6, h7, h8, h9, h10⟩ := h
 have e : ((madeCells #[.int .i64 0] kept.length).toList.take 0 ++ (kept.map (Value.int .i64) ++ (madeCells #[.int .i64 0] kept.length).toList.drop (0 + (kept.map (Value.int .i64)).length))) = kept.map (Value.int .i64) := by
  rw [List.take_zero, List.nil_append, List.drop_of_length_le (by rw [Array.length_toList, size_madeCells, List.length_map]; omega), List.append_nil]
 rw [e]
 refine ⟨setRow_heap w9 gR _ _ _ _ h1, by rw [setRow_other w9 gR gL _ (fun e => h6 e.symm)]; exact h3, SG_start (by rw [setRow_other w9 gR gS _ (fun e => h5 e.symm)]; exact h2), below_setRow h4 h8 _, h5, h6, h7, h8, h9, h10⟩
theorem compact_Of.to_next (y : Int) (l : List Int) (j t : Nat) (h : compact_Of.to y (l.drop j) j = some t) : j < l.length ∧ ((rd l (j : Int) = y ∧ t = j) ∨ (rd l (j : Int) ≠ y ∧ compact_Of.to y (l.drop (j + 1)) (j + 1) = some t)) := by
 by_cases c : j < l.length
 ·refine ⟨c, ?_⟩
  have e : rd l (j : Int) = l[j] := by unfold rd; rw [Int.toNat_natCast, List.getD_eq_getElem?_getD, List.getElem?_eq_getElem c]; rfl
  rw [List.drop_eq_getElem_cons c, compact_Of.to] at h
  rw [e]
  by_cases z : l[j] = y
  ·rw [if_pos z] at h
   exact .inl ⟨z, (Option.some.inj h).symm⟩
  ·rw [if_neg z] at h
   exact .inr ⟨z, h⟩
 ·rw [List.drop_of_length_le (by omega), compact_Of.to] at h
  cases h
theorem compact_Of.src {w : World} {A : Option Addr} {l : List Int} (h : Kd.C (Kd.int .i64) w A l.length l) (h0 : 0 < l.length) : ∃ ad, A = some ad ∧ ∀ j v, (l.map (Value.int .i64))[j]? = some v → w.cell? (ad.add j) = some v := by
 obtain ⟨ad, e, _⟩ := Kd.at_int h 0 (by omega) (by omega)
 refine ⟨ad, e, fun j v hj => ?_⟩
 subst e
 rw [List.getElem?_map] at hj
 obtain ⟨x, hx, rfl⟩ := Option.map_eq_some_iff.1 hj
 have hlt := (List.getElem?_eq_some_iff.mp hx).1
 obtain ⟨ad', e', hc⟩ := Kd.at_int h (j : Int) (by omega) (by omega)
 cases e'
 rw [Int.toNat_natCast] at hc
 rw [hc]
 unfold rd
 rw [Int.toNat_natCast, List.getD_eq_getElem?_getD, hx]
 rfl
theorem compact_Of.cut (A : Option Addr) (n c a t : Nat) (h1 : a ≤ t) (h2 : t ≤ n) (hc : n ≤ c) (W : World) : (Instr.slice 28 (.slice A n c) (some (.int .i64 (a : Int))) (some (.int .i64 (t : Int))) none).run Tryd.prog W = .ok (.slice (if c = a then A else A.map (·.add (a * 1))) (t - a) (c - a)) W := by
 obtain ⟨i0, hi0, _, hsz, _⟩ := info_parts info27
 have h := cut_mid (P := Tryd.prog) 28 27 .i64 .i64 Tryd.underlying28 hi0 1 hsz A n c (a : Int) (t : Int) (by omega) (by omega) (by omega) hc W
 rw [Int.toNat_natCast, Int.toNat_natCast] at h
 exact h
theorem compact_Of.store_at {w w1 : World} {base gS m : Nat} {rows : List (List S25)} (h : SG w base gS m rows) (hm : rows.length < m) (hb : Below w.heap.size w w1) : w1.cell? ⟨gS, rows.length, none⟩ = some (.slice none 0 0) ∧ w1.frozen? ⟨gS, rows.length, none⟩ = false := by
 obtain ⟨cs, f, h1, h2, h3, h4, h5⟩ := h
 have h6 := blk_below h3 hb
 refine ⟨?_, blk_frozen h6 _⟩
 rw [blk_cell h6 rows.length]
 have := h5 rows.length (Nat.le_refl _) hm
 simpa using this
theorem compact_Of.i1w {i i1 m n : Nat} (h : i + 1 = i1) (hm : n = m + 1) (hn : n < 1000000) (hi : i < m) : wrap64 ((i : Int) + 1) = (i1 : Int) ∧ IntKind.i64.wrap ((i : Int) + 1) = (i1 : Int) ∧ i1 < n ∧ (i1 : Int) < (n : Int) := by
 refine ⟨by unfold wrap64; omega, by rw [IntKind.wrap_i64]; omega, by omega, by omega⟩
theorem compact_Of.i1m {i i1 m : Nat} (h : i + 1 = i1) (hi : i < m) : i1 ≤ m := by omega
theorem compact_Of.i1l {i i1 m : Nat} (h : i + 1 = i1) (hi : i < m) : m - (intOf (.int .i64 (i1 : Int))).toNat < m - (intOf (.int .i64 (i : Int))).toNat := by
 show m - ((i1 : Int)).toNat < m - ((i : Int)).toNat
 omega
theorem compact_Of.fin {wr w6 : World} {gR gS gL m B : Nat} {kept : List Int} {b : ByteArray} {rows : List (List S25)} (h : compact_Of.MF wr w6 gR gS gL m kept b rows) (hm : rows.length = m) (p : Nat) (hp : p < w6.next) (u0 u1 u2 : Value) (hB : B ≤ w6.next) (hk : kept.length ≤ maxLen) (hr : m ≤ maxLen) :
  Kd.R (Kd.int .i64) 3 (((wr.setCell ⟨p, 0, none⟩ u0).setCell ⟨p, 1, none⟩ u1).setCell ⟨p, 2, none⟩ u2) B (fun _ => True) (.slice (some ⟨gR, 0, none⟩) kept.length kept.length) kept ∧ Kd.S (Kd.slice 25 k25) 27 (((wr.setCell ⟨p, 0, none⟩ u0).setCell ⟨p, 1, none⟩ u1).setCell ⟨p, 2, none⟩ u2) B (fun _ => True) (.slice (some ⟨gS, 0, none⟩) m m) rows := by
 obtain ⟨h1, h2, h3, h4, h5, h6, h7, h8, h9, h10⟩ := h
 constructor
 ·have e : (((wr.setCell ⟨p, 0, none⟩ u0).setCell ⟨p, 1, none⟩ u1).setCell ⟨p, 2, none⟩ u2).heap[gR]? = some (.cells (kept.map (Value.int .i64)).toArray 3 (0, 0)) := by
   rw [Below.heap_setCell _ ⟨p, 2, none⟩ u2 gR (by show gR ≠ p; omega), Below.heap_setCell _ ⟨p, 1, none⟩ u1 gR (by show gR ≠ p; omega), Below.heap_setCell _ ⟨p, 0, none⟩ u0 gR (by show gR ≠ p; omega)]
   exact h1
  refine Kd.R_of_own (h1 := fun _ => rfl) (ok := fun _ => True) (enc := Value.int .i64) ⟨by simp [encs], .inr ⟨gR, kept.length, _, rfl, by omega, e, Nat.le_refl _, hk, by simp, by simp [encs, List.take_of_length_le]⟩⟩ (fun _ _ => trivial)
 ·have hS := SG_S h3 hm h9 hr
  have k0 := Kd.S_far (p := ⟨p, 0, none⟩) (Kd.S_bound hS) (fun k hk => by have := hk.2.1; show k ≠ p; omega) u0
  have k1 := Kd.S_far (p := ⟨p, 1, none⟩) k0 (fun k hk => by have := hk.2.1; show k ≠ p; omega) u1
  have k2 := Kd.S_far (p := ⟨p, 2, none⟩) k1 (fun k hk => by have := hk.2.1; show k ≠ p; omega) u2
  exact Kd.S_lower (Kd.S_mono k2 (fun _ _ => trivial)) hB
theorem compact_Of.gather {P : Program} {c : Code} {Q : Exit → Act → World → Prop} {a : Act} {w : World} (F : Act → Nat → Nat → Nat → Act) (N : World → Nat → Nat → Nat → Prop) (h1 : c.wp P (fun e act W => ∃ gR gS gL, e = .normal ∧ act = F a gR gS gL ∧ N W gR gS gL) a w)
  (h2 : ∀ gR gS gL W, N W gR gS gL → Q .normal (F a gR gS gL) W) : c.wp P Q a w :=
 Code.wp_mono (fun e act W h => by obtain ⟨gR, gS, gL, he, ha, hn⟩ := h; subst he; subst ha; exact h2 _ _ _ _ hn) h1
theorem compact_Of.sz1 : (Tryd.prog.info? 3).map (·.size) = some 1 := by
 obtain ⟨i0, hi, _, hz1, _⟩ := info_parts info3
 rw [hi]; simp [hz1]
theorem compact_Of.make1 (n : Nat) (hn : n < 1000000) (W : World) : (Instr.makeSlice 38 (.int .i64 (n : Int)) (.int .i64 (n : Int))).run Tryd.prog W = .ok (.slice (some ⟨W.heap.size, 0, none⟩) n n) (W.alloc (.cells (madeCells #[.int .i64 0] (n * 1)) 3)) := by
 obtain ⟨i0, hi, hz0, hz1, hz2⟩ := info_parts info3
 have hr := run_make (P := Tryd.prog) W 38 3 i0 (.int .i64 0) Tryd.underlying38 hi hz0 .i64 .i64 (n : Int) (n : Int) (by omega) (by omega) (by rw [hz2]; omega) (by omega)
 simp only [Int.toNat_natCast] at hr
 rw [hz1] at hr
 exact hr
theorem compact_Of.make2 (n : Nat) (hn : n < 1000000) (W : World) : (Instr.makeSlice 28 (.int .i64 (n : Int)) (.int .i64 (n : Int))).run Tryd.prog W = .ok (.slice (some ⟨W.heap.size, 0, none⟩) n n) (W.alloc (.cells (madeCells #[.slice none 0 0] (n * 1)) 27)) := by
 obtain ⟨i0, hi, hz0, hz1, hz2⟩ := info_parts info27
 have hr := run_make (P := Tryd.prog) W 28 27 i0 (.slice none 0 0) Tryd.underlying28 hi hz0 .i64 .i64 (n : Int) (n : Int) (by omega) (by omega) (by rw [hz2]; omega) (by omega)
 simp only [Int.toNat_natCast] at hr
 rw [hz1] at hr
 exact hr
set_option maxHeartbeats 8000000 in
set_option maxRecDepth 100000 in
theorem compact_Of.calls (k : Nat) (a0_0 : ByteArray) (A0_1 : Option Addr) (c0_1 : Nat) (l0_1 : List Int) (A0_2 : Option Addr) (c0_2 : Nat) (l0_2 : List (List (S25))) (A1 : Option Addr) (c1 : Nat) (l1 : List Int) (a2 : Int) (r1 : ByteArray) (r2 : List Int) (r3 : List (List (S25))) (r4 : Int) (w : World) (hr0_1 : Kd.C (Kd.int .i64) w A0_1 l0_1.length l0_1) (hc0_1 : l0_1.length ≤ c0_1) (hr0_2 : Kd.C (Kd.slice 25 k25) w A0_2 l0_2.length l0_2) (hc0_2 : l0_2.length ≤ c0_2) (hr1 : Kd.C (Kd.int .i64) w A1 l1.length l1) (hc1 : l1.length ≤ c1) (hT : Tabs w) (h : compact_Of.f k a0_0 l0_1 l0_2 l1 a2 = some (r1, r2, r3, r4)) :
  Calls Tryd.prog 17 #[.agg #[.string a0_0, .slice A0_1 l0_1.length c0_1, .slice A0_2 l0_2.length c0_2], .slice A1 l1.length c1, .int .i64 a2] w fun e w' => ∃ v1_ v2_ : Value, e = .returned (.tuple #[.agg #[.string r1, v1_, v2_], .int .i64 r4]) ∧ Kd.R (Kd.int .i64) 3 w' w.heap.size (fun _ => True) v1_ r2 ∧ Kd.S (Kd.slice 25 k25) 27 w' w.heap.size (fun _ => True) v2_ r3 ∧ Below w.heap.size w w' := by
 unfold compact_Of.f at h
 by_cases hs : l0_2.length < 1000000 ∧ l0_1.length < 1000000
 ·rw [if_pos hs] at h
  obtain ⟨⟨sz, e1⟩, hz, h⟩ := Option.bind_eq_some_iff.mp h
  by_cases z1 : e1 = 0
  ·subst z1
   rw [if_pos rfl] at h
   obtain ⟨a, ha, h⟩ := Option.bind_eq_some_iff.mp h
   obtain ⟨⟨b, e2⟩, hb, h⟩ := Option.bind_eq_some_iff.mp h
   by_cases z2 : e2 = 0
   ·subst z2
    rw [if_pos rfl] at h
    obtain ⟨kept, hk, h⟩ := Option.bind_eq_some_iff.mp h
    by_cases z3 : 0 ≤ a ∧ 1 ≤ kept.length ∧ kept.length < 1000000
    ·rw [if_pos z3] at h
     obtain ⟨o, ho, h⟩ := Option.bind_eq_some_iff.mp h
     simp only [Option.some.injEq, Prod.mk.injEq] at h
     obtain ⟨rfl, rfl, rfl, rfl⟩ := h
     obtain ⟨z3, z4, z5⟩ := z3
     obtain ⟨a, rfl⟩ : ∃ m : Nat, a = (m : Int) := ⟨a.toNat, by omega⟩
     rw [Int.toNat_natCast] at ho
     have HR1 := am hr0_1; have HC1 := am hc0_1; have HR2 := am hr0_2; have HC2 := am hc0_2; have HRS := am hr1; have HCS := am hc1; have HT := am hT; have HZ := am hz; have HA := am ha; have HAT := am hb; have HK := am hk; have HOO := am ho; have HS := am hs; have HK1 := am z4; have HK2 := am z5
     clear hr0_1 hc0_1 hr0_2 hc0_2 hr1 hc1 hT hz ha hb hk ho hs z3 z4 z5
     have HB2 : Aside0 (Below w.heap.size w ((w.alloc (.cells #[.string a0_0, .slice A0_1 l0_1.length c0_1, .slice A0_2 l0_2.length c0_2] 42)).alloc (.cells #[.string ⟨#[]⟩, .slice none 0 0, .slice none 0 0] 42))) := ⟨(below_alloc (Below.refl _ _) _).alloc (by simp) _⟩
     have HG2 : Aside0 (((w.alloc (.cells #[.string a0_0, .slice A0_1 l0_1.length c0_1, .slice A0_2 l0_2.length c0_2] 42)).alloc (.cells #[.string ⟨#[]⟩, .slice none 0 0, .slice none 0 0] 42)).heap[w.heap.size]? = some (.cells #[.string a0_0, .slice A0_1 l0_1.length c0_1, .slice A0_2 l0_2.length c0_2] 42 (0, 0))) := ⟨blk_alloc (heap_alloc_new w _) _⟩
     have HE2 : Aside0 (((w.alloc (.cells #[.string a0_0, .slice A0_1 l0_1.length c0_1, .slice A0_2 l0_2.length c0_2] 42)).alloc (.cells #[.string ⟨#[]⟩, .slice none 0 0, .slice none 0 0] 42)).heap[w.heap.size + 1]? = some (.cells #[.string ⟨#[]⟩, .slice none 0 0, .slice none 0 0] 42 (0, 0))) := ⟨by have := heap_alloc_new (w.alloc (.cells #[.string a0_0, .slice A0_1 l0_1.length c0_1, .slice A0_2 l0_2.length c0_2] 42)) (.cells #[.string ⟨#[]⟩, .slice none 0 0, .slice none 0 0] 42); simpa using this⟩
     go_enter Tryd.func17, Tryd.ntmps17
     go_wp2_with (first | (go_at_call 54; (with_reducible refine (chain_Sizes.calls k a0_0 A0_1 c0_1 l0_1 A0_2 c0_2 l0_2 sz 0 _ (Kd.C_below HR1.out HB2.out) HC1.out (Kd.C_below HR2.out HB2.out) HC2.out (Tabs.below HT.out HB2.out) HZ.out).mono ?_); rintro e w3 ⟨v8, rfl, ho3, hb⟩; have HB3 := am (below_then HB2.out HB2.out.size hb); have HG3 := am (blk_below HG2.out hb); have HE3 := am (blk_below HE2.out hb); have HV3 := am (Kd.R_lower ho3 HB2.out.size); have ca3 : (w3).cell? ⟨w.heap.size, 0, none⟩ = some (.string a0_0) := (blk_cell HG3.out 0).trans rfl; have cb3 : (w3).cell? ⟨w.heap.size, 1, none⟩ = some (.slice A0_1 l0_1.length c0_1) := (blk_cell HG3.out 1).trans rfl; have cc3 : (w3).cell? ⟨w.heap.size, 2, none⟩ = some (.slice A0_2 l0_2.length c0_2) := (blk_cell HG3.out 2).trans rfl; clear hb ho3) | (go_at_call 55; (with_reducible refine (keep_Floor.calls k A0_1 c0_1 l0_1 a2 (a : Int) _ (Kd.C_below HR1.out HB3.out) HC1.out HA.out).mono ?_); rintro e w4 ⟨rfl, m4, rfl⟩; have HB4 := am (pw_below_drewN HB3.out m4); have HG4 : Aside0 ((w3.drewN m4).heap[w.heap.size]? = some (.cells #[.string a0_0, .slice A0_1 l0_1.length c0_1, .slice A0_2 l0_2.length c0_2] 42 (0, 0))) := ⟨HG3.out⟩; have HE4 : Aside0 ((w3.drewN m4).heap[w.heap.size + 1]? = some (.cells #[.string ⟨#[]⟩, .slice none 0 0, .slice none 0 0] 42 (0, 0))) := ⟨HE3.out⟩; have HV4 := am (Kd.R_drewN HV3.out m4); have ca4 : (w3.drewN m4).cell? ⟨w.heap.size, 0, none⟩ = some (.string a0_0) := (blk_cell HG4.out 0).trans rfl; have cb4 : (w3.drewN m4).cell? ⟨w.heap.size, 1, none⟩ = some (.slice A0_1 l0_1.length c0_1) := (blk_cell HG4.out 1).trans rfl; have cc4 : (w3.drewN m4).cell? ⟨w.heap.size, 2, none⟩ = some (.slice A0_2 l0_2.length c0_2) := (blk_cell HG4.out 2).trans rfl) | (go_at_call 27; (with_reducible refine (chain_At.calls k a0_0 A0_1 c0_1 l0_1 A0_2 c0_2 l0_2 (a : Int) b 0 _ (Kd.C_below HR1.out HB4.out) HC1.out (Kd.C_below HR2.out HB4.out) HC2.out (Tabs.below HT.out HB4.out) HAT.out).mono ?_); rintro e w5 ⟨rfl, hb⟩; have HB5 := am (below_then HB4.out HB4.out.size hb); have HG5 := am (blk_below HG4.out hb); have HE5 := am (blk_below HE4.out hb); have HV5 := am (Kd.R_below HV4.out hb); have ca5 : (w5).cell? ⟨w.heap.size, 0, none⟩ = some (.string a0_0) := (blk_cell HG5.out 0).trans rfl; have cb5 : (w5).cell? ⟨w.heap.size, 1, none⟩ = some (.slice A0_1 l0_1.length c0_1) := (blk_cell HG5.out 1).trans rfl; have cc5 : (w5).cell? ⟨w.heap.size, 2, none⟩ = some (.slice A0_2 l0_2.length c0_2) := (blk_cell HG5.out 2).trans rfl; clear hb) | (go_at_call 56; (with_reducible refine (keep_Of.calls k A0_1 c0_1 l0_1 A1 c1 l1 a2 kept _ (Kd.C_below HR1.out HB5.out) HC1.out (Kd.C_below HRS.out HB5.out) HCS.out HK.out).mono ?_); rintro e w6 ⟨v12, rfl, ho6, hb⟩; have HB6 := am (below_then HB5.out HB5.out.size hb); have HG6 := am (blk_below HG5.out hb); have HE6 := am (blk_below HE5.out hb); have HV6 := am (Kd.R_below HV5.out hb); have HW6 := am ho6; have ca6 : (w6).cell? ⟨w.heap.size, 0, none⟩ = some (.string a0_0) := (blk_cell HG6.out 0).trans rfl; have cb6 : (w6).cell? ⟨w.heap.size, 1, none⟩ = some (.slice A0_1 l0_1.length c0_1) := (blk_cell HG6.out 1).trans rfl; have cc6 : (w6).cell? ⟨w.heap.size, 2, none⟩ = some (.slice A0_2 l0_2.length c0_2) := (blk_cell HG6.out 2).trans rfl; obtain ⟨A6, c6, e6⟩ := Kd.R_slice ho6; subst e6; clear hb ho6))
     obtain ⟨m, hm⟩ : ∃ m, kept.length = m + 1 := ⟨kept.length - 1, by have := HK1.out; omega⟩
     have HM := am hm
     have hw1 : wrap64 ((kept.length : Int) - 1) = (m : Int) := by have := HK2.out; unfold wrap64; omega
     have hmk1 := compact_Of.make1 kept.length (by have := HK2.out; omega)
     have hmk2 := compact_Of.make2 m (by have := HK2.out; omega)
     clear hm
     refine compact_Of.gather (fun a gR gS gL => (((((((((a.put (some 44) (.string b)).put (some 45) (.slice A6 kept.length c6)).put (some 46) (.int .i64 (kept.length : Int))).put (some 47) (.slice (some ⟨gR, 0, none⟩) kept.length kept.length)).put (some 48) (.slice A6 kept.length c6)).put (some 49) (.int .i64 (kept.length : Int))).put (some 50) (.int .i64 (wrap64 ((kept.length : Int) - 1)))).put (some 51) (.slice (some ⟨gS, 0, none⟩) m m)).put (some 52) (.agg #[.string b, .slice (some ⟨gR, 0, none⟩) kept.length kept.length, .slice (some ⟨gS, 0, none⟩) m m])).put (some 13) (.pointer (some ⟨gL, 0, none⟩))) (fun W gR gS gL => compact_Of.NS W w6 gR gS gL kept.length m b) ?_ (fun gR gS gL w9 hq9 => ?_)
     ·go_region
      all_goals (first | (obtain ⟨h1, h2, h3, h4, h5⟩ := compact_Of.three w6 (.cells (madeCells #[.int .i64 0] kept.length) 3) (.cells (madeCells #[.slice none 0 0] m) 27) (.cells #[.string b, .slice (some ⟨w6.heap.size, 0, none⟩) kept.length kept.length, .slice (some ⟨w6.heap.size + 1, 0, none⟩) m m] 42); refine ⟨w6.heap.size, w6.heap.size + 1, w6.heap.size + 1 + 1, rfl, ?_, ⟨h1, h2, h3, h4, by omega, by omega, by omega, by omega, by omega, by omega⟩⟩; simp only [Act.put, List.setIfInBounds_toArray, List.set_cons_zero, List.set_cons_succ] <;> rfl) | (obtain ⟨h1, h2, h3, h4, h5⟩ := compact_Of.three w6 (.cells (madeCells #[.int .i64 0] kept.length) 3) (.cells #[.string b, .slice (some ⟨w6.heap.size, 0, none⟩) kept.length kept.length, .slice (some ⟨w6.heap.size + 1 + 1, 0, none⟩) m m] 42) (.cells (madeCells #[.slice none 0 0] m) 27); refine ⟨w6.heap.size, w6.heap.size + 1 + 1, w6.heap.size + 1, rfl, ?_, ⟨h1, h3, h2, h4, by omega, by omega, by omega, by omega, by omega, by omega⟩⟩; simp only [Act.put, List.setIfInBounds_toArray, List.set_cons_zero, List.set_cons_succ] <;> rfl) | (obtain ⟨h1, h2, h3, h4, h5⟩ := compact_Of.three w6 (.cells (madeCells #[.slice none 0 0] m) 27) (.cells (madeCells #[.int .i64 0] kept.length) 3) (.cells #[.string b, .slice (some ⟨w6.heap.size + 1, 0, none⟩) kept.length kept.length, .slice (some ⟨w6.heap.size, 0, none⟩) m m] 42); refine ⟨w6.heap.size + 1, w6.heap.size, w6.heap.size + 1 + 1, rfl, ?_, ⟨h2, h1, h3, h4, by omega, by omega, by omega, by omega, by omega, by omega⟩⟩; simp only [Act.put, List.setIfInBounds_toArray, List.set_cons_zero, List.set_cons_succ] <;> rfl) | (obtain ⟨h1, h2, h3, h4, h5⟩ := compact_Of.three w6 (.cells (madeCells #[.slice none 0 0] m) 27) (.cells #[.string b, .slice (some ⟨w6.heap.size + 1 + 1, 0, none⟩) kept.length kept.length, .slice (some ⟨w6.heap.size, 0, none⟩) m m] 42) (.cells (madeCells #[.int .i64 0] kept.length) 3); refine ⟨w6.heap.size + 1 + 1, w6.heap.size, w6.heap.size + 1, rfl, ?_, ⟨h3, h1, h2, h4, by omega, by omega, by omega, by omega, by omega, by omega⟩⟩; simp only [Act.put, List.setIfInBounds_toArray, List.set_cons_zero, List.set_cons_succ] <;> rfl) | (obtain ⟨h1, h2, h3, h4, h5⟩ := compact_Of.three w6 (.cells #[.string b, .slice (some ⟨w6.heap.size + 1, 0, none⟩) kept.length kept.length, .slice (some ⟨w6.heap.size + 1 + 1, 0, none⟩) m m] 42) (.cells (madeCells #[.int .i64 0] kept.length) 3) (.cells (madeCells #[.slice none 0 0] m) 27); refine ⟨w6.heap.size + 1, w6.heap.size + 1 + 1, w6.heap.size, rfl, ?_, ⟨h2, h3, h1, h4, by omega, by omega, by omega, by omega, by omega, by omega⟩⟩; simp only [Act.put, List.setIfInBounds_toArray, List.set_cons_zero, List.set_cons_succ] <;> rfl) | (obtain ⟨h1, h2, h3, h4, h5⟩ := compact_Of.three w6 (.cells #[.string b, .slice (some ⟨w6.heap.size + 1 + 1, 0, none⟩) kept.length kept.length, .slice (some ⟨w6.heap.size + 1, 0, none⟩) m m] 42) (.cells (madeCells #[.slice none 0 0] m) 27) (.cells (madeCells #[.int .i64 0] kept.length) 3); refine ⟨w6.heap.size + 1 + 1, w6.heap.size + 1, w6.heap.size, rfl, ?_, ⟨h3, h2, h1, h4, by omega, by omega, by omega, by omega, by omega, by omega⟩⟩; simp only [Act.put, List.setIfInBounds_toArray, List.set_cons_zero, List.set_cons_succ] <;> rfl))
     ·have HQ9 := am hq9
      clear hq9
      simp only [Act.put, List.setIfInBounds_toArray, List.set_cons_zero, List.set_cons_succ]
      obtain ⟨ad6, e6, hsrc6⟩ := compact_Of.src (w := w6) (Kd.R_reads' HW6.out).2.2 (by have := HK1.out; omega)
      subst e6
      have HSRC : Aside0 (∀ j v, (kept.map (Value.int .i64))[j]? = some v → w9.cell? (ad6.add j) = some v) := ⟨fun j v hj => (HQ9.out.2.2.2.1.cell (World.block_lt_of_cell? w6 _ (hsrc6 j v hj))).trans (hsrc6 j v hj)⟩
      have cl1 : w9.cell? ⟨gL, 1, none⟩ = some (.slice (some ⟨gR, 0, none⟩) kept.length kept.length) := (blk_cell HQ9.out.2.2.1 1).trans rfl
      have HMF := am (compact_Of.copied HQ9.out)
      have cl2 := (blk_cell HMF.out.2.1 2).trans rfl
      clear hsrc6
      go_wp2_with ((with_reducible refine gate_builtin (b := .copy) (xs := #[.tmp 54, .tmp 55]) rfl ?_); refine wpList_copy_own rfl (.tmp 54) (.tmp 55) 38 38 rfl 3 Tryd.underlying38 compact_Of.sz1 gR 0 kept.length kept.length ad6 kept.length c6 rfl rfl (madeCells #[.int .i64 0] kept.length) 3 HQ9.out.1 (kept.map (Value.int .i64)) (by simp) HSRC.out (by rw [size_madeCells]; simp) (by intro v hv; obtain ⟨x, _, rfl⟩ := List.mem_map.1 hv; rfl) ?_; generalize hw10 : w9.setRow gR _ = w10 at HMF cl2 ⊢; clear hw10)
      obtain ⟨A8, c8, e8⟩ := Kd.R_slice HV6.out
      subst e8
      have HV8 := am (Kd.R_reads' HV6.out).2.2
      have HK6 := am (Kd.R_reads' HW6.out).2.2
      clear cl2 cl1 HSRC
      have HO0 : Aside0 (compact_Of.l k sz l0_1 l0_2 a (kept.drop (0 + 1)) = some o) := HOO
      go_loopw [9, 10, 14, 15, 60] (fun _ v10 _ _ v60 wr => ∃ (i a : Nat) (outs rest : List (List S25)), v60 = .int .i64 i ∧ v10 = .int .i64 a ∧ i ≤ m ∧ Aside0 (compact_Of.l k sz l0_1 l0_2 a (kept.drop (i + 1)) = some rest) ∧ Aside0 (outs ++ rest = o) ∧ Aside0 (outs.length = i) ∧ Aside0 (compact_Of.MF wr w6 gR gS gL m kept b outs)) (fun _ _ _ _ v60 _ => m - (intOf v60).toNat)
      case atStart => exact ⟨0, a, [], o, rfl, rfl, Nat.zero_le _, HO0, ⟨rfl⟩, ⟨rfl⟩, HMF⟩
      case round =>
       clear HO0 HMF HOO
       obtain ⟨i, a, outs, rest, rfl, rfl, hi, HL, HAP, HLN, HMF⟩ := hrel
       by_cases hlt : i < m
       ·have hltb : decide ((i : Int) < (m : Int)) = true := decide_eq_true (by omega)
        have hltc : decide (i < m) = true := decide_eq_true hlt
        have hltd : (i < m) = True := eq_true hlt
        have HLT := am hlt
        obtain ⟨i1, hi1e⟩ : ∃ i1, i + 1 = i1 := ⟨_, rfl⟩
        rw [hi1e] at HL
        have hkd : kept.drop i1 = rd kept (i1 : Int) :: kept.drop (i1 + 1) := by
         have hl : i1 < kept.length := by have := HM.out; omega
         rw [List.drop_eq_getElem_cons hl]
         unfold rd
         rw [Int.toNat_natCast, List.getD_eq_getElem?_getD, List.getElem?_eq_getElem hl]
         rfl
        obtain ⟨y, hy⟩ : ∃ y, rd kept (i1 : Int) = y := ⟨_, rfl⟩
        have h := HL.out
        clear HL
        rw [hkd, hy, compact_Of.l] at h
        obtain ⟨t, ht, h⟩ := Option.bind_eq_some_iff.mp h
        by_cases z1 : t ≤ l0_2.length ∧ a < sz.length
        ·rw [if_pos z1] at h
         obtain ⟨⟨seg, e3⟩, hf, h⟩ := Option.bind_eq_some_iff.mp h
         by_cases z2 : e3 = 0
         ·subst z2
          rw [if_pos rfl] at h
          obtain ⟨rest', hr, h⟩ := Option.bind_eq_some_iff.mp h
          obtain rfl := Option.some.inj h
          obtain ⟨adk, ek, hxk⟩ := Kd.at_int HK6.out (i1 : Int) (by omega) (by have := HM.out; omega)
          cases ek
          rw [Int.toNat_natCast, hy] at hxk
          have HXK := am hxk; have HT1 := am ht; have HZ1 := am z1; have HF := am hf; have HRR := am hr
          obtain ⟨hi1, hi2, hi3', hi4'⟩ := compact_Of.i1w hi1e HM.out HK2.out HLT.out
          have hi3 : (i1 < kept.length) = True := eq_true hi3'
          have hi4 : ((i1 : Int) < (kept.length : Int)) = True := eq_true hi4'
          clear hi3' hi4'
          have HI1 := am hi1e
          clear hlt h hkd hy ht z1 hf hr hxk hi1e
          go_wp2
          have HMF0 := HMF
          go_loopw [15] (fun v15 wi => ∃ (t0 n : Nat), v15 = .int .i64 t0 ∧ a ≤ t0 ∧ wi = wr.drewN n ∧ Aside0 (compact_Of.to y (l0_1.drop t0) t0 = some t)) (fun v15 _ => l0_1.length - (intOf v15).toNat)
          case atStart => exact ⟨a, 0, rfl, Nat.le_refl _, rfl, HT1⟩
          case round =>
           clear HMF HT1
           obtain ⟨t0, n, rfl, hat, rfl, HT0⟩ := hrel
           obtain ⟨ht0, hcase⟩ := compact_Of.to_next y l0_1 t0 t HT0.out
           have HMD := am (compact_Of.MF_drewN HMF0.out (n + 1))
           obtain ⟨adr, er, hxr⟩ := Kd.at_int (Kd.C_below HR1.out (below_then HB6.out HB6.out.size HMD.out.2.2.2.1)) (t0 : Int) (by omega) (by omega)
           subst er
           rw [Int.toNat_natCast] at hxr
           have hxk : (wr.drewN (n + 1)).cell? (ad6.add i1) = some (.int .i64 y) := (HMD.out.2.2.2.1.cell (World.block_lt_of_cell? w6 _ HXK.out)).trans HXK.out
           have hxb : (wr.drewN (n + 1)).cell? ⟨w.heap.size, 1, none⟩ = some (.slice (some adr) l0_1.length c0_1) := (blk_cell (blk_below HG6.out HMD.out.2.2.2.1) 1).trans rfl
           have q1 : (t0 < l0_1.length) = True := eq_true ht0
           have q2 : ((t0 : Int) < (l0_1.length : Int)) = True := eq_true (by omega)
           have hwt : wrap64 ((t0 : Int) + 1) = ((t0 + 1 : Nat) : Int) := by have := HS.out; unfold wrap64; omega
           have HAT2 := am hat; have HT0L := am ht0
           rcases hcase with ⟨hy1, rfl⟩ | ⟨hy1, hto⟩
           ·have hyb : (rd l0_1 (t : Int) != y) = false := by simp [hy1]
            clear hat ht0 HT0
            go_wp2
            go_region
            have HD2 := am (compact_Of.MF_drewN HMF0.out (n + 2))
            obtain ⟨ad8, e8, hx8⟩ := Kd.at_int HV8.out (a : Int) (by omega) (by have := HZ1.out.2; omega)
            subst e8
            rw [Int.toNat_natCast] at hx8
            have hz8 : (wr.drewN (n + 2)).cell? (ad8.add a) = some (.int .i64 (rd sz (a : Int))) := (HD2.out.2.2.2.1.cell (World.block_lt_of_cell? w6 _ hx8)).trans hx8
            have hb2 : (wr.drewN (n + 2)).cell? ⟨w.heap.size, 2, none⟩ = some (.slice A0_2 l0_2.length c0_2) := (blk_cell (blk_below HG6.out HD2.out.2.2.2.1) 2).trans rfl
            have hl2 : (wr.drewN (n + 2)).cell? ⟨gL, 2, none⟩ = some (.slice (some ⟨gS, 0, none⟩) m m) := (blk_cell HD2.out.2.1 2).trans rfl
            have ha1 : (a < sz.length) = True := eq_true HZ1.out.2
            have ha2 : ((a : Int) < (sz.length : Int)) = True := eq_true (by have := HZ1.out.2; omega)
            obtain ⟨q, hq⟩ : ∃ q, (l0_2.take t).drop a = q := ⟨_, rfl⟩
            have hql : t - a = q.length := by rw [← hq, List.length_drop, List.length_take]; have := HZ1.out.1; omega
            obtain ⟨AQ, hAQ⟩ : ∃ A, (if c0_2 = a then A0_2 else A0_2.map (·.add (a * 1))) = A := ⟨_, rfl⟩
            have hcq0 := Kd.C_drop (Kd.C_take (Kd.C_below HR2.out (below_then HB6.out HB6.out.size HD2.out.2.2.2.1)) (m := t) HZ1.out.1) (m := a) (c := c0_2) (by rw [List.length_take]; have := HZ1.out.1; have := HAT2.out; omega) (by rw [List.length_take]; have := HC2.out; omega)
            rw [hq] at hcq0
            have HCQ : Aside0 (Kd.C (Kd.slice 25 k25) (wr.drewN (n + 2)) AQ q.length q) := ⟨by rw [← hAQ]; exact hcq0⟩
            have hcut := compact_Of.cut A0_2 l0_2.length c0_2 a t HAT2.out HZ1.out.1 HC2.out
            rw [hAQ, hql] at hcut
            have HFQ : Aside0 (fuse_Of.f k (rd sz (a : Int)) q = some (seg, 0)) := ⟨by rw [← hq]; exact HF.out⟩
            have HCC : Aside0 (q.length ≤ c0_2 - a) := ⟨by rw [← hql]; have := HC2.out; have := HZ1.out.1; omega⟩
            have HTQ : Aside0 (Tabs (wr.drewN (n + 2))) := ⟨Tabs.below HT.out (below_then HB6.out HB6.out.size HD2.out.2.2.2.1)⟩
            have HLT2 : Aside0 (outs.length < m) := ⟨by rw [HLN.out]; exact HLT.out⟩
            have HX8 := am hx8
            clear hq hql hAQ hcq0 hx8
            go_wp2
            refine wp_region_noPanic ?_
            go_region_law (go_simp; go_at_call 11; (with_reducible refine (fuse_Of.calls k (rd sz (a : Int)) AQ (c0_2 - a) q seg 0 _ HCQ.out HCC.out HTQ.out HFQ.out).mono ?_); rintro e w20 ⟨vf, rfl, hrf, hbf⟩; obtain ⟨Af, cf, ef⟩ := Kd.R_slice hrf; subst ef; have HMP := am (compact_Of.MF_put HD2.out HLT2.out hbf hrf); rw [HLN.out] at HMP; have HB20 := am (below_then HD2.out.2.2.2.1 HD2.out.2.2.2.1.size hbf); have hz8' : w20.cell? (ad8.add a) = some (.int .i64 (rd sz (a : Int))) := (HB20.out.cell (World.block_lt_of_cell? w6 _ HX8.out)).trans HX8.out; have hb2' : w20.cell? ⟨w.heap.size, 2, none⟩ = some (.slice A0_2 l0_2.length c0_2) := (blk_cell (blk_below HG6.out HB20.out) 2).trans rfl; have hl2' : w20.cell? ⟨gL, 2, none⟩ = some (.slice (some ⟨gS, 0, none⟩) m m) := (blk_cell (blk_below HD2.out.2.1 hbf) 2).trans rfl; have hst := compact_Of.store_at HD2.out.2.2.1 HLT2.out hbf; rw [HLN.out] at hst; obtain ⟨hs1, hs2⟩ := hst; clear hrf hbf)
            all_goals (refine NoPanic.normal ?_)
            all_goals go_wp2
            all_goals exact ⟨⟨i1, t, outs ++ [seg], rest', rfl, rfl, compact_Of.i1m HI1.out HLT.out, HRR, ⟨by rw [List.append_assoc]; exact HAP.out⟩, ⟨by rw [List.length_append, HLN.out]; exact HI1.out⟩, HMP⟩, compact_Of.i1l HI1.out HLT.out⟩
           ·have hyb : (rd l0_1 (t0 : Int) != y) = true := by simp [hy1]
            have HTO := am hto
            clear hat ht0 HT0 hto hy1
            go_wp2
            go_region
            go_wp2
            go_roundw
            case rel => exact ⟨t0 + 1, n + 1, by rw [hwt], Nat.le_succ_of_le HAT2.out, rfl, HTO⟩
            case measure => exact op_sum.less HT0L.out hwt
         ·rw [if_neg z2] at h; cases h
        ·rw [if_neg z1] at h; cases h
       ·have hltb : decide ((i : Int) < (m : Int)) = false := decide_eq_false (by omega)
        have hltc : decide (i < m) = false := decide_eq_false hlt
        have hie : i = m := by omega
        subst hie
        have h := HL.out
        clear HL hlt hi
        rw [List.drop_of_length_le (by rw [HM.out]; exact Nat.le_refl _), compact_Of.l] at h
        obtain rfl := Option.some.inj h
        have HOE : Aside0 (outs = o) := ⟨by rw [← HAP.out, List.append_nil]⟩
        have e0 : wr.cell? ⟨gL, 0, none⟩ = some (.string b) := (blk_cell HMF.out.2.1 0).trans rfl
        have e1 : wr.cell? ⟨gL, 1, none⟩ = some (.slice (some ⟨gR, 0, none⟩) kept.length kept.length) := (blk_cell HMF.out.2.1 1).trans rfl
        have e2 : wr.cell? ⟨gL, 2, none⟩ = some (.slice (some ⟨gS, 0, none⟩) i i) := (blk_cell HMF.out.2.1 2).trans rfl
        have HE9 := am (blk_below HE6.out HMF.out.2.2.2.1)
        have k0 : wr.cell? ⟨w.heap.size + 1, 0, none⟩ = some (.string ⟨#[]⟩) := (blk_cell HE9.out 0).trans rfl
        have k1 : wr.cell? ⟨w.heap.size + 1, 1, none⟩ = some (.slice none 0 0) := (blk_cell HE9.out 1).trans rfl
        have k2 : wr.cell? ⟨w.heap.size + 1, 2, none⟩ = some (.slice none 0 0) := (blk_cell HE9.out 2).trans rfl
        have f0 := blk_frozen HE9.out 0
        have f1 := blk_frozen HE9.out 1
        have f2 := blk_frozen HE9.out 2
        clear h
        have HGR : Aside0 (((((wr.setCell ⟨w.heap.size + 1, 0, none⟩ (.string b)).setCell ⟨w.heap.size + 1, 1, none⟩ (.slice (some ⟨gR, 0, none⟩) kept.length kept.length)).setCell ⟨w.heap.size + 1, 2, none⟩ (.slice (some ⟨gS, 0, none⟩) i i))).heap[w.heap.size + 1]? = some (.cells #[.string b, .slice (some ⟨gR, 0, none⟩) kept.length kept.length, .slice (some ⟨gS, 0, none⟩) i i] 42 (0, 0))) := ⟨blk_put (blk_put (blk_put HE9.out 0 _ rfl) 1 _ rfl) 2 _ rfl⟩
        have HFI := am (compact_Of.fin HMF.out HLN.out (w.heap.size + 1) (by have := blk_lt HE6.out; show _ < w6.heap.size; exact this) (.string b) (.slice (some ⟨gR, 0, none⟩) kept.length kept.length) (.slice (some ⟨gS, 0, none⟩) i i) (B := w.heap.size) HB6.out.size (by have := HK2.out; unfold maxLen; omega) (by have := HK2.out; have := HM.out; unfold maxLen; omega))
        have HBF := am ((((below_then HB6.out HB6.out.size HMF.out.2.2.2.1).setCell (p := ⟨w.heap.size + 1, 0, none⟩) (Nat.le_succ _) (.string b)).setCell (p := ⟨w.heap.size + 1, 1, none⟩) (Nat.le_succ _) (.slice (some ⟨gR, 0, none⟩) kept.length kept.length)).setCell (p := ⟨w.heap.size + 1, 2, none⟩) (Nat.le_succ _) (.slice (some ⟨gS, 0, none⟩) i i))
        go_wp2
        refine bodyPost_ret (results_ct rfl _ _ (w.heap.size + 1) 42 _ (0, 0) _ rfl HGR.out Tryd.underlying42 rfl (by kernel_rfl)) rfl ?_
        exact ⟨_, _, rfl, HFI.out.1, HOE.out ▸ HFI.out.2, HBF.out⟩
    ·rw [if_neg z3] at h; cases h
   ·rw [if_neg z2] at h; cases h
  ·rw [if_neg z1] at h; cases h
 ·rw [if_neg hs] at h; cases h
def epitometop_few.f (l0 : List Int) : Option (List Int) := if 0 ≤ (mn (l0.length : Int) 30) then (if (mn (l0.length : Int) 30) ≤ (l0.length : Int) then (some (l0.take ((mn (l0.length : Int) 30) : Int).toNat)) else (none)) else (none)
set_option maxHeartbeats 8000000 in
set_option maxRecDepth 100000 in
theorem epitometop_few.calls (P0_ : Nat → Prop) (A0 : Option Addr) (c0 : Nat) (l0 : List Int) (r : List Int) (w : World) (hs0 : Kd.V (Kd.int .i64) 3 w w.heap.size (fun k_ => P0_ k_) (.slice A0 l0.length c0) l0) (h : epitometop_few.f l0 = some r) :
  Calls Tryd.prog 18 #[.slice A0 l0.length c0] w fun e w' => ∃ v0_ : Value, e = .returned (v0_) ∧ Kd.V (Kd.int .i64) 3 w' w.heap.size (fun k_ => (P0_ k_ ∨ w.heap.size ≤ k_)) v0_ r ∧ Below w.heap.size w w' := by
 have HO0 := am (show Kd.V (Kd.int .i64) 3 w w.heap.size (fun k_ => (P0_ k_ ∨ w.heap.size ≤ k_)) (.slice A0 l0.length c0) l0 from Kd.V_mono hs0 (fun k_ hk => .inl hk))
 have HB := am (Below.refl w.heap.size w)
 have H : (if 0 ≤ (mn (l0.length : Int) 30) then (if (mn (l0.length : Int) 30) ≤ (l0.length : Int) then (some (l0.take ((mn (l0.length : Int) 30) : Int).toNat)) else (none)) else (none)) = some r := h
 clear h
 obtain ⟨ji2, hji2⟩ : ∃ j_ : Int, (mn (l0.length : Int) 30) = j_ := ⟨_, rfl⟩
 replace H : (if 0 ≤ (ji2) then (if (ji2) ≤ (l0.length : Int) then (some (l0.take ((ji2) : Int).toNat)) else (none)) else (none)) = some r := by first | (rw [hji2] at H; exact H) | (simp only [hji2] at H ⊢; exact H)
 (try (have hji2h : ji2 ≤ 30 := by (rw [← hji2]; unfold mn; (repeat' split) <;> omega)))
 (try (have hji2g : ji2 ≤ 64 := by omega))
 (try (have hji2l : 0 ≤ ji2 := by (rw [← hji2]; unfold mn; (repeat' split) <;> omega)))
 (try (have hji2m : 0 ≤ ji2 := by omega))
 have hji2_ : (if 30 < (l0.length : Int) then 30 else (l0.length : Int)) = ji2 := hji2
 by_cases c3 : 0 ≤ (ji2)
 ·rw [if_pos c3] at H
  have c3b0 := eq_true c3
  have c3b1 : decide (0 ≤ (ji2)) = true := decide_eq_true c3
  clear c3
  by_cases c4 : (ji2) ≤ (l0.length : Int)
  ·rw [if_pos c4] at H
   have c4b0 := eq_true c4
   have c4b1 : decide ((ji2) ≤ (l0.length : Int)) = true := decide_eq_true c4
   clear c4
   obtain ⟨y330, hy330⟩ : ∃ y_ : List Int, y_ = (l0.take ((ji2) : Int).toNat) := ⟨_, rfl⟩
   replace H : (some y330) = some r := by first | (rw [hy330]; with_reducible exact H) | (have H2_ := (Option.bind_some _ _).symm.trans H; rw [hy330]; with_reducible exact H2_) | (have H2_ := (Option.bind_some _ _).symm.trans H; with_reducible exact H2_) | with_reducible exact H | (rw [hy330]; exact H) | exact H
   have Ny330 := am hy330
   clear hy330
   obtain rfl := Option.some.inj H
   simp only [Option.some.injEq, Prod.mk.injEq] at H
   obtain ⟨rfl⟩ := H
   have q5 : ((ji2) : Int) ≤ ((l0.length : Int) : Int) := of_decide_eq_true as0
   obtain ⟨i05, hi05, _, hsz5, _⟩ := info_parts info3
   have hroom5 : l0.length ≤ c0 := (Kd.V_reads' HO0.out).2.1
   have hC5 : Kd.F (Kd.int .i64) _ _ A0 l0.length l0 := (Kd.V_at (base := w.heap.size) HO0.out).2.2
   have hcut5 := cut_to (P := Tryd.prog) 38 3 .i64 Tryd.underlying38 hi05 A0 l0.length c0 (ji2) (of_decide_eq_true as0) q5 hroom5
   have hr5 := Kd.F_take (m := ((ji2) : Int).toNat) hC5 (by omega)
   have hy5 : y330.length = ((ji2) : Int).toNat := (by rw [Ny330.out, List.length_take]; omega)
   rw [← Ny330.out] at hr5
   rw [← hy5] at hcut5
   have HO334 := am (show Kd.V (Kd.int .i64) 3 _ w.heap.size _ (.slice A0 y330.length c0) y330 from Kd.V_mk (by omega) hr5)
   have HC334 := am (show y330.length ≤ c0 from by omega)
   clear hr5 hC5 hroom5 hi05 hsz5
   have KY5 := am hy5
   clear hy5
   replace q5 := eq_true q5
   go_enter Tryd.func18, Tryd.ntmps18
   go_wp2
   go_ret
   exact ⟨_, by first | rfl | (simp [errW_none, errW_some] <;> rfl) | (simp only [← hji2]; first | rfl | (simp [errW_none, errW_some] <;> rfl)) | (simp [*, errW_none, errW_some] <;> rfl), by (with_reducible repeat (first | apply Kd.V_alloc | apply Kd.V_drewN | apply Kd.V_drew)); exact HO334.out, bl⟩
  ·rw [if_neg c4] at H
   exact absurd H (by simp)
 ·rw [if_neg c3] at H
  exact absurd H (by simp)
end Go.Proofs.YtegjegihcebimaaDoor.P
end
