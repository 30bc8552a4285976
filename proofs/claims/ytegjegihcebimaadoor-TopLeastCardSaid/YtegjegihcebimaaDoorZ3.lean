/- Part 3 of the proof of topLeast_holds: out of the texts that this session's programs wrote, what the theorem reaches. -/
import Derived.Test.YtegjegihcebimaaDoorZ0
import Derived.Test.YtegjegihcebimaaDoorZ1
import Derived.Test.YtegjegihcebimaaDoorZ2
section
namespace Go.Proofs.YtegjegihcebimaaDoor.P
open Go.RowKit Go.Proofs.YtegjegihcebimaaDoorW.PrintWords Go.Proofs.YtegjegihcebimaaDoorW.PrintLast Go.Proofs.YtegjegihcebimaaDoorW.PrintMore
attribute [local go_sem] max2_int min2_int max_two min_two max_three min_three max_four min_four
set_option linter.unusedVariables false
set_option linter.unusedSimpArgs false
def epitomeref16_Fit.l0 : Nat → List (List (S25)) → Int → ByteArray → List Int → List (List (S25)) → Option (ByteArray × List Int × (List (List (S25))))
 | 0, _, _, _, _, _ => none
 | k + 1, x6, x7, x282000, x282001, x282002 => if x7 < (x6.length : Int) then (if x282001.length < 17592186044416 then (if 0 ≤ x7 then ((epitomeref05_Of.f k (rd_L3 x6 x7)).bind fun t290 => (if x282002.length < 5864062014805 then (epitomeref16_Fit.l0 k x6 (wrap64 (x7 + 1)) x282000 (x282001 ++ [wrap64 (x7 + 1)]) (x282002 ++ [t290])) else (none))) else (none)) else (none)) else (some (x282000, x282001, x282002))
def epitomeref16_Fit.f (k : Nat) (a0 : ByteArray) (l1 : List (List (S25))) : Option (ByteArray × List Int × (List (List (S25)))) := if 0 ≤ (mn (a0.size : Int) 20) then (if (mn (a0.size : Int) 20) ≤ (a0.size : Int) then ((epitomeref01_Fit.f k (a0.extract 0 ((mn (a0.size : Int) 20) : Int).toNat)).bind fun t277 => ((epitomeref01_Count.f k t277).bind fun t282 => ((epitomeref04_Chain.f k l1 t282).bind fun t283 => (epitomeref16_Fit.l0 k t283 0 t277 (([0] : List Int)) ([] : List (List (S25))))))) else (none)) else (none)
def epitomeref16_Fit.T7 : Bool × List (List Nat × List Nat) := (true, [([], []), ([0], [0]), ([], []), ([], []), ([2, 3], [2, 3]), ([4], [4]), ([5], [5]), ([6], [6]), ([1, 7, 6], [1, 7]), ([0, 1, 2, 3, 4, 5, 6, 7, 8], []), ([9, 8, 8, 0, 1, 2, 3, 4, 5, 6, 7, 8], [8, 9])])
def epitomeref16_Fit.B7 : List Nat := [0, 1, 0, 0, 12, 28, 60, 124, 255, 511, 1023]
theorem epitomeref16_Fit.tab7 : rtab .any (opsOf Tryd.f16 7) = epitomeref16_Fit.T7 := by kernel_rfl
theorem epitomeref16_Fit.bits7 : waitsOk epitomeref16_Fit.T7.2 epitomeref16_Fit.B7 = true := by kernel_rfl
set_option maxHeartbeats 8000000 in
set_option maxRecDepth 100000 in
theorem epitomeref16_Fit.calls (k : Nat) (a0 : ByteArray) (A1 : Option Addr) (c1 : Nat) (l1 : List (List (S25))) (r1 : ByteArray) (r2 : List Int) (r3 : List (List (S25))) (w : World) (hr1 : Kd.C (Kd.slice 25 k25) w A1 l1.length l1) (hc1 : l1.length ≤ c1) (h : epitomeref16_Fit.f k a0 l1 = some (r1, r2, r3)) :
  Calls Tryd.prog 16 #[.string a0, .slice A1 l1.length c1] w fun e w' => ∃ v1_ v2_ : Value, e = .returned (.agg #[.string r1, v1_, v2_]) ∧ Kd.R (Kd.int .i64) 3 w' w.heap.size (fun _ => True) v1_ r2 ∧ Kd.S (Kd.slice 25 k25) 27 w' w.heap.size (fun _ => True) v2_ r3 ∧ Below w.heap.size w w' := by
 have hu42 := Tryd.underlying42
 have HR1 := am hr1
 have HC1 := am hc1
 clear hr1 hc1
 have HB := am (Below.refl w.heap.size w)
 have H : (if 0 ≤ (mn (a0.size : Int) 20) then (if (mn (a0.size : Int) 20) ≤ (a0.size : Int) then ((epitomeref01_Fit.f k (a0.extract 0 ((mn (a0.size : Int) 20) : Int).toNat)).bind fun t277 => ((epitomeref01_Count.f k t277).bind fun t282 => ((epitomeref04_Chain.f k l1 t282).bind fun t283 => (epitomeref16_Fit.l0 k t283 0 t277 (([0] : List Int)) ([] : List (List (S25))))))) else (none)) else (none)) = some (r1, r2, r3) := h
 clear h
 obtain ⟨ji3, hji3⟩ : ∃ j_ : Int, (mn (a0.size : Int) 20) = j_ := ⟨_, rfl⟩
 replace H : (if 0 ≤ (ji3) then (if (ji3) ≤ (a0.size : Int) then ((epitomeref01_Fit.f k (a0.extract 0 ((ji3) : Int).toNat)).bind fun t277 => ((epitomeref01_Count.f k t277).bind fun t282 => ((epitomeref04_Chain.f k l1 t282).bind fun t283 => (epitomeref16_Fit.l0 k t283 0 t277 (([0] : List Int)) ([] : List (List (S25))))))) else (none)) else (none)) = some (r1, r2, r3) := by first | (rw [hji3] at H; exact H) | (simp only [hji3] at H ⊢; exact H)
 (try (have hji3h : ji3 ≤ 20 := by (rw [← hji3]; unfold mn; (repeat' split) <;> omega)))
 (try (have hji3g : ji3 ≤ 64 := by omega))
 (try (have hji3l : 0 ≤ ji3 := by (rw [← hji3]; unfold mn; (repeat' split) <;> omega)))
 (try (have hji3m : 0 ≤ ji3 := by omega))
 have hji3_ : (if 20 < (a0.size : Int) then 20 else (a0.size : Int)) = ji3 := hji3
 by_cases c4 : 0 ≤ (ji3)
 ·rw [if_pos c4] at H
  have c4b0 := eq_true c4
  have c4b1 : decide (0 ≤ (ji3)) = true := decide_eq_true c4
  clear c4
  by_cases c5 : (ji3) ≤ (a0.size : Int)
  ·rw [if_pos c5] at H
   have c5b0 := eq_true c5
   have c5b1 : decide ((ji3) ≤ (a0.size : Int)) = true := decide_eq_true c5
   clear c5
   replace H := Option.bind_eq_some_iff.mp H
   obtain ⟨t277, A60, H⟩ := H
   replace H : ((epitomeref01_Count.f k t277).bind fun t282 => ((epitomeref04_Chain.f k l1 t282).bind fun t283 => (epitomeref16_Fit.l0 k t283 0 t277 (([0] : List Int)) ([] : List (List (S25)))))) = some (r1, r2, r3) := H
   have A6 := am A60
   clear A60
   obtain ⟨y278, hy278⟩ : ∃ y_ : List Int, y_ = (([0] : List Int)) := ⟨_, rfl⟩
   replace H : ((epitomeref01_Count.f k t277).bind fun t282 => ((epitomeref04_Chain.f k l1 t282).bind fun t283 => (epitomeref16_Fit.l0 k t283 0 t277 y278 ([] : List (List (S25)))))) = some (r1, r2, r3) := by first | (rw [hy278]; with_reducible exact H) | (have H2_ := (Option.bind_some _ _).symm.trans H; rw [hy278]; with_reducible exact H2_) | (have H2_ := (Option.bind_some _ _).symm.trans H; with_reducible exact H2_) | with_reducible exact H | (rw [hy278]; exact H) | exact H
   have Ny278 := am hy278
   clear hy278
   replace H := Option.bind_eq_some_iff.mp H
   obtain ⟨t282, A70, H⟩ := H
   replace H : ((epitomeref04_Chain.f k l1 t282).bind fun t283 => (epitomeref16_Fit.l0 k t283 0 t277 y278 ([] : List (List (S25))))) = some (r1, r2, r3) := H
   have A7 := am A70
   clear A70
   replace H := Option.bind_eq_some_iff.mp H
   obtain ⟨t283, A80, H⟩ := H
   replace H : (epitomeref16_Fit.l0 k t283 0 t277 y278 ([] : List (List (S25)))) = some (r1, r2, r3) := H
   have A8 := am A80
   clear A80
   have H' := am H
   clear H
   go_enter Tryd.func16, Tryd.ntmps16
   go_wp2_with (first | ((with_reducible refine gate_dst (N := 4) rfl ?_); refine box_event ?hg (N := 4) ?hd (cs := #[.string (⟨#[]⟩ : ByteArray), .slice none 0 0, .slice none 0 0]) (t := 42) ?hr ?_; (case hd => rfl); (case hg => rfl); (case hr => first | (go_simp; done) | (go_simp; rfl)); intro gb276 hg w9 hbox hb; have n0_ := am (below_step bl hb); have n1_ := am (hbox); have n2_ := am ((gs : w.heap.size ≤ gb276)); have n3_ := am ((gs : w.heap.size ≤ gb276)); clear HB; have HB := n0_; have BK276 := n1_; have GW276 := n2_; have GE276 := n3_; clear n0_ n1_ n2_ n3_; clear hb hbox hg) | ((with_reducible refine gate_callee (f := 9) rfl ?_); refine goesL_ (some 13) rfl rfl Tryd.func9 (by kernel_rfl) rfl #[.string (a0.extract 0 ((ji3) : Int).toNat)] rfl (by (try simp only [List.map_toArray, List.map_cons, List.map_nil]); first | done | (simp only [hji3]; rfl) | rfl | (simp only [List.length_drop, List.length_take]; rfl)) ?_; (with_reducible refine (epitomeref01_Fit.calls k (a0.extract 0 ((ji3) : Int).toNat) t277 _ A6.out).mono ?_); rintro e w10 ⟨rfl, hb⟩; refine ⟨_, rfl, ?_⟩; have n0_ := am (blk_below (g := gb276) (o := .cells #[.string (⟨#[]⟩ : ByteArray), .slice none 0 0, .slice none 0 0] 42 (0, 0)) (by refine bk ?_; exact BK276.out) hb); have n1_ := am (below_step bl hb); clear BK276; clear HB; have BK276 := n0_; have HB := n1_; clear n0_ n1_; (try clear hb); (try clear hb2); (try clear hk); (try clear hi)) | ((with_reducible refine gate_dst (N := 14) rfl ?_); refine Kd.R_lit (Kd.int .i64) _ 3 ?hg (N := 14) ?hd (xs := ([0] : List Int)) (inner := [.int .i64 0]) (ok := fun _ => True) (okp := fun _ => True) ?hr ?hp (fun _ hk => hk) trivial (Below.refl _ _) (Nat.le_refl _) (by simp) ?_; (case hd => rfl); (case hg => rfl); (case hr => first | (go_simp; done) | (go_simp; rfl)); (case hp => exact (Reps.one (show Kd.M (Kd.int .i64) _ _ _ 0 [.int .i64 0] from rfl) (Reps.none _ _))); intro v279 w11 ho12 hb hg_ hnew_; clear hg_ hnew_; (first | rw [← Ny278.out] at ho12 | (simp only [Int.reduceToNat] at ho12; rw [← Ny278.out] at ho12)); have n0_ := am (Kd.R_lower ho12 (below_size bl)); have n1_ := am (blk_below (g := gb276) (o := .cells #[.string (⟨#[]⟩ : ByteArray), .slice none 0 0, .slice none 0 0] 42 (0, 0)) (by refine bk ?_; exact BK276.out) hb); have n2_ := am (below_step bl hb); clear BK276; clear HB; have HO280 := n0_; have BK276 := n1_; have HB := n2_; clear n0_ n1_ n2_; clear hb ho12; obtain ⟨Ao13, co13, eo13⟩ := Kd.R_slice HO280.out; subst eo13) | ((with_reducible refine gate_dst (N := 5) rfl ?_); refine box_event ?hg (N := 5) ?hd (cs := #[.string (⟨#[]⟩ : ByteArray), .slice none 0 0, .slice none 0 0]) (t := 42) ?hr ?_; (case hd => rfl); (case hg => rfl); (case hr => first | (go_simp; done) | (go_simp; rfl)); intro gb281 hg w14 hbox hb; have n0_ := am (Kd.R_below (by refine kR ?_; exact HO280.out) hb); have n1_ := am (blk_below (g := gb276) (o := .cells #[.string (⟨#[]⟩ : ByteArray), .slice none 0 0, .slice none 0 0] 42 (0, 0)) (by refine bk ?_; exact BK276.out) hb); have n2_ := am (below_step bl hb); have n3_ := am (hbox); have n4_ := am ((gs : w.heap.size ≤ gb281)); have n5_ := am ((gs : w.heap.size ≤ gb281)); have n6_ := am ((by rw [hg]; exact Nat.ne_of_lt (blk_lt (g := gb276) (o := .cells #[.string (⟨#[]⟩ : ByteArray), .slice none 0 0, .slice none 0 0] 42 (0, 0)) (by refine bk ?_; exact BK276.out)) : gb276 ≠ gb281)); have n7_ := am ((by rw [hg]; exact Nat.ne_of_gt (blk_lt (g := gb276) (o := .cells #[.string (⟨#[]⟩ : ByteArray), .slice none 0 0, .slice none 0 0] 42 (0, 0)) (by refine bk ?_; exact BK276.out)) : gb281 ≠ gb276)); clear HO280; clear BK276; clear HB; have HO280 := n0_; have BK276 := n1_; have HB := n2_; have BK281 := n3_; have GW281 := n4_; have GE281 := n5_; have NB276_281 := n6_; have NB281_276 := n7_; clear n0_ n1_ n2_ n3_ n4_ n5_ n6_ n7_; clear hb hbox hg; have hnb15 := NB281_276.out; have hnc15 := NB276_281.out; have hcz16_0 : w14.cell? ⟨gb281, 0, none⟩ = some (.string (⟨#[]⟩ : ByteArray)) := (blk_cell BK281.out 0).trans rfl; have hcz16_1 : w14.cell? ⟨gb281, 1, none⟩ = some (.slice none 0 0) := (blk_cell BK281.out 1).trans rfl; have hcz16_2 : w14.cell? ⟨gb281, 2, none⟩ = some (.slice none 0 0) := (blk_cell BK281.out 2).trans rfl; have hfz16_0 := blk_frozen BK281.out 0; have hfz16_1 := blk_frozen BK281.out 1; have hfz16_2 := blk_frozen BK281.out 2) | ((with_reducible refine gate_callee (f := 52) rfl ?_); refine goesL_ (some 19) rfl rfl Tryd.func52 (by kernel_rfl) rfl #[.string t277] rfl ar ?_; (with_reducible refine (epitomeref01_Count.calls k t277 t282 _ A7.out).mono ?_); rintro e w17 ⟨rfl, hb⟩; refine ⟨_, rfl, ?_⟩; have n0_ := am (Kd.R_below (by refine kR ?_; exact (Kd.R_mono (Kd.R_far (p := ⟨gb281, 2, none⟩) (Kd.R_far (p := ⟨gb281, 1, none⟩) (Kd.R_far (p := ⟨gb281, 0, none⟩) (Kd.R_types HO280.out BK281.out (by decide)) (fun _ hk => hk.2) (.string t277)) (fun _ hk => hk.2) (.slice Ao13 y278.length co13)) (fun _ hk => hk.2) (.slice none 0 0)) (fun _ h_ => h_.1))) hb); have n1_ := am (blk_below (g := gb276) (o := .cells #[.string (⟨#[]⟩ : ByteArray), .slice none 0 0, .slice none 0 0] 42 (0, 0)) (by refine bk ?_; refine blk_far ?_ NB276_281.out _; refine bk ?_; refine blk_far ?_ NB276_281.out _; refine bk ?_; refine blk_far ?_ NB276_281.out _; refine bk ?_; exact BK276.out) hb); have n2_ := am (blk_below (g := gb281) (o := .cells #[.string t277, .slice Ao13 y278.length co13, .slice none 0 0] 42 (0, 0)) (by refine bk ?_; refine blk_put (cs := #[.string t277, .slice Ao13 y278.length co13, .slice none 0 0]) ?_ 2 _ rfl; refine bk ?_; refine blk_put (cs := #[.string t277, .slice none 0 0, .slice none 0 0]) ?_ 1 _ rfl; refine bk ?_; refine blk_put (cs := #[.string (⟨#[]⟩ : ByteArray), .slice none 0 0, .slice none 0 0]) ?_ 0 _ rfl; refine bk ?_; exact BK281.out) hb); have n3_ := am (below_step bl hb); clear HO280; clear BK276; clear BK281; clear HB; have HO280 := n0_; have BK276 := n1_; have BK281 := n2_; have HB := n3_; clear n0_ n1_ n2_ n3_; (try clear hb); (try clear hb2); (try clear hk); (try clear hi)) | ((with_reducible refine gate_callee (f := 51) rfl ?_); refine goesL_ (some 20) rfl rfl Tryd.func51 (by kernel_rfl) rfl #[.slice A1 l1.length c1, .int .i64 t282] rfl ar ?_; (with_reducible refine (epitomeref04_Chain.calls k _ _ l1 t282 t283 _ ?side1 ?side2 A8.out).mono ?_); (case side1 => repeat (first | exact (Kd.C_below HR1.out HB.out) | (with_reducible refine Kd.C_alloc ?_ _) | (with_reducible refine Kd.C_drewN ?_ _) | (with_reducible refine Kd.C_drew ?_))); (case side2 => exact HC1.out); rintro e w18 ⟨v284, rfl, ho0, hb⟩; refine ⟨_, rfl, ?_⟩; have n0_ := am (Kd.R_below (by refine kR ?_; exact HO280.out) hb); have n1_ := am (Kd.S_lower ho0 (below_size bl)); have n2_ := am (blk_below (g := gb276) (o := .cells #[.string (⟨#[]⟩ : ByteArray), .slice none 0 0, .slice none 0 0] 42 (0, 0)) (by refine bk ?_; exact BK276.out) hb); have n3_ := am (blk_below (g := gb281) (o := .cells #[.string t277, .slice Ao13 y278.length co13, .slice none 0 0] 42 (0, 0)) (by refine bk ?_; exact BK281.out) hb); have n4_ := am (below_step bl hb); clear HO280; clear BK276; clear BK281; clear HB; have HO280 := n0_; have HO285 := n1_; have BK276 := n2_; have BK281 := n3_; have HB := n4_; clear n0_ n1_ n2_ n3_ n4_; (try clear hb); (try clear hb2); (try clear hk); (try clear hi); (try clear ho0)))
   go_loopg [7] k (fun kq v7 w' => ∃ (x7_1 : Int) (x282001_1 : List Int) (x282002_1 : List (List (S25))) (u282001 : Value) (u282002 : Value), v7 = .int .i64 x7_1 ∧ Aside0 (epitomeref16_Fit.l0 kq t283 x7_1 t277 x282001_1 x282002_1 = some (r1, r2, r3)) ∧ Aside0 (kq ≤ k) ∧ Aside0 (Kd.S (Kd.slice 25 k25) 27 w' w.heap.size (fun k_ => some k_ ≠ (u282002 : Value).ownBlock) v284 t283) ∧ Aside0 (Kd.R (Kd.int .i64) 3 w' w.heap.size (fun _ => True) u282001 x282001_1) ∧ Aside0 (Kd.S (Kd.slice 25 k25) 27 w' w.heap.size (fun k_ => some k_ ≠ (v284 : Value).ownBlock) u282002 x282002_1) ∧ Aside0 (w'.heap[gb276]? = some (.cells #[.string (⟨#[]⟩ : ByteArray), (.slice none 0 0), (.slice none 0 0)] 42 (0, 0))) ∧ Aside0 (w'.heap[gb281]? = some (.cells #[.string t277, u282001, u282002] 42 (0, 0))) ∧ Aside0 (Below w.heap.size w w'))
   case atStart => exact ⟨(0), (y278), (([] : List (List (S25)))), (.slice Ao13 y278.length co13), (.slice none 0 0), pj, H', ⟨Nat.le_refl _⟩, ⟨by refine kS ?_; exact Kd.S_mono HO285.out (fun _ hk => (by simp [Value.ownBlock]))⟩, ⟨by refine kR ?_; exact HO280.out⟩, ⟨by first | exact Kd.S_nil _ _ _ _ _ | exact Kd.N_nil _ _ _ _ _ | exact Kd.V_nil _ _ _ _ _ | exact Kd.Q_nil _ _ _ _ _ | exact Kd.R_nil _ _ _ _ _⟩, ⟨by refine bk ?_; exact BK276.out⟩, ⟨by refine bk ?_; exact BK281.out⟩, ⟨bl⟩⟩
   case round =>
    clear H'
    try clear c1
    try clear p2
    try clear c4
    try clear c4b0
    try clear c4b1
    try clear c5
    try clear c5b0
    try clear c5b1
    try clear c9
    try clear c15
    try clear c16
    try clear hcz16_0
    try clear hcz16_1
    try clear hcz16_2
    try clear hfz16_0
    try clear hfz16_1
    try clear hfz16_2
    obtain ⟨x7_1, x282001_1, x282002_1, u282001, u282002, rfl, HA, HK1, HO_6, HO_282001, HO_282002, BK276, BK281, HB⟩ := hrel
    cases gk with
    | zero => exact absurd HA.out (by simp [epitomeref16_Fit.l0])
    | succ k1 =>
     have H := HA.out
     clear HA
     simp only [epitomeref16_Fit.l0] at H
     by_cases c19 : x7_1 < (t283.length : Int)
     ·rw [if_pos c19] at H
      have c19b0 : decide (x7_1 < (t283.length : Int)) = true := decide_eq_true c19
      clear c19
      by_cases c20 : x282001_1.length < 17592186044416
      ·rw [if_pos c20] at H
       have LMc20 := am c20
       clear c20
       obtain ⟨y286, hy286⟩ : ∃ y_ : List Int, y_ = (x282001_1 ++ [wrap64 (x7_1 + 1)]) := ⟨_, rfl⟩
       replace H : (if 0 ≤ x7_1 then ((epitomeref05_Of.f k1 (rd_L3 t283 x7_1)).bind fun t290 => (if x282002_1.length < 5864062014805 then (epitomeref16_Fit.l0 k1 t283 (wrap64 (x7_1 + 1)) t277 y286 (x282002_1 ++ [t290])) else (none))) else (none)) = some (r1, r2, r3) := by first | (rw [hy286]; with_reducible exact H) | (have H2_ := (Option.bind_some _ _).symm.trans H; rw [hy286]; with_reducible exact H2_) | (have H2_ := (Option.bind_some _ _).symm.trans H; with_reducible exact H2_) | with_reducible exact H | (rw [hy286]; exact H) | exact H
       have Ny286 := am hy286
       clear hy286
       by_cases c21 : 0 ≤ x7_1
       ·rw [if_pos c21] at H
        have c21b0 : decide (0 ≤ x7_1) = true := decide_eq_true c21
        clear c21
        replace H := Option.bind_eq_some_iff.mp H
        obtain ⟨t290, A220, H⟩ := H
        replace H : (if x282002_1.length < 5864062014805 then (epitomeref16_Fit.l0 k1 t283 (wrap64 (x7_1 + 1)) t277 y286 (x282002_1 ++ [t290])) else (none)) = some (r1, r2, r3) := H
        have A22 := am A220
        clear A220
        by_cases c23 : x282002_1.length < 5864062014805
        ·rw [if_pos c23] at H
         have LMc23 := am c23
         clear c23
         obtain ⟨y293, hy293⟩ : ∃ y_ : List (List (S25)), y_ = (x282002_1 ++ [t290]) := ⟨_, rfl⟩
         replace H : (epitomeref16_Fit.l0 k1 t283 (wrap64 (x7_1 + 1)) t277 y286 y293) = some (r1, r2, r3) := by first | (rw [hy293]; with_reducible exact H) | (have H2_ := (Option.bind_some _ _).symm.trans H; rw [hy293]; with_reducible exact H2_) | (have H2_ := (Option.bind_some _ _).symm.trans H; with_reducible exact H2_) | with_reducible exact H | (rw [hy293]; exact H) | exact H
         have Ny293 := am hy293
         clear hy293
         have H' := am H
         clear H
         obtain ⟨Ao24, co24, eo24⟩ := Kd.S_slice HO_6.out
         subst eo24
         have hnb25 := NB281_276.out
         have hnc25 := NB276_281.out
         have hcz26_0 : wr.cell? ⟨gb281, 0, none⟩ = some (.string t277) := (blk_cell BK281.out 0).trans rfl
         have hcz26_1 : wr.cell? ⟨gb281, 1, none⟩ = some (u282001) := (blk_cell BK281.out 1).trans rfl
         have hcz26_2 : wr.cell? ⟨gb281, 2, none⟩ = some (u282002) := (blk_cell BK281.out 2).trans rfl
         have hfz26_0 := blk_frozen BK281.out 0
         have hfz26_1 := blk_frozen BK281.out 1
         have hfz26_2 := blk_frozen BK281.out 2
         try go_wp2_with (first | ((with_reducible refine gate_builtin (b := .append) (xs := #[.tmp 28, .tmp 31]) rfl ?_); at_builtin; refine Kd.R_append (Kd.int .i64) (w0 := w) w.heap.size rfl (.tmp 28) (.tmp 31) 38 3 (.int .i64 0) 8 rfl Tryd.underlying38 info3 rfl (by decide) (by omega) u282001 x282001_1 (wrap64 (x7_1 + 1)) [.int .i64 (wrap64 (x7_1 + 1))] (fun _ => True) (fun _ => False) rfl rfl ?aP (fun _ hk => hk.elim) ?aF ?aO ?aB ?aS ?aL ?_; (case aP => exact rfl); (case aB => exact bl); (case aF => exact (fun _ _ => trivial)); (case aO => exact (by refine kR ?_; exact HO_282001.out)); (case aS => exact (below_size bl)); (case aL => have := LMc20.out; omega); intro v287 w27 ho hb hg hat; rw [← Ny286.out] at ho; have n0_ := am (Kd.S_over' (by refine kS ?_; exact HO_6.out) (Kd.R_typed (by refine kR ?_; exact HO_282001.out)) (by decide) hg); have n1_ := am (Kd.S_over' (by refine kS ?_; exact HO_282002.out) (Kd.R_typed (by refine kR ?_; exact HO_282001.out)) (by decide) hg); have n2_ := am (blk_grown (g := gb276) (o := .cells #[.string (⟨#[]⟩ : ByteArray), .slice none 0 0, .slice none 0 0] 42 (0, 0)) (by refine bk ?_; exact BK276.out) hg (Kd.R_ne HO_282001.out BK276.out (by decide))); have n3_ := am (blk_grown (g := gb281) (o := .cells #[.string t277, u282001, u282002] 42 (0, 0)) (by refine bk ?_; exact BK281.out) hg (Kd.R_ne HO_282001.out BK281.out (by decide))); have n4_ := am (hb); have n5_ := am (ho); clear HO_6; clear HO_282002; clear BK276; clear BK281; clear HB; clear HO_282001; have HO_6 := n0_; have HO_282002 := n1_; have BK276 := n2_; have BK281 := n3_; have HB := n4_; have HO288 := n5_; clear n0_ n1_ n2_ n3_ n4_ n5_; clear ho hb hg hat; obtain ⟨Ao28, co28, eo28⟩ := Kd.R_slice HO288.out; subst eo28; have hcz29_0 : w27.cell? ⟨gb281, 0, none⟩ = some (.string t277) := (blk_cell BK281.out 0).trans rfl; have hcz29_1 : w27.cell? ⟨gb281, 1, none⟩ = some (u282001) := (blk_cell BK281.out 1).trans rfl; have hcz29_2 : w27.cell? ⟨gb281, 2, none⟩ = some (u282002) := (blk_cell BK281.out 2).trans rfl; have hfz29_0 := blk_frozen BK281.out 0; have hfz29_1 := blk_frozen BK281.out 1; have hfz29_2 := blk_frozen BK281.out 2))
         have n0_ : Aside0 (Kd.S (Kd.slice 25 k25) 27 (w27.setCell ⟨gb281, 1, none⟩ (.slice Ao28 y286.length co28)) w.heap.size (fun k_ => some k_ ≠ (u282002 : Value).ownBlock) (.slice Ao24 t283.length co24) t283) := ⟨by refine kS ?_; exact Kd.S_mono (Kd.S_far (p := ⟨gb281, 1, none⟩) (Kd.S_types HO_6.out BK281.out (by decide)) (fun _ hk => hk.2) (.slice Ao28 y286.length co28)) (fun _ hk => hk.1)⟩
         have n1_ : Aside0 (Kd.S (Kd.slice 25 k25) 27 (w27.setCell ⟨gb281, 1, none⟩ (.slice Ao28 y286.length co28)) w.heap.size (fun k_ => some k_ ≠ (.slice Ao24 t283.length co24 : Value).ownBlock) u282002 x282002_1) := ⟨by refine kS ?_; exact Kd.S_mono (Kd.S_far (p := ⟨gb281, 1, none⟩) (Kd.S_types HO_282002.out BK281.out (by decide)) (fun _ hk => hk.2) (.slice Ao28 y286.length co28)) (fun _ hk => hk.1)⟩
         have n2_ : Aside0 (Kd.R (Kd.int .i64) 3 (w27.setCell ⟨gb281, 1, none⟩ (.slice Ao28 y286.length co28)) w.heap.size (fun _ => True) (.slice Ao28 y286.length co28) y286) := ⟨by refine kR ?_; exact Kd.R_mono (Kd.R_far (p := ⟨gb281, 1, none⟩) (Kd.R_types HO288.out BK281.out (by decide)) (fun _ hk => hk.2) (.slice Ao28 y286.length co28)) (fun _ hk => trivial)⟩
         have n3_ : Aside0 ((w27.setCell ⟨gb281, 1, none⟩ (.slice Ao28 y286.length co28)).heap[gb276]? = some (.cells #[.string (⟨#[]⟩ : ByteArray), .slice none 0 0, .slice none 0 0] 42 (0, 0))) := ⟨by refine bk ?_; refine blk_far ?_ NB276_281.out _; refine bk ?_; exact BK276.out⟩
         have n4_ : Aside0 ((w27.setCell ⟨gb281, 1, none⟩ (.slice Ao28 y286.length co28)).heap[gb281]? = some (.cells #[.string t277, .slice Ao28 y286.length co28, u282002] 42 (0, 0))) := ⟨by refine bk ?_; refine blk_put (cs := #[.string t277, u282001, u282002]) ?_ 1 _ rfl; refine bk ?_; exact BK281.out⟩
         have n5_ : Aside0 (Below w.heap.size w (w27.setCell ⟨gb281, 1, none⟩ (.slice Ao28 y286.length co28))) := ⟨bl⟩
         (try clear HO_6)
         (try clear HO_282002)
         (try clear HO288)
         (try clear BK276)
         (try clear BK281)
         (try clear HB)
         generalize (w27.setCell ⟨gb281, 1, none⟩ (.slice Ao28 y286.length co28)) = w30 at n0_ n1_ n2_ n3_ n4_ n5_ ⊢
         have HO_6 := n0_
         have HO_282002 := n1_
         have HO288 := n2_
         have BK276 := n3_
         have BK281 := n4_
         have HB := n5_
         clear n0_ n1_ n2_ n3_ n4_ n5_
         have n0_ := am (Kd.S_drew HO_6.out)
         have n1_ := am (Kd.S_drew HO_282002.out)
         have n2_ := am (Kd.R_drew HO288.out)
         have n3_ := am (blk_drew BK276.out)
         have n4_ := am (blk_drew BK281.out)
         have n5_ := am (below_drew1 HB.out)
         clear HO_6
         clear HO_282002
         clear HO288
         clear BK276
         clear BK281
         clear HB
         have HO_6 := n0_
         have HO_282002 := n1_
         have HO288 := n2_
         have BK276 := n3_
         have BK281 := n4_
         have HB := n5_
         clear n0_ n1_ n2_ n3_ n4_ n5_
         have p289 : 0 ≤ (x7_1 : Int) := of_decide_eq_true as0
         have q289 : x7_1 < (t283.length : Int) := of_decide_eq_true as0
         obtain ⟨ad289, A289_0, c289_0, e289, hx289_0, hl289_0, hi289_0⟩ := at_L3 (Kd.S_reads' HO_6.out).2.2 x7_1 p289 q289
         cases e289
         obtain ⟨ce289, hce289, hMe289, hcc289⟩ := Kd.S_get HO_6.out [] x7_1 p289 (by first | exact q289 | exact of_decide_eq_true as0 | (have e_ := (Kd.S_reads' HO_6.out).1; omega))
         obtain ⟨ve289_0, rfl, ge289_0⟩ := hMe289
         have hv289_0 := hcc289 0 _ rfl
         rw [Nat.add_zero, show ((Kd.slice 25 k25)).sz = 1 from rfl, Nat.mul_one] at hv289_0
         replace hv289_0 := Option.some.inj (hv289_0.symm.trans hx289_0)
         rw [hv289_0] at ge289_0
         have HL289_0 := am (show Kd.R k25 25 _ _ _ _ (rd_L3 t283 x7_1) from ge289_0)
         clear hv289_0 ge289_0
         clear hcc289 hce289
         have HR289_0 := am hi289_0
         have HC289_0 := am hl289_0
         clear hi289_0 hl289_0
         replace p289 := eq_true p289
         replace q289 := eq_true q289
         refine start_ (n := 11) (S := fun w' => w'.cell? ⟨gb281, 0, none⟩ = some (.string t277) ∧ w'.cell? ⟨gb281, 1, none⟩ = some (.slice Ao28 y286.length co28) ∧ w'.cell? ⟨gb281, 2, none⟩ = some (u282002) ∧ w'.cell? (ad289.add (x7_1).toNat) = some (.slice A289_0 (rd_L3 t283 x7_1).length c289_0)) (ds := [8, 10]) #[false, false, false, false, false, false, false, false, false, false, false] (by kernel_rfl) rfl rfl ⟨(blk_cell BK281.out 0).trans rfl, (blk_cell BK281.out 1).trans rfl, (blk_cell BK281.out 2).trans rfl, hx289_0⟩ (fun hHeld => ?_); refine with_tabW epitomeref16_Fit.tab7 epitomeref16_Fit.bits7 (fun HT_ HW_ => ?_)
         generalize w30.drew = w31 at HO_6 HO_282002 HO288 BK276 BK281 HB HL289_0 HR289_0 hx289_0 hHeld ⊢
         refine pure_ (i := 0) (N := some 34) #[true, false, false, false, false, false, false, false, false, false, false] rfl rfl (aT HT_.out) (fun _ _ _ h => h) (Or.inl ⟨rfl, rn⟩) ap ?_
         refine pure_ (i := 2) (N := some 36) #[true, false, true, false, false, false, false, false, false, false, false] rfl rfl (aT HT_.out) (fun _ _ _ h => h) (Or.inl ⟨rfl, rn⟩) ap ?_
         refine pure_ (i := 3) (N := some 37) #[true, false, true, true, false, false, false, false, false, false, false] rfl rfl (aT HT_.out) (fun _ _ _ h => h) (Or.inl ⟨rfl, rn⟩) ap ?_
         refine pure_ (i := 4) (N := some 38) #[true, false, true, true, true, false, false, false, false, false, false] rfl rfl (aT HT_.out) (fun _ _ _ h => h) (Or.inl ⟨rfl, rn⟩) ap ?_
         refine take_ (i := 1) (N := some 35) (v := ?_) (a' := ?_) #[true, true, true, true, true, false, false, false, false, false, false] rfl rfl (take_ofW HT_.out HW_.out (by kernel_rfl)) (fun _ _ _ h => h) (Or.inl ⟨by rfl, ?_⟩) hHeld ?_ ?_
         rotate_left
         ·rintro w' ⟨s0, s1, s2, s3⟩
          go_simp
          with_reducible rfl
         rotate_left
         ·exact ap
         refine take_ (i := 5) (N := some 39) (v := ?_) (a' := ?_) #[true, true, true, true, true, true, false, false, false, false, false] rfl rfl (take_ofW HT_.out HW_.out (by kernel_rfl)) (fun _ _ _ h => h) (Or.inl ⟨by rfl, ?_⟩) hHeld ?_ ?_
         rotate_left
         ·rintro w' ⟨s0, s1, s2, s3⟩
          go_simp
          with_reducible rfl
         rotate_left
         ·exact ap
         refine one_ (i := 6) (N := some 40) #[true, true, true, true, true, true, true, false, false, false, false] rfl rfl (one_of HT_.out (by kernel_rfl)) (by decide) (fun K hK => ?_)
         refine goes_ Tryd.func53 (by kernel_rfl) rfl #[.slice A289_0 (rd_L3 t283 x7_1).length c289_0] (by rfl) rfl rfl ar ?_
         with_reducible refine (epitomeref05_Of.calls k1 _ _ (rd_L3 t283 x7_1) t290 _ ?side1 ?side2 A22.out).mono ?_
         (case side1 => repeat (first | exact (by repeat (first | (with_reducible exact HR289_0.out) | (with_reducible refine Kd.C_alloc ?_ _) | (with_reducible refine Kd.C_drewN ?_ _) | (with_reducible refine Kd.C_drew ?_) | exact HR289_0.out)) | (with_reducible refine Kd.C_alloc ?_ _) | (with_reducible refine Kd.C_drewN ?_ _) | (with_reducible refine Kd.C_drew ?_)))
         (case side2 => exact HC289_0.out)
         rintro e w32 ⟨v291, rfl, ho0, hb⟩
         have HS3_ := (hb.cell (World.block_lt_of_cell? _ _ (hHeld.2.2.2))).trans (hHeld.2.2.2)
         refine ⟨_, rfl, ?_⟩
         have n0_ := am (Kd.S_elder' (by refine kS ?_; exact HO_6.out) (Kd.R_base ho0) hb)
         have n1_ := am (Kd.S_elder' (by refine kS ?_; exact HO_282002.out) (Kd.R_base ho0) hb)
         have n2_ := am (Kd.R_below (by refine kR ?_; exact HO288.out) hb)
         have n3_ := am (Kd.R_elder' (by refine kR ?_; exact HL289_0.out) (Kd.R_base ho0) hb)
         have n4_ := am (Kd.R_lower (Kd.R_new' ho0 (Kd.R_lt (by refine kR ?_; exact HL289_0.out))) (below_size bl))
         have n5_ := am (blk_below (g := gb276) (o := .cells #[.string (⟨#[]⟩ : ByteArray), .slice none 0 0, .slice none 0 0] 42 (0, 0)) (by refine bk ?_; exact BK276.out) hb)
         have n6_ := am (blk_below (g := gb281) (o := .cells #[.string t277, .slice Ao28 y286.length co28, u282002] 42 (0, 0)) (by refine bk ?_; exact BK281.out) hb)
         have n7_ := am (Kd.C_below (by repeat (first | (with_reducible exact HR289_0.out) | (with_reducible refine Kd.C_alloc ?_ _) | (with_reducible refine Kd.C_drewN ?_ _) | (with_reducible refine Kd.C_drew ?_) | exact HR289_0.out)) hb)
         have n8_ := am (below_step bl hb)
         clear HO_6
         clear HO_282002
         clear HO288
         clear HL289_0
         clear BK276
         clear BK281
         clear HR289_0
         clear HB
         have HO_6 := n0_
         have HO_282002 := n1_
         have HO288 := n2_
         have HL289_0 := n3_
         have HO292 := n4_
         have BK276 := n5_
         have BK281 := n6_
         have HR289_0 := n7_
         have HB := n8_
         clear n0_ n1_ n2_ n3_ n4_ n5_ n6_ n7_ n8_
         (try clear hb)
         (try clear hb2)
         (try clear hk)
         (try clear hi)
         (try clear ho0)
         obtain ⟨Ao34, co34, eo34⟩ := Kd.R_slice HO292.out
         (first | subst eo34 | (injection eo34 with f1_ f2_ f3_; have f4_ := f1_.symm; have f5_ := f3_.symm; clear f1_ f2_ f3_; subst f4_; subst f5_))
         refine hK.out _ _ ⟨(blk_cell BK281.out 0).trans rfl, (blk_cell BK281.out 1).trans rfl, (blk_cell BK281.out 2).trans rfl, HS3_⟩ (fun hHeld => ?_)
         clear hK K
         refine norm_ (a' := ?_) ?_ ?_
         rotate_left
         ·show Act.put _ (some 40) _ = _
          simp only [Act.put, List.setIfInBounds_toArray, List.set_cons_zero, List.set_cons_succ, i64_w, i32_w]
          rfl
         refine one_ (i := 7) (N := some 41) #[true, true, true, true, true, true, true, true, false, false, false] rfl rfl (one_of HT_.out (by kernel_rfl)) (by decide) (fun K hK => ?_)
         refine value_ (w1 := ?_) (v := ?_) (by rfl) rfl ?_ ?_
         rotate_left 2
         ·go_simp
          constructor
          ·rfl
          ·rfl
         refine hK.out _ _ ⟨(blk_cell (blk_alloc BK281.out _) 0).trans rfl, (blk_cell (blk_alloc BK281.out _) 1).trans rfl, (blk_cell (blk_alloc BK281.out _) 2).trans rfl, (World.cell?_alloc_lt _ _ _ (World.block_lt_of_cell? _ _ (hHeld.2.2.2))).trans (hHeld.2.2.2)⟩ (fun hHeld => ?_)
         clear hK K
         refine norm_ (a' := ?_) ?_ ?_
         rotate_left
         ·show Act.put _ (some 41) _ = _
          simp only [Act.put, List.setIfInBounds_toArray, List.set_cons_zero, List.set_cons_succ, i64_w, i32_w]
          rfl
         refine last_ (i := 8) (N := some 42) #[true, true, true, true, true, true, true, true, true, false, false] rfl rfl (one_of HT_.out (by kernel_rfl)) (by decide) (fun K hK => ?_)
         refine Kd.S_append_step (Kd.slice 25 k25) (w0 := w) w.heap.size (by rfl) (.tmp 35) (.tmp 41) 28 27 (.slice none 0 0) 24 rfl Tryd.underlying28 info27 rfl (by decide) (by omega) u282002 x282002_1 t290 [.slice Ao34 t290.length co34] (fun k_ => some k_ ≠ (.slice (some ad289) t283.length co24 : Value).ownBlock) (fun k_ => some k_ = (.slice Ao34 t290.length co34 : Value).ownBlock) rfl rfl ?aP (fun k_ hk_ => ((Kd.R_mono (ok' := fun k_ => ((fun k_ => some k_ ≠ (.slice (some ad289) t283.length co24 : Value).ownBlock)) k_ ∧ some k_ ≠ (u282002 : Value).ownBlock) (Kd.R_apart' (Kd.R_apart' (HO292.out) (Kd.S_typed HO_6.out) (by decide)) (Kd.S_typed HO_282002.out) (by decide)) (fun k_ hk => ⟨hk.1.2, hk.2⟩))).1 k_ hk_.symm) ?aF ?aO ?aB ?aS ?aL ?_
         (case aP => exact Kd.M_row (Kd.R_mono (Kd.R_tight rfl (Kd.R_mono (ok' := fun k_ => ((fun k_ => some k_ ≠ (.slice (some ad289) t283.length co24 : Value).ownBlock)) k_ ∧ some k_ ≠ (u282002 : Value).ownBlock) (Kd.R_apart' (Kd.R_apart' (HO292.out) (Kd.S_typed HO_6.out) (by decide)) (Kd.S_typed HO_282002.out) (by decide)) (fun k_ hk => ⟨hk.1.2, hk.2⟩))) (fun _ h_ => h_)))
         (case aB => exact bl)
         (case aF => exact (fun k_ hk => Kd.fresh' (Kd.S_lt (by refine kS ?_; exact HO_6.out)) k_ hk))
         (case aO => exact (by refine kS ?_; exact Kd.S_mono HO_282002.out (fun k_ hk => ⟨hk.1, fun e_ => hk.2 e_⟩)))
         (case aS => exact (below_size bl))
         (case aL => have := LMc23.out; omega)
         intro v294 w33 ho hb hg hat
         rw [← Ny293.out] at ho
         have n0_ := am (Kd.S_after (ok := (fun k_ => some k_ ≠ (.slice Ao34 t290.length co34 : Value).ownBlock)) (by refine kS ?_; exact Kd.S_mono HO_6.out (fun _ hk => ⟨hk.2, hk.1⟩)) hg hat)
         have n1_ := am (blk_grown (g := gb276) (o := .cells #[.string (⟨#[]⟩ : ByteArray), .slice none 0 0, .slice none 0 0] 42 (0, 0)) (by refine bk ?_; exact BK276.out) hg (Kd.S_ne HO_282002.out BK276.out (by decide)))
         have n2_ := am (blk_grown (g := gb281) (o := .cells #[.string t277, .slice Ao28 y286.length co28, u282002] 42 (0, 0)) (by refine bk ?_; exact BK281.out) hg (Kd.S_ne HO_282002.out BK281.out (by decide)))
         have n3_ := am (Kd.R_over' (by refine kR ?_; exact HO288.out) (Kd.S_typed (by refine kS ?_; exact HO_282002.out)) (by decide) hg)
         have n4_ := am (Kd.R_after (ok := (fun k_ => some k_ ≠ (.slice (some ad289) t283.length co24 : Value).ownBlock ∧ some k_ ≠ (.slice Ao34 t290.length co34 : Value).ownBlock)) (by refine kR ?_; exact Kd.R_mono HL289_0.out (fun _ hk => ⟨⟨hk.1.2, hk.2⟩, hk.1.1⟩)) hg hat)
         have n5_ := am (hb)
         have n6_ := am (ho)
         clear HO_6
         clear BK276
         clear BK281
         clear HO288
         clear HL289_0
         clear HB
         clear HO_282002
         clear HO292
         have HO_6 := n0_
         have BK276 := n1_
         have BK281 := n2_
         have HO288 := n3_
         have HL289_0 := n4_
         have HB := n5_
         have HO295 := n6_
         clear n0_ n1_ n2_ n3_ n4_ n5_ n6_
         clear ho hb hg hat
         obtain ⟨Ao35, co35, eo35⟩ := Kd.S_slice HO295.out
         (first | subst eo35 | (injection eo35 with f1_ f2_ f3_; have f4_ := f1_.symm; have f5_ := f3_.symm; clear f1_ f2_ f3_; subst f4_; subst f5_))
         refine hK.out _ _ ?_
         clear hK K
         refine norm_ (a' := ?_) ?_ ?_
         rotate_left
         ·show Act.put _ (some 42) _ = _
          simp only [Act.put, List.setIfInBounds_toArray, List.set_cons_zero, List.set_cons_succ, i64_w, i32_w]
          rfl
         refine pure_ (i := 9) (N := some 43) #[true, true, true, true, true, true, true, true, true, true, false] rfl rfl (aT HT_.out) (fun _ _ _ h => h) (Or.inl ⟨rfl, rn⟩) ap ?_
         refine last_ (i := 10) (N := none) #[true, true, true, true, true, true, true, true, true, true, true] rfl rfl (one_of HT_.out (by kernel_rfl)) (by decide) (fun K hK => ?_)
         have hs36 : w33.cell? ⟨gb281, 2, none⟩ = some (u282002) := (blk_cell BK281.out 2).trans rfl
         have hfs36 := blk_frozen BK281.out 2
         have hns36_0 := NB276_281.out
         have hms36_0 := NB281_276.out
         refine skip_ (w1 := ?_) (by rfl) rfl ?_ ?_
         rotate_left
         ·go_simp
          rfl
         refine hK.out _ _ ?_
         clear hK K
         refine done_ (done_of HT_.out (by kernel_rfl)) ?_
         try go_wp2
         go_roundg k1
         case measure => have := HK1.out; omega
         case rel => exact ⟨(wrap64 (x7_1 + 1)), (y286), (y293), (.slice Ao28 y286.length co28), (.slice Ao35 y293.length co35), pj, H', ⟨by have := HK1.out; omega⟩, ⟨by refine kS ?_; exact Kd.S_mono (Kd.S_far (p := ⟨gb281, 2, none⟩) (Kd.S_types HO_6.out BK281.out (by decide)) (fun _ hk => hk.2) (.slice Ao35 y293.length co35)) (fun _ hk => hk.1.2)⟩, ⟨by refine kR ?_; exact Kd.R_mono (Kd.R_far (p := ⟨gb281, 2, none⟩) (Kd.R_types HO288.out BK281.out (by decide)) (fun _ hk => hk.2) (.slice Ao35 y293.length co35)) (fun _ hk => trivial)⟩, ⟨by refine kS ?_; exact Kd.S_mono (Kd.S_far (p := ⟨gb281, 2, none⟩) (Kd.S_types HO295.out BK281.out (by decide)) (fun _ hk => hk.2) (.slice Ao35 y293.length co35)) (fun _ hk => hk.1)⟩, ⟨by refine bk ?_; refine blk_far ?_ NB276_281.out _; refine bk ?_; exact BK276.out⟩, ⟨by refine bk ?_; refine blk_put (cs := #[.string t277, .slice Ao28 y286.length co28, u282002]) ?_ 2 _ rfl; refine bk ?_; exact BK281.out⟩, ⟨bl⟩⟩
        ·rw [if_neg c23] at H
         exact absurd H (by simp)
       ·rw [if_neg c21] at H
        exact absurd H (by simp)
      ·rw [if_neg c20] at H
       exact absurd H (by simp)
     ·rw [if_neg c19] at H
      have c19b0 : decide (x7_1 < (t283.length : Int)) = false := decide_eq_false c19
      clear c19
      simp only [Option.some.injEq, Prod.mk.injEq] at H
      obtain ⟨rfl, rfl, rfl⟩ := H
      obtain ⟨Ao37, co37, eo37⟩ := Kd.S_slice HO_6.out
      subst eo37
      have hnb38 := NB281_276.out
      have hnc38 := NB276_281.out
      have hcz39_0 : wr.cell? ⟨gb281, 0, none⟩ = some (.string t277) := (blk_cell BK281.out 0).trans rfl
      have hcz39_1 : wr.cell? ⟨gb281, 1, none⟩ = some (u282001) := (blk_cell BK281.out 1).trans rfl
      have hcz39_2 : wr.cell? ⟨gb281, 2, none⟩ = some (u282002) := (blk_cell BK281.out 2).trans rfl
      have hfz39_0 := blk_frozen BK281.out 0
      have hfz39_1 := blk_frozen BK281.out 1
      have hfz39_2 := blk_frozen BK281.out 2
      have hcz40_0 : wr.cell? ⟨gb276, 0, none⟩ = some (.string (⟨#[]⟩ : ByteArray)) := (blk_cell BK276.out 0).trans rfl
      have hcz40_1 : wr.cell? ⟨gb276, 1, none⟩ = some (.slice none 0 0) := (blk_cell BK276.out 1).trans rfl
      have hcz40_2 : wr.cell? ⟨gb276, 2, none⟩ = some (.slice none 0 0) := (blk_cell BK276.out 2).trans rfl
      have hfz40_0 := blk_frozen BK276.out 0
      have hfz40_1 := blk_frozen BK276.out 1
      have hfz40_2 := blk_frozen BK276.out 2
      obtain ⟨Ao41, co41, eo41⟩ := Kd.R_slice HO_282001.out
      subst eo41
      obtain ⟨Ao42, co42, eo42⟩ := Kd.S_slice HO_282002.out
      subst eo42
      go_wp2
      refine bodyPost_ret (results_cell_row rfl _ _ gb276 42 #[.string t277, .slice Ao41 x282001_1.length co41, .slice Ao42 x282002_1.length co42] (0, 0) _ rfl (by refine bk ?_; refine blk_put (cs := #[.string t277, .slice Ao41 x282001_1.length co41, .slice none 0 0]) ?_ 2 _ rfl; refine bk ?_; refine blk_put (cs := #[.string t277, .slice none 0 0, .slice none 0 0]) ?_ 1 _ rfl; refine bk ?_; refine blk_put (cs := #[.string (⟨#[]⟩ : ByteArray), .slice none 0 0, .slice none 0 0]) ?_ 0 _ rfl; refine bk ?_; exact BK276.out) Tryd.underlying42 rfl (by kernel_rfl)) rfl ?_
      exact ⟨_, _, by first | rfl | (simp [errW_none, errW_some] <;> rfl) | (simp only [← hji3]; first | rfl | (simp [errW_none, errW_some] <;> rfl)) | (simp [*, errW_none, errW_some] <;> rfl), by refine kR ?_; exact Kd.R_mono (Kd.R_far (p := ⟨gb276, 2, none⟩) (Kd.R_far (p := ⟨gb276, 1, none⟩) (Kd.R_far (p := ⟨gb276, 0, none⟩) (Kd.R_types HO_282001.out BK276.out (by decide)) (fun _ hk => hk.2) (.string t277)) (fun _ hk => hk.2) (.slice Ao41 x282001_1.length co41)) (fun _ hk => hk.2) (.slice Ao42 x282002_1.length co42)) (fun _ hk => trivial), by refine kS ?_; exact Kd.S_mono (Kd.S_far (p := ⟨gb276, 2, none⟩) (Kd.S_far (p := ⟨gb276, 1, none⟩) (Kd.S_far (p := ⟨gb276, 0, none⟩) (Kd.S_types HO_282002.out BK276.out (by decide)) (fun _ hk => hk.2) (.string t277)) (fun _ hk => hk.2) (.slice Ao41 x282001_1.length co41)) (fun _ hk => hk.2) (.slice Ao42 x282002_1.length co42)) (fun _ hk => trivial), bl⟩
  ·rw [if_neg c5] at H
   exact absurd H (by simp)
 ·rw [if_neg c4] at H
  exact absurd H (by simp)
section
variable {ops : Array Oper} {rest : List Oper} {o : Oper} {a : Act} {Q : Exit → Act → World → Prop} {W : World}
theorem runes_conv' (base : Nat) (hgd : o.guard = none) (x : Operand) (ho : o.op = .convert 9 87 x) (s : ByteArray) (hx : a.eval x = .string s) (hs : s.size ≤ 70368744177664) (hbase : base ≤ W.heap.size)
  (h : ∀ v w1, Kd.R (Kd.int .i32) 21 w1 base (fun k => W.heap.size ≤ k) v (runesS s) → Below W.heap.size W w1 → W.heap.size < w1.heap.size → wpList Tryd.prog ops Q rest (a.put o.dst v) w1) : wpList Tryd.prog ops Q (o :: rest) a W := by
 have hl : (runesS s).length ≤ s.size := runesP_len s s.size 0
 have hsz : (Conv.runesFrom s s.size 0 #[]).size = (runesS s).length := by rw [runesS_eq]; simp
 have hr := run_runes_of_string (P := Tryd.prog) W 9 87 21 s Tryd.underlying9 Tryd.underlying87 Tryd.underlying21 (by rw [hsz]; omega)
 rw [hsz] at hr
 have hge := grownCap_ge W (runesS s).length 0 21
 have hle := grownCap_le_maxLen W (runesS s).length 0 21 (by unfold maxLen; omega)
 generalize grownCap W (runesS s).length 0 21 = cap at hr hge hle
 rw [runesS_eq] at hr
 have hb : Below W.heap.size W (W.drew.alloc (.cells (((runesS s).map (Value.int .i32)).toArray ++ Array.replicate (cap - (runesS s).length) (.int .i32 0)) 21)) := below_alloc (below_drew (Below.refl _ _)) _
 refine wpList_plain hgd fun K hK => ?_
 unfold Oper.wp execOp
 simp only [ho, hx, Sem.run_bind, Sem.run_pure, Result.andThen_ok, hr]
 refine hK _ _ (h _ _ ?_ hb ?_)
 ·refine Kd.R_of_own (h1 := fun _ => rfl) ?_ (fun k hk => ?_)
  ·refine ⟨by rw [encs_length]; omega, .inr ⟨W.heap.size, cap, _, rfl, hbase, heap_alloc_new _ _, by omega, hle, ?_, ?_⟩⟩
   ·simp; omega
   ·simp [encs]
  ·simp [Value.ownBlock] at hk; omega
 ·show W.heap.size < (W.heap.push _).size
  rw [Array.size_push]; omega
end
def apply_To.l : List S25 → List Int → List Int → Option (List Int)
 | [], _, out => some out
 | x :: l, rest, out => if 0 ≤ x.f1 ∧ x.f1 ≤ (rest.length : Int) ∧ out.length < 1000000000 ∧ x.f2.size < 1000000000 ∧ rest.length < 1000000000 then (if x.f0 = 2 then apply_To.l l (rest.drop x.f1.toNat) (out ++ runesS x.f2) else if x.f0 = 1 then apply_To.l l (rest.drop x.f1.toNat) (out ++ rest.take x.f1.toNat) else apply_To.l l (rest.drop x.f1.toNat) out) else none
def apply_To.f (k : Nat) (l0 : List S25) (a1 : ByteArray) : Option (ByteArray × Int) :=
 (op_May.f k l0).bind fun e => if e = 0 then (points_Count.f a1).bind fun n => (if n < 0 then some ((⟨#[]⟩ : ByteArray), 3) else (op_In.f l0).bind fun m => (if n = m then (if a1.size ≤ 70368744177664 ∧ l0.length < 1000000000 then (apply_To.l l0 (runesS a1) []).bind fun o => some (runesBytes o, 0) else none) else some ((⟨#[]⟩ : ByteArray), 5))) else some ((⟨#[]⟩ : ByteArray), e)
def AT (w0 W : World) (B : Nat) (vr vo : Value) (rest out : List Int) : Prop :=
 Kd.Q (Kd.int .i32) 21 W w0.heap.size (fun k => k = B) vr rest ∧ Kd.R (Kd.int .i32) 21 W w0.heap.size (fun k => k ≠ B) vo out ∧ Below w0.heap.size w0 W ∧ B < W.heap.size
theorem AT_below {w0 W W1 : World} {B : Nat} {vr vo : Value} {rest out : List Int} (h : AT w0 W B vr vo rest out) (hb : Below W.heap.size W W1) : AT w0 W1 B vr vo rest out :=
 ⟨Kd.Q_below h.1 hb, Kd.R_below h.2.1 hb, below_then h.2.2.1 h.2.2.1.size hb, Nat.lt_of_lt_of_le h.2.2.2 hb.size⟩
theorem AT_app {w0 W W1 : World} {B : Nat} {vr vo vo1 : Value} {rest out out1 : List Int} (h : AT w0 W B vr vo rest out) (hO : Kd.R (Kd.int .i32) 21 W1 w0.heap.size (fun k => k ≠ B) vo1 out1) (hB : Below w0.heap.size w0 W1) (hg : W.grownBy W1 vo.ownBlock) : AT w0 W1 B vr vo1 rest out1 :=
 ⟨Kd.Q_grown h.1 hg (fun k hk e => h.2.1.1 k e.symm hk), hO, hB, Nat.lt_of_lt_of_le h.2.2.2 hg.size⟩
theorem AT_cut {w0 W : World} {B n : Nat} {A : Option Addr} {c : Nat} {vo : Value} {rest out : List Int} (h : AT w0 W B (.slice A rest.length c) vo rest out) (hn : n ≤ rest.length) : ∃ (A3 : Option Addr) (c3 : Nat), (∀ W', (Instr.slice 87 (.slice A rest.length c) (some (.int .i64 (n : Int))) none none).run Tryd.prog W' = .ok (.slice A3 (rest.length - n) c3) W') ∧ AT w0 W B (.slice A3 (rest.length - n) c3) vo (rest.drop n) out := by
 obtain ⟨i0, hi0, _, hsz, _⟩ := info_parts info21
 have h1 := cut_from (P := Tryd.prog) 87 21 .i64 Tryd.underlying87 hi0 1 hsz A rest.length c (n : Int) (by omega) (by omega)
 rw [Int.toNat_natCast] at h1
 have h2 := Kd.Q_drop (k := n) h.1 hn
 exact ⟨_, _, h1, h2, h.2⟩
theorem apply_To.next (l : List S25) (j : Nat) (h : j < l.length) : l.drop j = rd_T25 l (j : Int) :: l.drop (j + 1) := op_sum.next l j h
theorem apply_To.start {w0 w w1 : World} {v : Value} {s : List Int} (hO : Kd.R (Kd.int .i32) 21 w1 w0.heap.size (fun k => w.heap.size ≤ k) v s) (hB : Below w0.heap.size w0 w) (hb : Below w.heap.size w w1) (hlt : w.heap.size < w1.heap.size) : AT w0 w1 ((v.ownBlock).getD w.heap.size) v (.slice none 0 0) s [] := by
 refine ⟨Kd.Q_mono (Kd.Q_tight rfl (Kd.Q_of_R hO)) (fun k e => by rw [← e]; rfl), Kd.R_nil _ _ _ _ _, below_then hB hB.size hb, ?_⟩
 cases hv : v.ownBlock with
 | none => exact hlt
 | some b => exact Kd.Q_lt (Kd.Q_of_R hO) b hv
theorem apply_To.big {n : Nat} (h : n < 1000000000) : n ≤ 70368744177664 := by omega
theorem apply_To.fresh {w0 W : World} {B : Nat} {vr vo : Value} {rest out : List Int} (h : AT w0 W B vr vo rest out) : ∀ k, W.heap.size ≤ k → k ≠ B := by
 have := h.2.2.2
 intro k hk; omega
theorem apply_To.room2 {a : Nat} {s : ByteArray} (h1 : a < 1000000000) (h2 : s.size < 1000000000) : (a + (runesS s).length) * 4 ≤ 140737488355328 := by
 have := runesP_len s s.size 0
 unfold runesS
 omega
theorem apply_To.room3 {a n : Nat} {l : List Int} (h1 : a < 1000000000) (h2 : l.length < 1000000000) (h3 : n ≤ l.length) : (a + n) * 4 ≤ 140737488355328 := by omega
theorem fuse_Of.wrap' {j n : Nat} (h : j < n) (hn : n < 1000000000) : wrap64 ((j : Int) + 1) = ((j + 1 : Nat) : Int) := by unfold wrap64; omega
theorem apply_To.head {w0 W : World} {B n : Nat} {A : Option Addr} {c : Nat} {vo : Value} {rest out : List Int} (h : AT w0 W B (.slice A rest.length c) vo rest out) (hn : n ≤ rest.length) : Kd.C (Kd.int .i32) W A n (rest.take n) := by
 have h2 := Kd.Q_take (m := n) h.1 hn
 have h3 := Kd.Q_reads' h2
 have e : (rest.take n).length = n := by rw [List.length_take]; omega
 rw [e] at h3
 exact h3.2.2
theorem apply_To.same {w0 W : World} {B n : Nat} {A A3 A6 : Option Addr} {c c3 c6 : Nat} {vo : Value} {rest out : List Int}
  (h3 : ∀ W', (Instr.slice 87 (.slice A rest.length c) (some (.int .i64 (n : Int))) none none).run Tryd.prog W' = .ok (.slice A3 (rest.length - n) c3) W')
  (h6 : ∀ W', (Instr.slice 87 (.slice A rest.length c) (some (.int .i64 (n : Int))) none none).run Tryd.prog W' = .ok (.slice A6 (rest.length - n) c6) W')
  (h : AT w0 W B (.slice A6 (rest.length - n) c6) vo (rest.drop n) out) : AT w0 W B (.slice A3 (rest.length - n) c3) vo (rest.drop n) out := by
 have e := (h3 W).symm.trans (h6 W)
 injection e with e1 _
 injection e1 with e1 _ e2
 rw [e1, e2]; exact h
theorem apply_To.ne {w0 W : World} {B : Nat} {vr vo : Value} {rest out : List Int} (h : AT w0 W B vr vo rest out) : some W.heap.size ≠ vo.ownBlock := fun e => by
 have := Kd.Q_lt (Kd.Q_of_R h.2.1) _ e.symm
 omega
set_option maxHeartbeats 8000000 in
set_option maxRecDepth 100000 in
theorem apply_To.calls (k : Nat) (A0 : Option Addr) (c0 : Nat) (l0 : List S25) (a1 : ByteArray) (r1 : ByteArray) (r2 : Int) (w : World) (hr0 : Kd.C k25 w A0 l0.length l0) (hc0 : l0.length ≤ c0) (hT : Tabs w) (h : apply_To.f k l0 a1 = some (r1, r2)) :
  Calls Tryd.prog 50 #[.slice A0 l0.length c0, .string a1] w fun e w' => e = .returned (.tuple #[.string r1, .int .i64 r2]) ∧ Below w.heap.size w w' := by
 unfold apply_To.f at h
 obtain ⟨e0, he0, h⟩ := Option.bind_eq_some_iff.mp h
 have HR0 := am hr0; have HC0 := am hc0; have HT := am hT; have HE0 := am he0
 clear hr0 hc0 hT he0
 by_cases z0 : e0 = 0
 ·rw [if_pos z0] at h
  subst z0
  obtain ⟨n, hn, h⟩ := Option.bind_eq_some_iff.mp h
  have HN := am hn
  clear hn
  by_cases z1 : n < 0
  ·rw [if_pos z1] at h
   simp only [Option.some.injEq, Prod.mk.injEq] at h
   obtain ⟨rfl, rfl⟩ := h
   have z1b : decide (n < 0) = true := decide_eq_true z1
   clear z1
   go_enter Tryd.func50, Tryd.ntmps50
   go_wp2_with (first | (go_at_call 46; (with_reducible refine (op_May.calls k A0 c0 l0 0 _ HR0.out HC0.out HT.out HE0.out).mono ?_); rintro e w1 ⟨rfl, hb⟩; have HB1 := am hb; clear hb) | (go_at_call 10; (with_reducible refine (points_Count.calls a1 n _ (Tabs.below HT.out HB1.out) HN.out).mono ?_); rintro e w2 ⟨rfl, hb⟩; have HB2 := am (below_then HB1.out HB1.out.size hb); clear hb))
   go_ret2
   exact ⟨rfl, HB2.out⟩
  ·rw [if_neg z1] at h
   have z1b : decide (n < 0) = false := decide_eq_false z1
   clear z1
   obtain ⟨m, hm, h⟩ := Option.bind_eq_some_iff.mp h
   have HM := am hm
   clear hm
   by_cases z2 : n = m
   ·rw [if_pos z2] at h
    have z2b : (n != m) = false := bne_eq_false_iff_eq.mpr z2
    clear z2
    by_cases z3 : a1.size ≤ 70368744177664 ∧ l0.length < 1000000000
    ·rw [if_pos z3] at h
     obtain ⟨o, ho, h⟩ := Option.bind_eq_some_iff.mp h
     simp only [Option.some.injEq, Prod.mk.injEq] at h
     obtain ⟨rfl, rfl⟩ := h
     have HZ3 := am z3; have H := am ho
     clear z3 ho
     go_enter Tryd.func50, Tryd.ntmps50
     go_wp2_with (first | (go_at_call 46; (with_reducible refine (op_May.calls k A0 c0 l0 0 _ HR0.out HC0.out HT.out HE0.out).mono ?_); rintro e w1 ⟨rfl, hb⟩; have HB1 := am hb; clear hb) | (go_at_call 10; (with_reducible refine (points_Count.calls a1 n _ (Tabs.below HT.out HB1.out) HN.out).mono ?_); rintro e w2 ⟨rfl, hb⟩; have HB2 := am (below_then HB1.out HB1.out.size hb); clear hb) | (go_at_call 20; (with_reducible refine (op_In.calls A0 c0 l0 m _ (Kd.C_below HR0.out HB2.out) HC0.out (Tabs.below HT.out HB2.out) HM.out).mono ?_); rintro e w3 ⟨rfl, hb⟩; have HB3 := am (below_then HB2.out HB2.out.size hb); clear hb) | ((with_reducible refine gate_dst (N := 28) rfl ?_); refine runes_conv' w.heap.size rfl (.tmp 27) rfl a1 rfl HZ3.out.1 HB3.out.size ?_; intro v4 w4 ho hb hlt; have HAT := am (apply_To.start ho HB3.out hb hlt); clear ho hb hlt))
     go_loopw [8, 9, 11, 31] (fun v8 v9 _ v31 wr => ∃ j : Nat, v31 = .int .i64 j ∧ j ≤ l0.length ∧ ∃ (B : Nat) (rest out : List Int), Aside0 (apply_To.l (l0.drop j) rest out = some o) ∧ Aside0 (AT w wr B v8 v9 rest out)) (fun _ _ _ v31 _ => l0.length - (intOf v31).toNat)
     case atStart => exact ⟨0, rfl, Nat.zero_le _, _, _, _, H, HAT⟩
     case round =>
      clear H HAT
      obtain ⟨j, rfl, hj, B, rst, out, HA, HAT⟩ := hrel
      obtain ⟨Ar, cr, rfl, hcr⟩ := Kd.Q_slice HAT.out.1
      obtain ⟨Ao, co, rfl, hco, _⟩ := Kd.R_reads HAT.out.2.1
      by_cases hlt : j < l0.length
      ·have hltb : decide ((j : Int) < (l0.length : Int)) = true := decide_eq_true (by omega)
       have HL := am hlt
       have h := HA.out
       clear HA
       rw [apply_To.next l0 j hlt] at h
       obtain ⟨ad, rfl, hx0, hx1, hx2⟩ := at_T25 (Kd.C_below HR0.out HAT.out.2.2.1) (j : Int) (by omega) (by omega)
       rw [Int.toNat_natCast] at hx0 hx1 hx2
       have p1 : (0 ≤ (j : Int)) = True := eq_true (by omega)
       have p2 : ((j : Int) < (l0.length : Int)) = True := eq_true (by omega)
       have p3 : (j < l0.length) = True := eq_true hlt
       have ew := fuse_Of.wrap' hlt HZ3.out.2
       clear hlt hj
       generalize rd_T25 l0 (j : Int) = x at *
       rw [apply_To.l] at h
       by_cases g : 0 ≤ x.f1 ∧ x.f1 ≤ (rst.length : Int) ∧ out.length < 1000000000 ∧ x.f2.size < 1000000000 ∧ rst.length < 1000000000
       ·rw [if_pos g] at h
        obtain ⟨f0, f1, f2⟩ := x
        dsimp only at g h hx0 hx1 hx2
        obtain ⟨nn, rfl⟩ := Int.eq_ofNat_of_zero_le g.1
        rw [Int.toNat_natCast] at h
        have hnn : nn ≤ rst.length := by omega
        obtain ⟨A3, c3, hcut3, hAT3⟩ := AT_cut HAT.out hnn
        have HG := am g; have HNN := am hnn
        clear g hAT3
        by_cases k2 : f0 = 2
        ·subst k2
         rw [if_pos rfl] at h
         have HE := am h
         clear h
         go_wp2_with (first | ((with_reducible refine gate_dst (N := 42) rfl ?_); refine runes_conv' w.heap.size rfl (.tmp 41) rfl f2 rfl (apply_To.big HG.out.2.2.2.1) (below_alloc HAT.out.2.2.1 _).size ?_; intro v4 w4 ho hb hlt; obtain ⟨A4, c4, rfl, hc4, hC4⟩ := Kd.R_reads ho; have HC4 := am hC4; have HAT4 := am (AT_below (AT_below HAT.out (below_alloc (Below.refl _ _) _)) hb); have HXB := am (blk_below (heap_alloc_new wr _) hb); clear ho hb hlt hc4 hC4) | ((with_reducible refine gate_builtin (b := .append) (xs := #[.tmp 39, .tmp 42]) rfl ?_); at_builtin; refine Kd.R_append_rows (Kd.int .i32) (w0 := w) w.heap.size rfl (.tmp 39) (.tmp 42) 87 21 (.int .i32 0) 4 rfl Tryd.underlying87 info21 rfl (by decide) (by omega) (.slice Ao out.length co) out (runesS f2) _ _ _ (fun k_ => k_ ≠ B) (fun _ => False) rfl rfl ?aO ?aR (fun _ _ h => h) (fun _ h => h.elim) ?aF ?aB ?aS ?aL ?_; (case aR => exact HC4.out); (case aB => exact HAT4.out.2.2.1); (case aF => exact apply_To.fresh HAT4.out); (case aO => exact HAT4.out.2.1); (case aS => exact HAT4.out.2.2.1.size); (case aL => exact apply_To.room2 HG.out.2.2.1 HG.out.2.2.2.1); intro v5 w5 ho hb hg hat; have HAT5 := am (AT_app HAT4.out ho hb hg); obtain ⟨y0, y1, y2⟩ := compose_Of.cells (blk_grown HXB.out hg (apply_To.ne HAT.out)); clear ho hb hg hat))
         go_round
         case measure => exact op_sum.less HL.out ew
         case rel =>
          obtain ⟨A6, c6, hcut6, hAT6⟩ := AT_cut HAT5.out HNN.out
          exact ⟨j + 1, by rw [ew], HL.out, B, rst.drop nn, _, HE, ⟨apply_To.same hcut3 hcut6 hAT6⟩⟩
        ·rw [if_neg k2] at h
         have k2b : (f0 == 2) = false := beq_eq_false_iff_ne.mpr k2
         clear k2
         by_cases k1 : f0 = 1
         ·subst k1
          rw [if_pos rfl] at h
          have HE := am h
          clear h
          obtain ⟨i0, hi0, _, hsz, _⟩ := info_parts info21
          have hcut7 := cut_to (P := Tryd.prog) 87 21 .i64 Tryd.underlying87 hi0 Ar rst.length cr (nn : Int) (by omega) (by omega) hcr
          rw [Int.toNat_natCast] at hcut7
          clear hi0 hsz
          have HCT := am (fun (o1 : Obj) => apply_To.head (AT_below HAT.out (below_alloc (Below.refl _ _) o1)) HNN.out)
          go_wp2_with ((with_reducible refine gate_builtin (b := .append) (xs := #[.tmp 46, .tmp 50]) rfl ?_); at_builtin; refine Kd.R_append_rows (Kd.int .i32) (w0 := w) w.heap.size rfl (.tmp 46) (.tmp 50) 87 21 (.int .i32 0) 4 rfl Tryd.underlying87 info21 rfl (by decide) (by omega) (.slice Ao out.length co) out (rst.take nn) Ar nn cr (fun k_ => k_ ≠ B) (fun _ => False) rfl rfl ?aO ?aR (fun _ _ h => h) (fun _ h => h.elim) ?aF ?aB ?aS ?aL ?_; (case aR => exact HCT.out _); (case aB => exact (AT_below HAT.out (below_alloc (Below.refl _ _) _)).2.2.1); (case aF => exact apply_To.fresh (AT_below HAT.out (below_alloc (Below.refl _ _) _))); (case aO => exact (AT_below HAT.out (below_alloc (Below.refl _ _) _)).2.1); (case aS => exact (AT_below HAT.out (below_alloc (Below.refl _ _) _)).2.2.1.size); (case aL => exact apply_To.room3 HG.out.2.2.1 HG.out.2.2.2.2 HNN.out); intro v5 w5 ho hb hg hat; have HAT5 := am (AT_app (AT_below HAT.out (below_alloc (Below.refl _ _) _)) ho hb hg); obtain ⟨y0, y1, y2⟩ := compose_Of.cells (blk_grown (heap_alloc_new wr _) hg (apply_To.ne HAT.out)); clear ho hb hg hat)
          go_round
          case measure => exact op_sum.less HL.out ew
          case rel =>
           obtain ⟨A6, c6, hcut6, hAT6⟩ := AT_cut HAT5.out HNN.out
           exact ⟨j + 1, by rw [ew], HL.out, B, rst.drop nn, _, HE, ⟨apply_To.same hcut3 hcut6 hAT6⟩⟩
         ·rw [if_neg k1] at h
          have k1b : (f0 == 1) = false := beq_eq_false_iff_ne.mpr k1
          clear k1
          have HE := am h
          clear h
          go_wp2
          go_round
          case measure => exact op_sum.less HL.out ew
          case rel =>
           obtain ⟨A6, c6, hcut6, hAT6⟩ := AT_cut (AT_below HAT.out (below_alloc (Below.refl _ _) _)) HNN.out
           exact ⟨j + 1, by rw [ew], HL.out, B, rst.drop nn, out, HE, ⟨apply_To.same hcut3 hcut6 hAT6⟩⟩
       ·rw [if_neg g] at h; cases h
      ·have hltb : decide ((j : Int) < (l0.length : Int)) = false := decide_eq_false (by omega)
       have h := HA.out
       clear HA
       rw [List.drop_of_length_le (by omega), apply_To.l] at h
       obtain rfl := Option.some.inj h
       have hcv := fun (m_ : Nat) => runes_str (Kd.Q_mono (Kd.Q_of_R HAT.out.2.1) (fun _ _ => trivial)) out.length (Nat.le_refl _) m_
       rw [List.take_length] at hcv
       have hcv0 := hcv 0
       have hcv1 : (convert 87 9 (.slice Ao out.length co)).run Tryd.prog wr = .ok (.string (runesBytes out)) wr := hcv 0
       go_wp2
       go_ret2
       exact ⟨rfl, by repeat (first | exact HAT.out.2.2.1 | apply pw_below_drewN)⟩
    ·rw [if_neg z3] at h; cases h
   ·rw [if_neg z2] at h
    simp only [Option.some.injEq, Prod.mk.injEq] at h
    obtain ⟨rfl, rfl⟩ := h
    have z2b : (n != m) = true := bne_iff_ne.mpr z2
    clear z2
    go_enter Tryd.func50, Tryd.ntmps50
    go_wp2_with (first | (go_at_call 46; (with_reducible refine (op_May.calls k A0 c0 l0 0 _ HR0.out HC0.out HT.out HE0.out).mono ?_); rintro e w1 ⟨rfl, hb⟩; have HB1 := am hb; clear hb) | (go_at_call 10; (with_reducible refine (points_Count.calls a1 n _ (Tabs.below HT.out HB1.out) HN.out).mono ?_); rintro e w2 ⟨rfl, hb⟩; have HB2 := am (below_then HB1.out HB1.out.size hb); clear hb) | (go_at_call 20; (with_reducible refine (op_In.calls A0 c0 l0 m _ (Kd.C_below HR0.out HB2.out) HC0.out (Tabs.below HT.out HB2.out) HM.out).mono ?_); rintro e w3 ⟨rfl, hb⟩; have HB3 := am (below_then HB2.out HB2.out.size hb); clear hb))
    go_ret2
    exact ⟨rfl, HB3.out⟩
 ·rw [if_neg z0] at h
  simp only [Option.some.injEq, Prod.mk.injEq] at h
  obtain ⟨rfl, rfl⟩ := h
  have z0b : (e0 != 0) = true := bne_iff_ne.mpr z0
  clear z0
  go_enter Tryd.func50, Tryd.ntmps50
  go_wp2_with (go_at_call 46; (with_reducible refine (op_May.calls k A0 c0 l0 e0 _ HR0.out HC0.out HT.out HE0.out).mono ?_); rintro e w1 ⟨rfl, hb⟩; have HB1 := am hb; clear hb)
  go_ret2
  exact ⟨rfl, HB1.out⟩
mutual
def apply_All.j0 : Nat → ByteArray → List (List (S25)) → Bool → Option (ByteArray × Int)
 | 0, _, _, _ => none
 | k + 1, x0, x1, x17 => if x17 = true then (some ((⟨#[]⟩ : ByteArray), 3)) else (apply_All.l0 k x0 x1 (x1.length : Int) 0)
def apply_All.l0 : Nat → ByteArray → List (List (S25)) → Int → Int → Option (ByteArray × Int)
 | 0, _, _, _, _ => none
 | k + 1, x0, x18, x19, x20 => if x20 < x19 then (if 0 ≤ x20 then (if x20 < (x18.length : Int) then ((apply_To.f k (rd_L3 x18 x20) x0).bind fun bt298 => (if bt298.2 = 0 then (apply_All.l0 k bt298.1 x18 x19 (wrap64 (x20 + 1))) else (some ((⟨#[]⟩ : ByteArray), bt298.2)))) else (none)) else (none)) else (some (x0, 0))
end
def apply_All.f (k : Nat) (a0 : ByteArray) (l1 : List (List (S25))) : Option (ByteArray × Int) := if (l1.length : Int) = 0 then ((points_Valid.f a0).bind fun t296 => (apply_All.j0 k a0 l1 (!t296))) else (apply_All.j0 k a0 l1 false)
set_option maxHeartbeats 8000000 in
set_option maxRecDepth 100000 in
theorem apply_All.calls (k : Nat) (a0 : ByteArray) (A1 : Option Addr) (c1 : Nat) (l1 : List (List (S25))) (r1 : ByteArray) (r2 : Int) (w : World) (hr1 : Kd.C (Kd.slice 25 k25) w A1 l1.length l1) (hc1 : l1.length ≤ c1) (hT : Tabs w) (h : apply_All.f k a0 l1 = some (r1, r2)) :
  Calls Tryd.prog 14 #[.string a0, .slice A1 l1.length c1] w fun e w' => e = .returned (.tuple #[.string r1, .int .i64 r2]) ∧ Below w.heap.size w w' := by
 have HT := am hT
 clear hT
 have HR1 := am hr1
 have HC1 := am hc1
 clear hr1 hc1
 have HB := am (Below.refl w.heap.size w)
 have H : (if (l1.length : Int) = 0 then ((points_Valid.f a0).bind fun t296 => (apply_All.j0 k a0 l1 (!t296))) else (apply_All.j0 k a0 l1 false)) = some (r1, r2) := h
 clear h
 have HC3 := am H
 clear H
 go_enter Tryd.func14, Tryd.ntmps14
 go_upto_region 1 with (fail)
 go_cut [17] (fun v17 wc => ∃ (kq : Nat) (x17_2 : Bool), v17 = .bool x17_2 ∧ Aside0 (apply_All.j0 kq a0 l1 x17_2 = some (r1, r2)) ∧ Aside0 (kq ≤ k) ∧ Aside0 (Below w.heap.size w wc))
 case first =>
  have H := HC3.out
  clear HC3
  by_cases c4 : (l1.length : Int) = 0
  ·rw [if_pos c4] at H
   have c4b0 : ((l1.length : Int) == 0) = true := beq_iff_eq.mpr c4
   have c4b1 : ((l1.length : Int) != 0) = false := bne_eq_false_iff_eq.mpr c4
   clear c4
   (first | rw [c4b0] | (simp only [i64_w, i32_w]; rw [c4b0]) | skip)
   replace H := Option.bind_eq_some_iff.mp H
   obtain ⟨t296, A50, H⟩ := H
   replace H : (apply_All.j0 k a0 l1 (!t296)) = some (r1, r2) := H
   have A5 := am A50
   clear A50
   have H' := am H
   clear H
   go_wp2_with (first | (go_at_call 41; (with_reducible refine (points_Valid.calls a0 t296 _ ?side1 A5.out).mono ?_); (case side1 => exact Tabs.below HT.out bl); rintro e w6 ⟨rfl, hb⟩; have n0_ := am (below_step bl hb); clear HB; have HB := n0_; clear n0_; (try clear hb); (try clear hb2); (try clear hk); (try clear hi)))
   go_meet
   case rel => exact ⟨_, (!t296), pj, H', ⟨by first | omega | exact Nat.le_refl _⟩, ⟨bl⟩⟩
  ·rw [if_neg c4] at H
   have c4b0 : ((l1.length : Int) == 0) = false := beq_eq_false_iff_ne.mpr c4
   have c4b1 : ((l1.length : Int) != 0) = true := bne_iff_ne.mpr c4
   have c4b2 : ¬ (l1 = []) := fun h_ => c4 (by rw [h_]; rfl)
   (first | rw [c4b0] | (simp only [i64_w, i32_w]; rw [c4b0]) | skip)
   have H' := am H
   clear H
   go_wp2
   go_meet
   case rel => exact ⟨_, (false), pj, H', ⟨by first | omega | exact Nat.le_refl _⟩, ⟨bl⟩⟩
 case rest =>
  clear HC3
  try clear c1
  try clear p2
  try clear c4
  try clear c4b0
  try clear c4b1
  try clear c4b2
  obtain ⟨kq, x17_2, rfl, HA, HJ2, HB⟩ := hcut
  cases kq with
  | zero => exact absurd HA.out (by simp [apply_All.j0])
  | succ kj2 =>
   have H := HA.out
   clear HA
   simp only [apply_All.j0] at H
   by_cases c7 : x17_2 = true
   ·subst c7
    have H1 : (some ((⟨#[]⟩ : ByteArray), 3)) = some (r1, r2) := by rw [if_pos rfl] at H; exact H
    clear H
    have H := H1
    clear H1
    simp only [Option.some.injEq, Prod.mk.injEq] at H
    obtain ⟨rfl, rfl⟩ := H
    go_wp2
    go_ret2
    exact ⟨by first | rfl | (simp [errW_none, errW_some] <;> rfl) | (simp [*, errW_none, errW_some] <;> rfl), bl⟩
   ·replace c7 := Bool.eq_false_iff.mpr c7
    subst c7
    have H1 : (apply_All.l0 kj2 a0 l1 (l1.length : Int) 0) = some (r1, r2) := by rw [if_neg (show ¬ (false = true) by decide)] at H; exact H
    clear H
    have H := H1
    clear H1
    have H' := am H
    clear H
    go_wp2
    go_loopg [0, 20] kj2 (fun kq v0 v20 w' => ∃ (x0_2 : ByteArray) (x20_2 : Int), v0 = .string x0_2 ∧ v20 = .int .i64 x20_2 ∧ Aside0 (apply_All.l0 kq x0_2 l1 (l1.length : Int) x20_2 = some (r1, r2)) ∧ Aside0 (kq ≤ kj2) ∧ Aside0 (Below w.heap.size w w'))
    case atStart => exact ⟨(a0), (0), pj, pj, H', ⟨Nat.le_refl _⟩, ⟨bl⟩⟩
    case round =>
     clear H'
     try clear c1
     try clear p2
     try clear c4
     try clear c4b0
     try clear c4b1
     try clear c4b2
     try clear c7
     try clear p2
     obtain ⟨x0_2, x20_2, rfl, rfl, HA, HK2, HB⟩ := hrel
     cases gk with
     | zero => exact absurd HA.out (by simp [apply_All.l0])
     | succ k2 =>
      have H := HA.out
      clear HA
      simp only [apply_All.l0] at H
      by_cases c8 : x20_2 < (l1.length : Int)
      ·rw [if_pos c8] at H
       have c8b0 : decide (x20_2 < (l1.length : Int)) = true := decide_eq_true c8
       clear c8
       by_cases c9 : 0 ≤ x20_2
       ·rw [if_pos c9] at H
        have c9b0 : decide (0 ≤ x20_2) = true := decide_eq_true c9
        clear c9
        by_cases c10 : x20_2 < (l1.length : Int)
        ·rw [if_pos c10] at H
         have c10b0 : decide (x20_2 < (l1.length : Int)) = true := decide_eq_true c10
         clear c10
         replace H := Option.bind_eq_some_iff.mp H
         obtain ⟨⟨t298, t299⟩, A110, H⟩ := H
         replace H : (if t299 = 0 then (apply_All.l0 k2 t298 l1 (l1.length : Int) (wrap64 (x20_2 + 1))) else (some ((⟨#[]⟩ : ByteArray), t299))) = some (r1, r2) := H
         have A11 := am A110
         clear A110
         by_cases c12 : t299 = 0
         ·rw [if_pos c12] at H
          have c12b0 : (t299 == 0) = true := beq_iff_eq.mpr c12
          have c12b1 : (t299 != 0) = false := bne_eq_false_iff_eq.mpr c12
          clear c12
          have H' := am H
          clear H
          have p297 : 0 ≤ (x20_2 : Int) := of_decide_eq_true as0
          have q297 : x20_2 < (l1.length : Int) := of_decide_eq_true as0
          obtain ⟨ad297, A297_0, c297_0, e297, hx297_0, hl297_0, hi297_0⟩ := at_L3 HR1.out x20_2 p297 q297
          cases e297
          replace hx297_0 := (HB.out.cell (World.block_lt_of_cell? w _ hx297_0)).trans hx297_0
          have HR297_0 := am hi297_0
          have HC297_0 := am hl297_0
          clear hi297_0 hl297_0
          replace p297 := eq_true p297
          replace q297 := eq_true q297
          go_wp2_with (first | ((with_reducible refine gate_callee (f := 50) rfl ?_); refine goesL_ (some 27) rfl rfl Tryd.func50 (by kernel_rfl) rfl #[.slice A297_0 (rd_L3 l1 x20_2).length c297_0, .string x0_2] rfl ar ?_; (with_reducible refine (apply_To.calls k2 _ _ (rd_L3 l1 x20_2) x0_2 t298 t299 _ ?side1 ?side2 ?side3 A11.out).mono ?_); (case side1 => repeat (first | exact (Kd.C_below HR297_0.out HB.out) | (with_reducible refine Kd.C_alloc ?_ _) | (with_reducible refine Kd.C_drewN ?_ _) | (with_reducible refine Kd.C_drew ?_))); (case side2 => exact HC297_0.out); (case side3 => exact Tabs.below HT.out bl); rintro e w13 ⟨rfl, hb⟩; refine ⟨_, rfl, ?_⟩; have n0_ := am (below_step bl hb); clear HB; have HB := n0_; clear n0_; (try clear hb); (try clear hb2); (try clear hk); (try clear hi)))
          go_roundg k2
          case measure => have := HJ2.out; have := HK2.out; omega
          case rel => exact ⟨(t298), (wrap64 (x20_2 + 1)), pj, pj, H', ⟨by have := HJ2.out; have := HK2.out; omega⟩, ⟨bl⟩⟩
         ·rw [if_neg c12] at H
          have c12b0 : (t299 == 0) = false := beq_eq_false_iff_ne.mpr c12
          have c12b1 : (t299 != 0) = true := bne_iff_ne.mpr c12
          simp only [Option.some.injEq, Prod.mk.injEq] at H
          obtain ⟨rfl, rfl⟩ := H
          have p297 : 0 ≤ (x20_2 : Int) := of_decide_eq_true as0
          have q297 : x20_2 < (l1.length : Int) := of_decide_eq_true as0
          obtain ⟨ad297, A297_0, c297_0, e297, hx297_0, hl297_0, hi297_0⟩ := at_L3 HR1.out x20_2 p297 q297
          cases e297
          replace hx297_0 := (HB.out.cell (World.block_lt_of_cell? w _ hx297_0)).trans hx297_0
          have HR297_0 := am hi297_0
          have HC297_0 := am hl297_0
          clear hi297_0 hl297_0
          replace p297 := eq_true p297
          replace q297 := eq_true q297
          go_wp2_with (first | ((with_reducible refine gate_callee (f := 50) rfl ?_); refine goesL_ (some 27) rfl rfl Tryd.func50 (by kernel_rfl) rfl #[.slice A297_0 (rd_L3 l1 x20_2).length c297_0, .string x0_2] rfl ar ?_; (with_reducible refine (apply_To.calls k2 _ _ (rd_L3 l1 x20_2) x0_2 t298 t299 _ ?side1 ?side2 ?side3 A11.out).mono ?_); (case side1 => repeat (first | exact (Kd.C_below HR297_0.out HB.out) | (with_reducible refine Kd.C_alloc ?_ _) | (with_reducible refine Kd.C_drewN ?_ _) | (with_reducible refine Kd.C_drew ?_))); (case side2 => exact HC297_0.out); (case side3 => exact Tabs.below HT.out bl); rintro e w14 ⟨rfl, hb⟩; refine ⟨_, rfl, ?_⟩; have n0_ := am (below_step bl hb); clear HB; have HB := n0_; clear n0_; (try clear hb); (try clear hb2); (try clear hk); (try clear hi)))
          go_ret2
          exact ⟨by first | rfl | (simp [errW_none, errW_some] <;> rfl) | (simp [*, errW_none, errW_some] <;> rfl), bl⟩
        ·rw [if_neg c10] at H
         exact absurd H (by simp)
       ·rw [if_neg c9] at H
        exact absurd H (by simp)
      ·rw [if_neg c8] at H
       have c8b0 : decide (x20_2 < (l1.length : Int)) = false := decide_eq_false c8
       clear c8
       simp only [Option.some.injEq, Prod.mk.injEq] at H
       obtain ⟨rfl, rfl⟩ := H
       go_wp2
       go_ret2
       exact ⟨by first | rfl | (simp [errW_none, errW_some] <;> rfl) | (simp [*, errW_none, errW_some] <;> rfl), bl⟩
def number_Put.l : Nat → Int → List Int → List Int
 | 0, n, out => out ++ [n % 256]
 | k + 1, n, out => if n ≥ 128 then number_Put.l k (n / 128) (out ++ [(Go.bits .or .i64 n 128) % 256]) else out ++ [n % 256]
def number_Put.f (a0 : Int) : Option (List Int × Int) := if a0 < 0 then some ([], 2) else if a0 > 268435455 then some ([], 2) else some (number_Put.l 3 a0 [], 0)
theorem number_Put.part (k : Nat) (m : Int) (h0 : 0 ≤ m) (h1 : m < 128 ^ (k + 1)) (h : 128 ≤ m) : ∃ j, k = j + 1 ∧ m / 128 < 128 ^ (j + 1) := by
 cases k with
 | zero => simp at h1; omega
 | succ j =>
  refine ⟨j, rfl, ?_⟩
  rw [Int.pow_succ] at h1
  omega
def number_Put.J (w : World) (r1 : List Int) (k : Nat) (m : Int) (xs : List Int) (w' : World) (v : Value) : Prop :=
 0 ≤ m ∧ m < 128 ^ (k + 1) ∧ number_Put.l k m xs = r1 ∧ xs.length + k = 3 ∧ Kd.R (Kd.int .u8) 5 w' w.heap.size (fun _ => True) v xs ∧ Below w.heap.size w w'
def number_Put.m (a : Act) : Nat := match a.tmps.getD 0 undef with | .int _ n => n.toNat | _ => 0
set_option maxHeartbeats 8000000 in
set_option maxRecDepth 100000 in
theorem number_Put.calls (a0 : Int) (r1 : List Int) (r2 : Int) (w : World) (h : number_Put.f a0 = some (r1, r2)) :
  Calls Tryd.prog 110 #[.int .i64 a0] w fun e w' => ∃ v0_ : Value, e = .returned (.tuple #[v0_, .int .i64 r2]) ∧ Kd.R (Kd.int .u8) 5 w' w.heap.size (fun _ => True) v0_ r1 ∧ Below w.heap.size w w' := by
 have HB := am (Below.refl w.heap.size w)
 unfold number_Put.f at h
 have H := am h
 clear h
 by_cases c1 : a0 < 0
 ·have c1b : decide (a0 < 0) = true := decide_eq_true c1
  have H := H.out
  rw [if_pos c1] at H
  simp only [Option.some.injEq, Prod.mk.injEq] at H
  obtain ⟨rfl, rfl⟩ := H
  go_enter Tryd.func110, Tryd.ntmps110
  go_wp2
  go_step3
  go_wp2
  rw [Exit.noGoto_ret]
  go_ret2
  exact ⟨_, rfl, Kd.R_nil _ _ _ _ _, Below.refl _ _⟩
 ·have c1b : decide (a0 < 0) = false := decide_eq_false c1
  by_cases c2 : a0 > 268435455
  ·have c2b : decide (268435455 < a0) = true := decide_eq_true c2
   have H := H.out
   rw [if_neg c1, if_pos c2] at H
   simp only [Option.some.injEq, Prod.mk.injEq] at H
   obtain ⟨rfl, rfl⟩ := H
   go_enter Tryd.func110, Tryd.ntmps110
   go_wp2
   go_step3
   go_wp2
   rw [Exit.noGoto_ret]
   go_ret2
   exact ⟨_, rfl, Kd.R_nil _ _ _ _ _, Below.refl _ _⟩
  ·have c2b : decide (268435455 < a0) = false := decide_eq_false c2
   have H := H.out
   rw [if_neg c1, if_neg c2] at H
   simp only [Option.some.injEq, Prod.mk.injEq] at H
   obtain ⟨H1, rfl⟩ := H
   have H := am H1
   clear H1
   have HJ := am (show number_Put.J w r1 3 a0 [] w (.slice none 0 0) from ⟨by omega, by omega, H.out, rfl, Kd.R_nil _ _ _ _ _, Below.refl _ _⟩)
   clear H
   go_enter Tryd.func110, Tryd.ntmps110
   go_wp2
   refine wp_scope_jumps 0 (fun a' w' => ∃ (k : Nat) (m : Int) (xs : List Int) (v4 u5 u6 u7 u8 u9 u10 u11 u12 u13 u14 u15 u16 u17 u18 u19 u20 u21 u22 u23 u24 u25 : Value), a' = { tmps := #[.int .i64 m, undef, .slice none 0 0, .int .i64 0, v4, u5, u6, u7, u8, u9, u10, u11, u12, u13, u14, u15, u16, u17, u18, u19, u20, u21, u22, u23, u24, u25], defers := [] } ∧ Aside0 (number_Put.J w r1 k m xs w' v4)) (fun a' _ => number_Put.m a') rfl ?_ ?_
   ·go_wp2
    go_step3
    obtain ⟨j0, j1, j2, j3, j4, j5⟩ := HJ.out
    clear HJ
    have HB := am j5; have HO := am j4; have H2 := am j2; have HN := am j3
    have HL : Aside0 (([] : List Int).length < 100) := ⟨by have := HN.out; omega⟩
    clear j5 j4 j2 j3
    by_cases c : 128 ≤ a0
    ·have cb : decide (128 ≤ a0) = true := decide_eq_true c
     obtain ⟨j, hk, hlt⟩ := number_Put.part 3 a0 j0 j1 c
     have HK := am hk; have HLT := am hlt; clear hk hlt
     have JN : Aside0 (number_Put.l j (a0 / 128) (([] : List Int) ++ [(Go.bits .or .i64 a0 128) % 256]) = r1) := ⟨by have h2 := H2.out; rw [HK.out, number_Put.l, if_pos c] at h2; exact h2⟩
     go_wp2_with (first | ((with_reducible refine gate_builtin (b := .append) (xs := #[.tmp 13, .tmp 17]) rfl ?_); at_builtin; refine Kd.R_append (Kd.int .u8) (w0 := w) w.heap.size rfl (.tmp 13) (.tmp 17) 130 5 (.int .u8 0) 1 rfl Tryd.underlying130 info5 rfl (by decide) (by omega) (.slice none 0 0) [] ((Go.bits .or .i64 a0 128) % 256) [.int .u8 ((Go.bits .or .i64 a0 128) % 256)] (fun _ => True) (fun _ => False) rfl rfl ?aP (fun _ hk => hk.elim) ?aF ?aO ?aB ?aS ?aL ?_; (case aP => exact rfl); (case aB => exact bl); (case aF => exact (fun _ _ => trivial)); (case aO => exact (by refine kR ?_; exact HO.out)); (case aS => exact (below_size bl)); (case aL => have := HL.out; omega); intro v100 w100 ho hb hg hat; have HB1 := am hb; have HO1 := am ho; clear ho hb hg hat))
     go_step3
     have HJ2 := am (show number_Put.J w r1 j (a0 / 128) (([] : List Int) ++ [(Go.bits .or .i64 a0 128) % 256]) w100 v100 from ⟨by omega, HLT.out, JN.out, by have := HN.out; have := HK.out; simp only [List.length_append, List.length_cons, List.length_nil] at *; omega, HO1.out, HB1.out⟩)
     refine ⟨rfl, j, _, _, _, _, _, _, _, _, _, _, _, _, _, _, _, _, _, _, _, _, _, _, _, _, rfl, HJ2⟩
    ·have cb : decide (128 ≤ a0) = false := decide_eq_false c
     have JN : Aside0 (([] : List Int) ++ [a0] = r1) := ⟨by rw [show (([] : List Int) ++ [a0]) = ([] ++ [a0 % 256]) from by rw [show a0 % 256 = a0 from by omega]]; have h2 := H2.out; cases hk : (3 : Nat) with | zero => (rw [hk] at h2; exact h2) | succ _ => (rw [hk, number_Put.l, if_neg c] at h2; exact h2)⟩
     go_wp2_with (first | ((with_reducible refine gate_builtin (b := .append) (xs := #[.tmp 21, .tmp 24]) rfl ?_); at_builtin; refine Kd.R_append (Kd.int .u8) (w0 := w) w.heap.size rfl (.tmp 21) (.tmp 24) 130 5 (.int .u8 0) 1 rfl Tryd.underlying130 info5 rfl (by decide) (by omega) (.slice none 0 0) [] (a0) [.int .u8 (a0)] (fun _ => True) (fun _ => False) rfl rfl ?aP (fun _ hk => hk.elim) ?aF ?aO ?aB ?aS ?aL ?_; (case aP => exact rfl); (case aB => exact bl); (case aF => exact (fun _ _ => trivial)); (case aO => exact (by refine kR ?_; exact HO.out)); (case aS => exact (below_size bl)); (case aL => have := HL.out; omega); intro v100 w100 ho hb hg hat; have HB1 := am hb; have HO1 := am ho; clear ho hb hg hat))
     try simp only [Exit.jump]
     go_ret2
     exact ⟨_, rfl, by rw [← JN.out]; exact HO1.out, HB1.out⟩
   ·rintro a' w' ⟨k, m, xs, v4, u5, u6, u7, u8, u9, u10, u11, u12, u13, u14, u15, u16, u17, u18, u19, u20, u21, u22, u23, u24, u25, rfl, HJ⟩
    obtain ⟨j0, j1, j2, j3, j4, j5⟩ := HJ.out
    clear HJ
    have HB := am j5; have HO := am j4; have H2 := am j2; have HN := am j3
    have HL : Aside0 ((xs : List Int).length < 100) := ⟨by have := HN.out; omega⟩
    clear j5 j4 j2 j3
    by_cases c : 128 ≤ m
    ·have cb : decide (128 ≤ m) = true := decide_eq_true c
     obtain ⟨j, hk, hlt⟩ := number_Put.part k m j0 j1 c
     have HK := am hk; have HLT := am hlt; clear hk hlt
     have JN : Aside0 (number_Put.l j (m / 128) ((xs : List Int) ++ [(Go.bits .or .i64 m 128) % 256]) = r1) := ⟨by have h2 := H2.out; rw [HK.out, number_Put.l, if_pos c] at h2; exact h2⟩
     go_wp2_with (first | ((with_reducible refine gate_builtin (b := .append) (xs := #[.tmp 13, .tmp 17]) rfl ?_); at_builtin; refine Kd.R_append (Kd.int .u8) (w0 := w) w.heap.size rfl (.tmp 13) (.tmp 17) 130 5 (.int .u8 0) 1 rfl Tryd.underlying130 info5 rfl (by decide) (by omega) v4 xs ((Go.bits .or .i64 m 128) % 256) [.int .u8 ((Go.bits .or .i64 m 128) % 256)] (fun _ => True) (fun _ => False) rfl rfl ?aP (fun _ hk => hk.elim) ?aF ?aO ?aB ?aS ?aL ?_; (case aP => exact rfl); (case aB => exact bl); (case aF => exact (fun _ _ => trivial)); (case aO => exact (by refine kR ?_; exact HO.out)); (case aS => exact (below_size bl)); (case aL => have := HL.out; omega); intro v100 w100 ho hb hg hat; have HB1 := am hb; have HO1 := am ho; clear ho hb hg hat))
     go_step3
     have HJ2 := am (show number_Put.J w r1 j (m / 128) ((xs : List Int) ++ [(Go.bits .or .i64 m 128) % 256]) w100 v100 from ⟨by omega, HLT.out, JN.out, by have := HN.out; have := HK.out; simp only [List.length_append, List.length_cons, List.length_nil] at *; omega, HO1.out, HB1.out⟩)
     refine ⟨rfl, ⟨j, _, _, _, _, _, _, _, _, _, _, _, _, _, _, _, _, _, _, _, _, _, _, _, _, rfl, HJ2⟩, by simp [number_Put.m]; omega⟩
    ·have cb : decide (128 ≤ m) = false := decide_eq_false c
     have JN : Aside0 ((xs : List Int) ++ [m] = r1) := ⟨by rw [show ((xs : List Int) ++ [m]) = (xs ++ [m % 256]) from by rw [show m % 256 = m from by omega]]; have h2 := H2.out; cases hk : (k : Nat) with | zero => (rw [hk] at h2; exact h2) | succ _ => (rw [hk, number_Put.l, if_neg c] at h2; exact h2)⟩
     go_wp2_with (first | ((with_reducible refine gate_builtin (b := .append) (xs := #[.tmp 21, .tmp 24]) rfl ?_); at_builtin; refine Kd.R_append (Kd.int .u8) (w0 := w) w.heap.size rfl (.tmp 21) (.tmp 24) 130 5 (.int .u8 0) 1 rfl Tryd.underlying130 info5 rfl (by decide) (by omega) v4 xs (m) [.int .u8 (m)] (fun _ => True) (fun _ => False) rfl rfl ?aP (fun _ hk => hk.elim) ?aF ?aO ?aB ?aS ?aL ?_; (case aP => exact rfl); (case aB => exact bl); (case aF => exact (fun _ _ => trivial)); (case aO => exact (by refine kR ?_; exact HO.out)); (case aS => exact (below_size bl)); (case aL => have := HL.out; omega); intro v100 w100 ho hb hg hat; have HB1 := am hb; have HO1 := am ho; clear ho hb hg hat))
     try simp only [Exit.jump]
     go_ret2
     exact ⟨_, rfl, by rw [← JN.out]; exact HO1.out, HB1.out⟩
theorem number_Put.len_le : ∀ (k : Nat) (n : Int) (out : List Int), (number_Put.l k n out).length ≤ out.length + k + 1
 | 0, n, out => by simp [number_Put.l]
 | k + 1, n, out => by
  unfold number_Put.l
  split
  ·have := number_Put.len_le k (n / 128) (out ++ [(Go.bits .or .i64 n 128) % 256])
   simp only [List.length_append, List.length_cons, List.length_nil] at this
   omega
  ·rw [List.length_append, List.length_cons, List.length_nil]; omega
theorem number_Put.f_len {n : Int} {r1 : List Int} {r2 : Int} (h : number_Put.f n = some (r1, r2)) : r1.length ≤ 4 := by
 unfold number_Put.f at h
 split at h
 ·cases h; simp
 ·split at h
  ·cases h; simp
  ·cases h
   exact number_Put.len_le 3 n []
set_option maxHeartbeats 8000000 in
set_option maxRecDepth 100000 in
theorem snap_writer_number.calls (n : Int) (r1 : List Int) (r2 : Int) (xs : List Int) (base B : Nat) (v : Value) (w : World) (h : number_Put.f n = some (r1, r2)) (hr : r1.length ≤ 4)
  (hB : w.heap[B]? = some (.cells #[v] 168 (0, 0))) (hO : Kd.R (Kd.int .u8) 5 w base (fun _ => True) v xs) (hbase : base ≤ w.heap.size) (hBb : base ≤ B) (hl : xs.length ≤ 1000000) :
  Calls Tryd.prog 108 #[.pointer (some ⟨B, 0, none⟩), .int .i64 n] w fun e w' => e = .returned (.tuple #[]) ∧ ∃ v', w'.heap[B]? = some (.cells #[v'] 168 (0, 0)) ∧ Kd.R (Kd.int .u8) 5 w' base (fun _ => True) v' (xs ++ r1) ∧ Below base w w' := by
 obtain ⟨A0, c0, rfl⟩ := Kd.R_slice hO
 have H := am h; have HR := am hr; have HF := am hB; have HO := am hO; have HL := am hl; have HBB := am hBb; have HBS := am hbase
 clear h hr hB hO hl hBb hbase
 go_enter Tryd.func108, Tryd.ntmps108
 go_wp2_with (first | (go_at_call 110; go_loud ((with_reducible refine (number_Put.calls n r1 r2 _ H.out).mono ?_); rintro e w1 ⟨v1, rfl, ho, hb⟩; obtain ⟨A1, c1, rfl, hc1, hread⟩ := Kd.R_reads ho; have HO1 := am (Kd.R_elder' HO.out (Kd.R_base ho) hb); have HF1 := am (blk_below HF.out hb); have HN := am hread; have HB1 := am (hb.mono HBS.out); have HSZ := am hb.size; clear ho hb HO HF hread; have hcell : w1.cell? ⟨B, 0, none⟩ = some (.slice A0 xs.length c0) := (blk_cell HF1.out 0).trans rfl)) | ((with_reducible refine gate_builtin (b := .append) (xs := #[.tmp 15, .tmp 16]) rfl ?_); at_builtin; refine Kd.R_append_rows (Kd.int .u8) (w0 := w) base rfl (.tmp 15) (.tmp 16) 130 5 (.int .u8 0) 1 rfl Tryd.underlying130 info5 rfl (by decide) (by omega) (.slice A0 xs.length c0) xs r1 _ _ _ (fun k_ => True) (fun _ => False) rfl rfl ?aO ?aR (fun _ _ h => h) (fun _ h => h.elim) ?aF ?aB ?aS ?aL ?_; (case aR => exact HN.out); (case aB => exact HB1.out); (case aF => exact (fun _ _ => trivial)); (case aO => exact (Kd.R_mono HO1.out (fun _ _ => trivial))); (case aS => have := HSZ.out; have := HBS.out; omega); (case aL => have := HL.out; have := HR.out; omega); intro v2 w2 ho hb hg hat; obtain ⟨A2, c2, rfl⟩ := Kd.R_slice ho; have HF2 := am (blk_grown HF1.out hg (Kd.R_ne HO1.out HF1.out (by decide))); have HO2 := am ho; have HB2 := am hb; clear ho hb hg hat hcell HO1 HF1 HB1; have hcell : w2.cell? ⟨B, 0, none⟩ = some (.slice A0 xs.length c0) := (blk_cell HF2.out 0).trans rfl; have hfr : w2.frozen? ⟨B, 0, none⟩ = false := blk_frozen HF2.out 0))
 go_end0
 exact ⟨rfl, _, blk_put HF2.out 0 _ rfl, by have h_ := HO2.out; rw [List.length_append] at h_; exact Kd.R_set h_ HF2.out (by decide) 0 _, HB2.out.setCell HBB.out _⟩
def snap_PutRow.l : Int → List Int → List Int → List Int × Int
 | _, out, [] => (out, 0)
 | was, out, n :: l => if n ≤ was ∨ n > 268435455 then ([], 2) else snap_PutRow.l n (out ++ number_Put.l 3 (n - was - 1) []) l
def snap_PutRow.f (l0 : List Int) : Option (List Int × Int) := if l0.length = 0 ∨ l0.length > 65536 then some ([], 2) else some (snap_PutRow.l (-1) (number_Put.l 3 l0.length []) l0)
theorem snap_PutRow.next (l : List Int) (j : Nat) (h : j < l.length) : l.drop j = rd l (j : Int) :: l.drop (j + 1) := by
 rw [List.drop_eq_getElem_cons h]
 unfold rd
 rw [Int.toNat_natCast, List.getD_eq_getElem?_getD, List.getElem?_eq_getElem h]
 rfl
theorem snap_PutRow.less {n j : Nat} (h : j < n) (e : wrap64 ((j : Int) + 1) = ((j + 1 : Nat) : Int)) : n - (intOf (.int .i64 (wrap64 ((j : Int) + 1)))).toNat < n - (intOf (.int .i64 (j : Int))).toNat := by
 rw [e]
 show n - (((j + 1 : Nat) : Int)).toNat < n - ((j : Int)).toNat
 omega
def snap_PutRow.J (w : World) (l0 r1 : List Int) (r2 : Int) (j : Nat) (was : Int) (wr : World) : Prop :=
 j ≤ l0.length ∧ -1 ≤ was ∧ was ≤ 268435455 ∧ ∃ (out : List Int) (v : Value), snap_PutRow.l was out (l0.drop j) = (r1, r2) ∧ wr.heap[w.heap.size]? = some (.cells #[v] 168 (0, 0)) ∧
  Kd.R (Kd.int .u8) 5 wr w.heap.size (fun _ => True) v out ∧ out.length ≤ 4 * (j + 1) ∧ Below w.heap.size w wr
set_option maxHeartbeats 8000000 in
set_option maxRecDepth 100000 in
theorem snap_PutRow.calls (A0 : Option Addr) (c0 : Nat) (l0 : List Int) (r1 : List Int) (r2 : Int) (w : World) (hr0 : Kd.C (Kd.int .i64) w A0 l0.length l0) (hc0 : l0.length ≤ c0) (h : snap_PutRow.f l0 = some (r1, r2)) :
  Calls Tryd.prog 97 #[.slice A0 l0.length c0] w fun e w' => ∃ v0_ : Value, e = .returned (.tuple #[v0_, .int .i64 r2]) ∧ Kd.R (Kd.int .u8) 5 w' w.heap.size (fun _ => True) v0_ r1 ∧ Below w.heap.size w w' := by
 unfold snap_PutRow.f at h
 by_cases c : l0.length = 0 ∨ l0.length > 65536
 ·rw [if_pos c] at h
  simp only [Option.some.injEq, Prod.mk.injEq] at h
  obtain ⟨rfl, rfl⟩ := h
  by_cases c1 : l0.length = 0
  ·have c2 : ((l0.length : Int) == 0) = true := beq_iff_eq.mpr (by omega)
   have c3 : decide (65536 < (l0.length : Int)) = false := decide_eq_false (by omega)
   have c4 : (l0.length == 0) = true := beq_iff_eq.mpr c1
   have c5 : decide (65536 < l0.length) = false := decide_eq_false (by omega)
   clear c c1
   go_enter Tryd.func97, Tryd.ntmps97
   go_wp2
   go_ret2
   exact ⟨_, rfl, Kd.R_nil _ _ _ _ _, Below.refl _ _⟩
  ·have c2 : ((l0.length : Int) == 0) = false := beq_eq_false_iff_ne.mpr (by omega)
   have c3 : decide (65536 < (l0.length : Int)) = true := decide_eq_true (by omega)
   have c4 : (l0.length == 0) = false := beq_eq_false_iff_ne.mpr c1
   have c5 : decide (65536 < l0.length) = true := decide_eq_true (by omega)
   clear c c1
   go_enter Tryd.func97, Tryd.ntmps97
   go_wp2
   go_ret2
   exact ⟨_, rfl, Kd.R_nil _ _ _ _ _, Below.refl _ _⟩
 ·rw [if_neg c] at h
  replace h := Option.some.inj h
  have c1 : ¬ l0.length = 0 := by omega
  have c2 : ((l0.length : Int) == 0) = false := beq_eq_false_iff_ne.mpr (by omega)
  have c3 : decide (65536 < (l0.length : Int)) = false := decide_eq_false (by omega)
  have c4 : (l0.length == 0) = false := beq_eq_false_iff_ne.mpr c1
  have c5 : decide (65536 < l0.length) = false := decide_eq_false (by omega)
  have HZ : Aside0 (l0.length ≤ 65536) := ⟨by omega⟩
  have H := am h
  have HR0 := am hr0; have HC0 := am hc0
  clear c c1 h hr0 hc0
  have HP : Aside0 (number_Put.f (l0.length : Int) = some (number_Put.l 3 (l0.length : Int) [], 0)) := ⟨by have := HZ.out; unfold number_Put.f; rw [if_neg (by omega), if_neg (by omega)]⟩
  have HL := am (number_Put.f_len HP.out)
  generalize number_Put.l 3 (l0.length : Int) [] = rl at *
  go_enter Tryd.func97, Tryd.ntmps97
  go_wp2_with (first | (go_at_call 108; (with_reducible refine (snap_writer_number.calls (l0.length : Int) rl 0 [] w.heap.size w.heap.size (.slice none 0 0) _ HP.out HL.out (heap_alloc_new w _) (Kd.R_nil _ _ _ _ _) (by simp) (Nat.le_refl _) (by simp)).mono ?_); rintro e w2 ⟨rfl, v2, hf, ho, hb⟩; have HB := am ((below_alloc (Below.refl w.heap.size w) _).trans hb); have HO := am ho; have HF := am hf; clear hb ho hf))
  go_loopw [6, 24] (fun v6 v24 wr => ∃ (j : Nat) (was : Int), v24 = .int .i64 j ∧ v6 = .int .i64 was ∧ Aside0 (snap_PutRow.J w l0 r1 r2 j was wr)) (fun _ v24 _ => l0.length - (intOf v24).toNat)
  case atStart => exact ⟨0, -1, rfl, rfl, ⟨⟨Nat.zero_le _, by omega, by omega, rl, v2, H.out, HF.out, HO.out, by have := HL.out; omega, HB.out⟩⟩⟩
  case round =>
   obtain ⟨j, was, rfl, rfl, HJ⟩ := hrel
   obtain ⟨j0, j1, j2, out, v, j3, j4, j5, j6, j7⟩ := HJ.out
   have HB := am j7; have HF := am j4; have HO := am j5; have H := am j3; have HN := am j6; have HW := am (And.intro j1 j2)
   have hcell : wr.cell? ⟨w.heap.size, 0, none⟩ = some v := (blk_cell HF.out 0).trans rfl
   clear j7 j4 j5 j3 j6 HJ
   by_cases hlt : j < l0.length
   ·have H1 : Aside0 (snap_PutRow.l was out (rd l0 (j : Int) :: l0.drop (j + 1)) = (r1, r2)) := ⟨by rw [← snap_PutRow.next l0 j hlt]; exact H.out⟩
    have b0 : decide ((j : Int) < (l0.length : Int)) = true := decide_eq_true (by omega)
    have b1 : decide (j < l0.length) = true := decide_eq_true hlt
    have p0 : 0 ≤ (j : Int) := by omega
    have q0 : (j : Int) < (l0.length : Int) := by omega
    obtain ⟨ad, e0, hx⟩ := Kd.at_int HR0.out (j : Int) p0 q0
    cases e0
    rw [Int.toNat_natCast] at hx
    replace hx := (HB.out.cell (World.block_lt_of_cell? w _ hx)).trans hx
    replace p0 := eq_true p0
    replace q0 := eq_true q0
    clear H
    have HLT := am hlt
    generalize rd l0 (j : Int) = x at *
    by_cases g1 : x ≤ was
    ·have g1b : decide (x ≤ was) = true := decide_eq_true g1
     have h1 := H1.out
     rw [snap_PutRow.l, if_pos (.inl g1)] at h1
     simp only [Prod.mk.injEq] at h1
     obtain ⟨rfl, rfl⟩ := h1
     clear g1 j1 j2 hlt
     go_wp2
     go_ret2
     exact ⟨_, rfl, Kd.R_nil _ _ _ _ _, HB.out⟩
    ·have g1b : decide (x ≤ was) = false := decide_eq_false g1
     by_cases g2 : x > 268435455
     ·have g2b : decide (268435455 < x) = true := decide_eq_true g2
      have h1 := H1.out
      rw [snap_PutRow.l, if_pos (.inr g2)] at h1
      simp only [Prod.mk.injEq] at h1
      obtain ⟨rfl, rfl⟩ := h1
      clear g1 g2 j1 j2 hlt
      go_wp2
      go_ret2
      exact ⟨_, rfl, Kd.R_nil _ _ _ _ _, HB.out⟩
     ·have g2b : decide (268435455 < x) = false := decide_eq_false g2
      have h1 := H1.out
      rw [snap_PutRow.l, if_neg (by omega)] at h1
      have e1 : wrap64 (x - was) = x - was := by unfold wrap64; omega
      have e2 : wrap64 (x - was - 1) = x - was - 1 := by unfold wrap64; omega
      have HP2 : Aside0 (number_Put.f (x - was - 1) = some (number_Put.l 3 (x - was - 1) [], 0)) := ⟨by unfold number_Put.f; rw [if_neg (by omega), if_neg (by omega)]⟩
      have HL2 := am (number_Put.f_len HP2.out)
      have H2 := am h1
      generalize number_Put.l 3 (x - was - 1) [] = rn at *
      have HX : Aside0 (-1 ≤ x ∧ x ≤ 268435455) := ⟨by omega⟩
      have E3 : Aside0 (wrap64 ((j : Int) + 1) = ((j + 1 : Nat) : Int)) := ⟨by have := HZ.out; unfold wrap64; omega⟩
      clear g1 g2 j1 j2 hlt h1
      go_wp2_with (first | (go_at_call 108; (with_reducible refine (snap_writer_number.calls (x - was - 1) rn 0 out w.heap.size w.heap.size v _ HP2.out HL2.out HF.out HO.out HB.out.size (Nat.le_refl _) (by have := HN.out; have := HZ.out; omega)).mono ?_); rintro e w3 ⟨rfl, v3, hf, ho, hb⟩; have HB3 := am (HB.out.trans hb); have HO3 := am ho; have HF3 := am hf; clear hb ho hf))
      go_roundw
      case rel => exact ⟨j + 1, x, by rw [E3.out], rfl, ⟨⟨by have := HLT.out; omega, HX.out.1, HX.out.2, out ++ rn, v3, H2.out, HF3.out, HO3.out, by rw [List.length_append]; have := HN.out; have := HL2.out; omega, HB3.out⟩⟩⟩
      case measure => exact snap_PutRow.less HLT.out E3.out
   ·have b0 : decide ((j : Int) < (l0.length : Int)) = false := decide_eq_false (by omega)
    have b1 : decide (j < l0.length) = false := decide_eq_false hlt
    have h1 := H.out
    rw [List.drop_of_length_le (by omega), snap_PutRow.l] at h1
    simp only [Prod.mk.injEq] at h1
    obtain ⟨rfl, rfl⟩ := h1
    clear hlt j0 j1 j2 H
    go_wp2
    go_ret2
    exact ⟨_, rfl, HO.out, HB.out⟩
def normal_Is.l0 : Nat → List (S25) → List (S25) → Int → Int → Option (Bool)
 | 0, _, _, _, _ => none
 | k + 1, x0, x5, x6, x7 => if x7 < x6 then (if 0 ≤ x7 then (if x7 < (x5.length : Int) then ((normal_empty.f ((rd_T25 x5 x7).f0) ((rd_T25 x5 x7).f1) ((rd_T25 x5 x7).f2)).bind fun t302 => (if t302 = true then (some false) else (if x7 > 0 then (if 0 ≤ (wrap64 (x7 - 1)) then (if (wrap64 (x7 - 1)) < (x0.length : Int) then (if ((rd_T25 x5 x7).f0) = ((rd_T25 x0 (wrap64 (x7 - 1))).f0) then (some false) else (normal_Is.l0 k x0 x5 x6 (wrap64 (x7 + 1)))) else (none)) else (none)) else (normal_Is.l0 k x0 x5 x6 (wrap64 (x7 + 1)))))) else (none)) else (none)) else (some true)
def normal_Is.f (k : Nat) (l0 : List (S25)) : Option (Bool) := normal_Is.l0 k l0 l0 (l0.length : Int) 0
def normal_Is.T4 : Bool × List (List Nat × List Nat) := (true, [([], []), ([0], [0]), ([1, 1], [1]), ([2], [2]), ([3, 2], [2, 3]), ([4, 2, 2], [2, 4]), ([5], [5]), ([6, 5], [5, 6]), ([5], [5]), ([5], [5]), ([9, 5], [5, 9]), ([8, 10, 5], [5, 8, 10]), ([11, 5], [5, 11]), ([12, 5], [5, 12]), ([7, 13, 5], [5, 7, 13]), ([5, 14, 2], [2, 5, 14]), ([2, 15], [2, 15])])
def normal_Is.B4 : List Nat := [0, 1, 3, 7, 15, 31, 63, 127, 63, 63, 575, 1855, 3903, 7999, 16383, 32767, 65535]
theorem normal_Is.tab4 : rtab .any (opsOf Tryd.f107 4) = normal_Is.T4 := by kernel_rfl
theorem normal_Is.bits4 : waitsOk normal_Is.T4.2 normal_Is.B4 = true := by kernel_rfl
set_option maxHeartbeats 8000000 in
set_option maxRecDepth 100000 in
theorem normal_Is.calls (k : Nat) (A0 : Option Addr) (c0 : Nat) (l0 : List (S25)) (r : Bool) (w : World) (hr0 : Kd.C k25 w A0 l0.length l0) (hc0 : l0.length ≤ c0) (h : normal_Is.f k l0 = some r) :
  Calls Tryd.prog 107 #[.slice A0 l0.length c0] w fun e w' => e = .returned (.bool r) ∧ Below w.heap.size w w' := by
 have hu25 := Tryd.underlying25
 have HR0 := am hr0
 have HC0 := am hc0
 clear hr0 hc0
 have HB := am (Below.refl w.heap.size w)
 have H : (normal_Is.l0 k l0 l0 (l0.length : Int) 0) = some r := h
 clear h
 have H' := am H
 clear H
 go_enter Tryd.func107, Tryd.ntmps107
 go_wp2
 go_loopg [7] k (fun kq v7 w' => ∃ (x7_1 : Int), v7 = .int .i64 x7_1 ∧ Aside0 (normal_Is.l0 kq l0 l0 (l0.length : Int) x7_1 = some r) ∧ Aside0 (kq ≤ k) ∧ Aside0 (Below w.heap.size w w'))
 case atStart => exact ⟨(0), pj, H', ⟨Nat.le_refl _⟩, ⟨bl⟩⟩
 case round =>
  clear H'
  try clear c1
  obtain ⟨x7_1, rfl, HA, HK1, HB⟩ := hrel
  cases gk with
  | zero => exact absurd HA.out (by simp [normal_Is.l0])
  | succ k1 =>
   have H := HA.out
   clear HA
   simp only [normal_Is.l0] at H
   by_cases c2 : x7_1 < (l0.length : Int)
   ·rw [if_pos c2] at H
    have c2b0 : decide (x7_1 < (l0.length : Int)) = true := decide_eq_true c2
    clear c2
    by_cases c3 : 0 ≤ x7_1
    ·rw [if_pos c3] at H
     have c3b0 : decide (0 ≤ x7_1) = true := decide_eq_true c3
     clear c3
     by_cases c4 : x7_1 < (l0.length : Int)
     ·rw [if_pos c4] at H
      have c4b0 : decide (x7_1 < (l0.length : Int)) = true := decide_eq_true c4
      clear c4
      replace H := Option.bind_eq_some_iff.mp H
      obtain ⟨t302, A50, H⟩ := H
      try dsimp only at H
      have A5 := am A50
      clear A50
      by_cases c6 : t302 = true
      ·subst c6
       have H1 : (some false) = some r := by rw [if_pos rfl] at H; exact H
       clear H
       have H := H1
       clear H1
       obtain rfl := Option.some.inj H
       simp only [Option.some.injEq, Prod.mk.injEq] at H
       obtain ⟨rfl⟩ := H
       have p300 : 0 ≤ (x7_1 : Int) := of_decide_eq_true as0
       have q300 : x7_1 < (l0.length : Int) := of_decide_eq_true as0
       obtain ⟨ad300, e300, hx300_0, hx300_1, hx300_2⟩ := at_T25 HR0.out x7_1 p300 q300
       cases e300
       replace hx300_0 := (HB.out.cell (World.block_lt_of_cell? w _ hx300_0)).trans hx300_0
       replace hx300_1 := (HB.out.cell (World.block_lt_of_cell? w _ hx300_1)).trans hx300_1
       replace hx300_2 := (HB.out.cell (World.block_lt_of_cell? w _ hx300_2)).trans hx300_2
       replace p300 := eq_true p300
       replace q300 := eq_true q300
       try go_wp2_with (first | ((with_reducible refine gate_dst (N := 4) rfl ?_); refine box_event ?hg (N := 4) ?hd (cs := #[.int .i64 0, .int .i64 0, .string (⟨#[]⟩ : ByteArray)]) (t := 25) ?hr ?_; (case hd => rfl); (case hg => rfl); (case hr => first | (go_simp; done) | (go_simp; rfl)); intro gb301 hg w7 hbox hb; have n0_ := am (below_step bl hb); have n1_ := am (hbox); have n2_ := am ((gs : w.heap.size ≤ gb301)); have n3_ := am ((gs : w.heap.size ≤ gb301)); clear HB; have HB := n0_; have BK301 := n1_; have GW301 := n2_; have GE301 := n3_; clear n0_ n1_ n2_ n3_; clear hb hbox hg; have hcz8_0 : w7.cell? ⟨gb301, 0, none⟩ = some (.int .i64 0) := (blk_cell BK301.out 0).trans rfl; have hcz8_1 : w7.cell? ⟨gb301, 1, none⟩ = some (.int .i64 0) := (blk_cell BK301.out 1).trans rfl; have hcz8_2 : w7.cell? ⟨gb301, 2, none⟩ = some (.string (⟨#[]⟩ : ByteArray)) := (blk_cell BK301.out 2).trans rfl; have hfz8_0 := blk_frozen BK301.out 0; have hfz8_1 := blk_frozen BK301.out 1; have hfz8_2 := blk_frozen BK301.out 2))
       have n0_ : Aside0 ((((w7.setCell ⟨gb301, 0, none⟩ (.int .i64 ((rd_T25 l0 x7_1).f0))).setCell ⟨gb301, 1, none⟩ (.int .i64 ((rd_T25 l0 x7_1).f1))).setCell ⟨gb301, 2, none⟩ (.string ((rd_T25 l0 x7_1).f2))).heap[gb301]? = some (.cells #[.int .i64 ((rd_T25 l0 x7_1).f0), .int .i64 ((rd_T25 l0 x7_1).f1), .string ((rd_T25 l0 x7_1).f2)] 25 (0, 0))) := ⟨by refine bk ?_; refine blk_put (cs := #[.int .i64 ((rd_T25 l0 x7_1).f0), .int .i64 ((rd_T25 l0 x7_1).f1), .string (⟨#[]⟩ : ByteArray)]) ?_ 2 _ rfl; refine bk ?_; refine blk_put (cs := #[.int .i64 ((rd_T25 l0 x7_1).f0), .int .i64 0, .string (⟨#[]⟩ : ByteArray)]) ?_ 1 _ rfl; refine bk ?_; refine blk_put (cs := #[.int .i64 0, .int .i64 0, .string (⟨#[]⟩ : ByteArray)]) ?_ 0 _ rfl; refine bk ?_; exact BK301.out⟩
       have n1_ : Aside0 (Below w.heap.size w (((w7.setCell ⟨gb301, 0, none⟩ (.int .i64 ((rd_T25 l0 x7_1).f0))).setCell ⟨gb301, 1, none⟩ (.int .i64 ((rd_T25 l0 x7_1).f1))).setCell ⟨gb301, 2, none⟩ (.string ((rd_T25 l0 x7_1).f2)))) := ⟨bl⟩
       (try clear BK301)
       (try clear HB)
       generalize (((w7.setCell ⟨gb301, 0, none⟩ (.int .i64 ((rd_T25 l0 x7_1).f0))).setCell ⟨gb301, 1, none⟩ (.int .i64 ((rd_T25 l0 x7_1).f1))).setCell ⟨gb301, 2, none⟩ (.string ((rd_T25 l0 x7_1).f2))) = w9 at n0_ n1_ ⊢
       have BK301 := n0_
       have HB := n1_
       clear n0_ n1_
       have n0_ := am (blk_drew BK301.out)
       have n1_ := am (below_drew1 HB.out)
       clear BK301
       clear HB
       have BK301 := n0_
       have HB := n1_
       clear n0_ n1_
       refine start_ (n := 17) (S := fun w' => w'.cell? ⟨gb301, 0, none⟩ = some (.int .i64 ((rd_T25 l0 x7_1).f0)) ∧ w'.cell? ⟨gb301, 1, none⟩ = some (.int .i64 ((rd_T25 l0 x7_1).f1)) ∧ w'.cell? ⟨gb301, 2, none⟩ = some (.string ((rd_T25 l0 x7_1).f2))) (ds := []) #[false, false, false, false, false, false, false, false, false, false, false, false, false, false, false, false, false] (by kernel_rfl) rfl rfl ⟨(blk_cell BK301.out 0).trans rfl, (blk_cell BK301.out 1).trans rfl, (blk_cell BK301.out 2).trans rfl⟩ (fun hHeld => ?_); refine with_tabW normal_Is.tab4 normal_Is.bits4 (fun HT_ HW_ => ?_)
       generalize w9.drew = w10 at BK301 HB hHeld ⊢
       refine take_ (i := 0) (N := some 12) (v := ?_) (a' := ?_) #[true, false, false, false, false, false, false, false, false, false, false, false, false, false, false, false, false] rfl rfl (take_ofW HT_.out HW_.out (by kernel_rfl)) (fun _ _ _ h => h) (Or.inl ⟨by rfl, ?_⟩) hHeld ?_ ?_
       rotate_left
       ·rintro w' ⟨s0, s1, s2⟩
        go_simp
        with_reducible rfl
       rotate_left
       ·exact ap
       refine one_ (i := 1) (N := some 13) #[true, true, false, false, false, false, false, false, false, false, false, false, false, false, false, false, false] rfl rfl (one_of HT_.out (by kernel_rfl)) (by decide) (fun K hK => ?_)
       refine goes_ Tryd.func74 (by kernel_rfl) rfl #[.agg #[.int .i64 ((rd_T25 l0 x7_1).f0), .int .i64 ((rd_T25 l0 x7_1).f1), .string ((rd_T25 l0 x7_1).f2)]] (by rfl) rfl rfl ar ?_
       with_reducible refine (normal_empty.calls ((rd_T25 l0 x7_1).f0) ((rd_T25 l0 x7_1).f1) ((rd_T25 l0 x7_1).f2) true _ A5.out).mono ?_
       rintro e w11 ⟨rfl, hb⟩
       refine ⟨_, rfl, ?_⟩
       have n0_ := am (blk_below (g := gb301) (o := .cells #[.int .i64 ((rd_T25 l0 x7_1).f0), .int .i64 ((rd_T25 l0 x7_1).f1), .string ((rd_T25 l0 x7_1).f2)] 25 (0, 0)) (by refine bk ?_; exact BK301.out) hb)
       have n1_ := am (below_step bl hb)
       clear BK301
       clear HB
       have BK301 := n0_
       have HB := n1_
       clear n0_ n1_
       (try clear hb)
       (try clear hb2)
       (try clear hk)
       (try clear hi)
       refine hK.out _ _ ⟨(blk_cell BK301.out 0).trans rfl, (blk_cell BK301.out 1).trans rfl, (blk_cell BK301.out 2).trans rfl⟩ (fun hHeld => ?_)
       clear hK K
       refine norm_ (a' := ?_) ?_ ?_
       rotate_left
       ·show Act.put _ (some 13) _ = _
        simp only [Act.put, List.setIfInBounds_toArray, List.set_cons_zero, List.set_cons_succ, i64_w, i32_w]
        rfl
       refine pure_ (i := 2) (N := some 14) #[true, true, true, false, false, false, false, false, false, false, false, false, false, false, false, false, false] rfl rfl (aT HT_.out) (fun _ _ _ h => h) (Or.inl ⟨rfl, rn⟩) ap ?_
       refine pure_ (i := 3) (N := some 15) (v := undef) (a' := ?_) #[true, true, true, true, false, false, false, false, false, false, false, false, false, false, false, false, false] rfl rfl (aT HT_.out) (fun _ _ _ h => h) (Or.inr ⟨by rfl, rfl⟩) ?_ ?_
       rotate_left
       ·exact ap
       refine pure_ (i := 4) (N := some 16) (v := undef) (a' := ?_) #[true, true, true, true, true, false, false, false, false, false, false, false, false, false, false, false, false] rfl rfl (aT HT_.out) (fun _ _ _ h => h) (Or.inr ⟨by rfl, rfl⟩) ?_ ?_
       rotate_left
       ·exact ap
       refine pure_ (i := 5) (N := some 17) (v := undef) (a' := ?_) #[true, true, true, true, true, true, false, false, false, false, false, false, false, false, false, false, false] rfl rfl (aT HT_.out) (fun _ _ _ h => h) (Or.inr ⟨by rfl, rfl⟩) ?_ ?_
       rotate_left
       ·exact ap
       refine pure_ (i := 6) (N := some 18) (v := undef) (a' := ?_) #[true, true, true, true, true, true, true, false, false, false, false, false, false, false, false, false, false] rfl rfl (aT HT_.out) (fun _ _ _ h => h) (Or.inr ⟨by rfl, rfl⟩) ?_ ?_
       rotate_left
       ·exact ap
       refine pure_ (i := 7) (N := some 19) (v := undef) (a' := ?_) #[true, true, true, true, true, true, true, true, false, false, false, false, false, false, false, false, false] rfl rfl (aT HT_.out) (fun _ _ _ h => h) (Or.inr ⟨by rfl, rfl⟩) ?_ ?_
       rotate_left
       ·exact ap
       refine pure_ (i := 8) (N := some 20) (v := undef) (a' := ?_) #[true, true, true, true, true, true, true, true, true, false, false, false, false, false, false, false, false] rfl rfl (aT HT_.out) (fun _ _ _ h => h) (Or.inr ⟨by rfl, rfl⟩) ?_ ?_
       rotate_left
       ·exact ap
       refine pure_ (i := 9) (N := some 21) (v := undef) (a' := ?_) #[true, true, true, true, true, true, true, true, true, true, false, false, false, false, false, false, false] rfl rfl (aT HT_.out) (fun _ _ _ h => h) (Or.inr ⟨by rfl, rfl⟩) ?_ ?_
       rotate_left
       ·exact ap
       refine pure_ (i := 10) (N := some 22) (v := undef) (a' := ?_) #[true, true, true, true, true, true, true, true, true, true, true, false, false, false, false, false, false] rfl rfl (aT HT_.out) (fun _ _ _ h => h) (Or.inr ⟨by rfl, rfl⟩) ?_ ?_
       rotate_left
       ·exact ap
       refine pure_ (i := 11) (N := some 23) (v := undef) (a' := ?_) #[true, true, true, true, true, true, true, true, true, true, true, true, false, false, false, false, false] rfl rfl (aT HT_.out) (fun _ _ _ h => h) (Or.inr ⟨by rfl, rfl⟩) ?_ ?_
       rotate_left
       ·exact ap
       refine pure_ (i := 12) (N := some 24) (v := undef) (a' := ?_) #[true, true, true, true, true, true, true, true, true, true, true, true, true, false, false, false, false] rfl rfl (aT HT_.out) (fun _ _ _ h => h) (Or.inr ⟨by rfl, rfl⟩) ?_ ?_
       rotate_left
       ·exact ap
       refine pure_ (i := 13) (N := some 25) (v := undef) (a' := ?_) #[true, true, true, true, true, true, true, true, true, true, true, true, true, true, false, false, false] rfl rfl (aT HT_.out) (fun _ _ _ h => h) (Or.inr ⟨by rfl, rfl⟩) ?_ ?_
       rotate_left
       ·exact ap
       refine pure_ (i := 14) (N := some 26) (v := undef) (a' := ?_) #[true, true, true, true, true, true, true, true, true, true, true, true, true, true, true, false, false] rfl rfl (aT HT_.out) (fun _ _ _ h => h) (Or.inr ⟨by rfl, rfl⟩) ?_ ?_
       rotate_left
       ·exact ap
       refine pure_ (i := 15) (N := some 27) (v := undef) (a' := ?_) #[true, true, true, true, true, true, true, true, true, true, true, true, true, true, true, true, false] rfl rfl (aT HT_.out) (fun _ _ _ h => h) (Or.inr ⟨by rfl, rfl⟩) ?_ ?_
       rotate_left
       ·exact ap
       refine pure_ (i := 16) (N := some 28) #[true, true, true, true, true, true, true, true, true, true, true, true, true, true, true, true, true] rfl rfl (aT HT_.out) (fun _ _ _ h => h) (Or.inl ⟨rfl, rn⟩) ap ?_
       refine done_ (done_of HT_.out (by kernel_rfl)) ?_
       try go_wp2
       go_ret
       exact ⟨by first | rfl | (simp [errW_none, errW_some] <;> rfl) | (simp [*, errW_none, errW_some] <;> rfl), bl⟩
      ·replace c6 := Bool.eq_false_iff.mpr c6
       subst c6
       have H1 : (if x7_1 > 0 then (if 0 ≤ (wrap64 (x7_1 - 1)) then (if (wrap64 (x7_1 - 1)) < (l0.length : Int) then (if ((rd_T25 l0 x7_1).f0) = ((rd_T25 l0 (wrap64 (x7_1 - 1))).f0) then (some false) else (normal_Is.l0 k1 l0 l0 (l0.length : Int) (wrap64 (x7_1 + 1)))) else (none)) else (none)) else (normal_Is.l0 k1 l0 l0 (l0.length : Int) (wrap64 (x7_1 + 1)))) = some r := by rw [if_neg (show ¬ (false = true) by decide)] at H; exact H
       clear H
       have H := H1
       clear H1
       by_cases c12 : x7_1 > 0
       ·rw [if_pos c12] at H
        have c12b0 : decide (0 < x7_1) = true := decide_eq_true c12
        clear c12
        obtain ⟨ji13, hji13⟩ : ∃ j_ : Int, (wrap64 (x7_1 - 1)) = j_ := ⟨_, rfl⟩
        replace H : (if 0 ≤ (ji13) then (if (ji13) < (l0.length : Int) then (if ((rd_T25 l0 x7_1).f0) = ((rd_T25 l0 (ji13)).f0) then (some false) else (normal_Is.l0 k1 l0 l0 (l0.length : Int) (wrap64 (x7_1 + 1)))) else (none)) else (none)) = some r := by first | (rw [hji13] at H; exact H) | (simp only [hji13] at H ⊢; exact H)
        (try rw [hji13] at A5)
        have hji13w : (IntKind.i64.wrap (x7_1 - 1)) = ji13 := (i64_w _).trans hji13
        by_cases c14 : 0 ≤ (ji13)
        ·rw [if_pos c14] at H
         have c14b0 : decide (0 ≤ (ji13)) = true := decide_eq_true c14
         clear c14
         by_cases c15 : (ji13) < (l0.length : Int)
         ·rw [if_pos c15] at H
          have c15b0 : decide ((ji13) < (l0.length : Int)) = true := decide_eq_true c15
          clear c15
          by_cases c16 : ((rd_T25 l0 x7_1).f0) = ((rd_T25 l0 (ji13)).f0)
          ·rw [if_pos c16] at H
           have c16b0 : (((rd_T25 l0 x7_1).f0) == ((rd_T25 l0 (ji13)).f0)) = true := beq_iff_eq.mpr c16
           have c16b1 : (((rd_T25 l0 x7_1).f0) != ((rd_T25 l0 (ji13)).f0)) = false := bne_eq_false_iff_eq.mpr c16
           clear c16
           obtain rfl := Option.some.inj H
           simp only [Option.some.injEq, Prod.mk.injEq] at H
           obtain ⟨rfl⟩ := H
           have p300 : 0 ≤ (x7_1 : Int) := of_decide_eq_true as0
           have q300 : x7_1 < (l0.length : Int) := of_decide_eq_true as0
           obtain ⟨ad300, e300, hx300_0, hx300_1, hx300_2⟩ := at_T25 HR0.out x7_1 p300 q300
           cases e300
           replace hx300_0 := (HB.out.cell (World.block_lt_of_cell? w _ hx300_0)).trans hx300_0
           replace hx300_1 := (HB.out.cell (World.block_lt_of_cell? w _ hx300_1)).trans hx300_1
           replace hx300_2 := (HB.out.cell (World.block_lt_of_cell? w _ hx300_2)).trans hx300_2
           replace p300 := eq_true p300
           replace q300 := eq_true q300
           try go_wp2_with (first | ((with_reducible refine gate_dst (N := 4) rfl ?_); refine box_event ?hg (N := 4) ?hd (cs := #[.int .i64 0, .int .i64 0, .string (⟨#[]⟩ : ByteArray)]) (t := 25) ?hr ?_; (case hd => rfl); (case hg => rfl); (case hr => first | (go_simp; done) | (go_simp; rfl)); intro gb301 hg w17 hbox hb; have n0_ := am (below_step bl hb); have n1_ := am (hbox); have n2_ := am ((gs : w.heap.size ≤ gb301)); have n3_ := am ((gs : w.heap.size ≤ gb301)); clear HB; have HB := n0_; have BK301 := n1_; have GW301 := n2_; have GE301 := n3_; clear n0_ n1_ n2_ n3_; clear hb hbox hg; have hcz18_0 : w17.cell? ⟨gb301, 0, none⟩ = some (.int .i64 0) := (blk_cell BK301.out 0).trans rfl; have hcz18_1 : w17.cell? ⟨gb301, 1, none⟩ = some (.int .i64 0) := (blk_cell BK301.out 1).trans rfl; have hcz18_2 : w17.cell? ⟨gb301, 2, none⟩ = some (.string (⟨#[]⟩ : ByteArray)) := (blk_cell BK301.out 2).trans rfl; have hfz18_0 := blk_frozen BK301.out 0; have hfz18_1 := blk_frozen BK301.out 1; have hfz18_2 := blk_frozen BK301.out 2))
           have n0_ : Aside0 ((((w17.setCell ⟨gb301, 0, none⟩ (.int .i64 ((rd_T25 l0 x7_1).f0))).setCell ⟨gb301, 1, none⟩ (.int .i64 ((rd_T25 l0 x7_1).f1))).setCell ⟨gb301, 2, none⟩ (.string ((rd_T25 l0 x7_1).f2))).heap[gb301]? = some (.cells #[.int .i64 ((rd_T25 l0 x7_1).f0), .int .i64 ((rd_T25 l0 x7_1).f1), .string ((rd_T25 l0 x7_1).f2)] 25 (0, 0))) := ⟨by refine bk ?_; refine blk_put (cs := #[.int .i64 ((rd_T25 l0 x7_1).f0), .int .i64 ((rd_T25 l0 x7_1).f1), .string (⟨#[]⟩ : ByteArray)]) ?_ 2 _ rfl; refine bk ?_; refine blk_put (cs := #[.int .i64 ((rd_T25 l0 x7_1).f0), .int .i64 0, .string (⟨#[]⟩ : ByteArray)]) ?_ 1 _ rfl; refine bk ?_; refine blk_put (cs := #[.int .i64 0, .int .i64 0, .string (⟨#[]⟩ : ByteArray)]) ?_ 0 _ rfl; refine bk ?_; exact BK301.out⟩
           have n1_ : Aside0 (Below w.heap.size w (((w17.setCell ⟨gb301, 0, none⟩ (.int .i64 ((rd_T25 l0 x7_1).f0))).setCell ⟨gb301, 1, none⟩ (.int .i64 ((rd_T25 l0 x7_1).f1))).setCell ⟨gb301, 2, none⟩ (.string ((rd_T25 l0 x7_1).f2)))) := ⟨bl⟩
           (try clear BK301)
           (try clear HB)
           generalize (((w17.setCell ⟨gb301, 0, none⟩ (.int .i64 ((rd_T25 l0 x7_1).f0))).setCell ⟨gb301, 1, none⟩ (.int .i64 ((rd_T25 l0 x7_1).f1))).setCell ⟨gb301, 2, none⟩ (.string ((rd_T25 l0 x7_1).f2))) = w19 at n0_ n1_ ⊢
           have BK301 := n0_
           have HB := n1_
           clear n0_ n1_
           have n0_ := am (blk_drew BK301.out)
           have n1_ := am (below_drew1 HB.out)
           clear BK301
           clear HB
           have BK301 := n0_
           have HB := n1_
           clear n0_ n1_
           have p303 : 0 ≤ ((ji13) : Int) := of_decide_eq_true as0
           have q303 : (ji13) < (l0.length : Int) := of_decide_eq_true as0
           obtain ⟨ad303, e303, hx303_0, hx303_1, hx303_2⟩ := at_T25 HR0.out (ji13) p303 q303
           have hw303_2 := hx303_2
           have hw303_1 := hx303_1
           have hw303_0 := hx303_0
           obtain rfl : ad300 = ad303 := (by injection e303)
           replace hx303_0 := (HB.out.cell (World.block_lt_of_cell? w _ hx303_0)).trans hx303_0
           replace hx303_1 := (HB.out.cell (World.block_lt_of_cell? w _ hx303_1)).trans hx303_1
           replace hx303_2 := (HB.out.cell (World.block_lt_of_cell? w _ hx303_2)).trans hx303_2
           replace p303 := eq_true p303
           replace q303 := eq_true q303
           refine start_ (n := 17) (S := fun w' => w'.cell? ⟨gb301, 0, none⟩ = some (.int .i64 ((rd_T25 l0 x7_1).f0)) ∧ w'.cell? ⟨gb301, 1, none⟩ = some (.int .i64 ((rd_T25 l0 x7_1).f1)) ∧ w'.cell? ⟨gb301, 2, none⟩ = some (.string ((rd_T25 l0 x7_1).f2)) ∧ w'.cell? (ad300.add (((ji13)).toNat * 3)) = some (.int .i64 ((rd_T25 l0 (ji13)).f0)) ∧ w'.cell? ⟨(ad300.add (((ji13)).toNat * 3)).block, (ad300.add (((ji13)).toNat * 3)).off + 1, none⟩ = some (.int .i64 ((rd_T25 l0 (ji13)).f1)) ∧ w'.cell? ⟨(ad300.add (((ji13)).toNat * 3)).block, (ad300.add (((ji13)).toNat * 3)).off + 2, none⟩ = some (.string ((rd_T25 l0 (ji13)).f2))) (ds := []) #[false, false, false, false, false, false, false, false, false, false, false, false, false, false, false, false, false] (by kernel_rfl) rfl rfl ⟨(blk_cell BK301.out 0).trans rfl, (blk_cell BK301.out 1).trans rfl, (blk_cell BK301.out 2).trans rfl, ((HB.out.cell (World.block_lt_of_cell? w _ hw303_0)).trans hw303_0), ((HB.out.cell (World.block_lt_of_cell? w _ hw303_1)).trans hw303_1), ((HB.out.cell (World.block_lt_of_cell? w _ hw303_2)).trans hw303_2)⟩ (fun hHeld => ?_); refine with_tabW normal_Is.tab4 normal_Is.bits4 (fun HT_ HW_ => ?_)
           generalize w19.drew = w20 at BK301 HB hx303_0 hx303_1 hx303_2 hHeld ⊢
           refine take_ (i := 0) (N := some 12) (v := ?_) (a' := ?_) #[true, false, false, false, false, false, false, false, false, false, false, false, false, false, false, false, false] rfl rfl (take_ofW HT_.out HW_.out (by kernel_rfl)) (fun _ _ _ h => h) (Or.inl ⟨by rfl, ?_⟩) hHeld ?_ ?_
           rotate_left
           ·rintro w' ⟨s0, s1, s2, s3, s4, s5⟩
            go_simp
            with_reducible rfl
           rotate_left
           ·exact ap
           refine one_ (i := 1) (N := some 13) #[true, true, false, false, false, false, false, false, false, false, false, false, false, false, false, false, false] rfl rfl (one_of HT_.out (by kernel_rfl)) (by decide) (fun K hK => ?_)
           refine goes_ Tryd.func74 (by kernel_rfl) rfl #[.agg #[.int .i64 ((rd_T25 l0 x7_1).f0), .int .i64 ((rd_T25 l0 x7_1).f1), .string ((rd_T25 l0 x7_1).f2)]] (by rfl) rfl rfl ar ?_
           with_reducible refine (normal_empty.calls ((rd_T25 l0 x7_1).f0) ((rd_T25 l0 x7_1).f1) ((rd_T25 l0 x7_1).f2) false _ A5.out).mono ?_
           rintro e w21 ⟨rfl, hb⟩
           refine ⟨_, rfl, ?_⟩
           have n0_ := am (blk_below (g := gb301) (o := .cells #[.int .i64 ((rd_T25 l0 x7_1).f0), .int .i64 ((rd_T25 l0 x7_1).f1), .string ((rd_T25 l0 x7_1).f2)] 25 (0, 0)) (by refine bk ?_; exact BK301.out) hb)
           have n1_ := am (below_step bl hb)
           clear BK301
           clear HB
           have BK301 := n0_
           have HB := n1_
           clear n0_ n1_
           (try clear hb)
           (try clear hb2)
           (try clear hk)
           (try clear hi)
           refine hK.out _ _ ⟨(blk_cell BK301.out 0).trans rfl, (blk_cell BK301.out 1).trans rfl, (blk_cell BK301.out 2).trans rfl, ((HB.out.cell (World.block_lt_of_cell? w _ hw303_0)).trans hw303_0), ((HB.out.cell (World.block_lt_of_cell? w _ hw303_1)).trans hw303_1), ((HB.out.cell (World.block_lt_of_cell? w _ hw303_2)).trans hw303_2)⟩ (fun hHeld => ?_)
           clear hK K
           refine norm_ (a' := ?_) ?_ ?_
           rotate_left
           ·show Act.put _ (some 13) _ = _
            simp only [Act.put, List.setIfInBounds_toArray, List.set_cons_zero, List.set_cons_succ, i64_w, i32_w]
            rfl
           refine pure_ (i := 2) (N := some 14) #[true, true, true, false, false, false, false, false, false, false, false, false, false, false, false, false, false] rfl rfl (aT HT_.out) (fun _ _ _ h => h) (Or.inl ⟨rfl, rn⟩) ap ?_
           refine pure_ (i := 3) (N := some 15) #[true, true, true, true, false, false, false, false, false, false, false, false, false, false, false, false, false] rfl rfl (aT HT_.out) (fun _ _ _ h => h) (Or.inl ⟨rfl, rn⟩) ap ?_
           refine pure_ (i := 4) (N := some 16) #[true, true, true, true, true, false, false, false, false, false, false, false, false, false, false, false, false] rfl rfl (aT HT_.out) (fun _ _ _ h => h) (Or.inl ⟨rfl, rn⟩) ap ?_
           refine pure_ (i := 5) (N := some 17) #[true, true, true, true, true, true, false, false, false, false, false, false, false, false, false, false, false] rfl rfl (aT HT_.out) (fun _ _ _ h => h) (Or.inl ⟨rfl, rn⟩) ap ?_
           refine pure_ (i := 6) (N := some 18) #[true, true, true, true, true, true, true, false, false, false, false, false, false, false, false, false, false] rfl rfl (aT HT_.out) (fun _ _ _ h => h) (Or.inl ⟨rfl, rn⟩) ap ?_
           refine pure_ (i := 8) (N := some 20) #[true, true, true, true, true, true, true, false, true, false, false, false, false, false, false, false, false] rfl rfl (aT HT_.out) (fun _ _ _ h => h) (Or.inl ⟨rfl, rn⟩) ap ?_
           refine pure_ (i := 9) (N := some 21) #[true, true, true, true, true, true, true, false, true, true, false, false, false, false, false, false, false] rfl rfl (aT HT_.out) (fun _ _ _ h => h) (Or.inl ⟨rfl, rn⟩) ap ?_
           refine pure_ (i := 10) (N := some 22) #[true, true, true, true, true, true, true, false, true, true, true, false, false, false, false, false, false] rfl rfl (aT HT_.out) (fun _ _ _ h => h) (Or.inl ⟨rfl, rn⟩) ap ?_
           refine pure_ (i := 11) (N := some 23) #[true, true, true, true, true, true, true, false, true, true, true, true, false, false, false, false, false] rfl rfl (aT HT_.out) (fun _ _ _ h => h) (Or.inl ⟨rfl, rn⟩) ap ?_
           refine pure_ (i := 12) (N := some 24) #[true, true, true, true, true, true, true, false, true, true, true, true, true, false, false, false, false] rfl rfl (aT HT_.out) (fun _ _ _ h => h) (Or.inl ⟨rfl, rn⟩) ap ?_
           refine take_ (i := 7) (N := some 19) (v := ?_) (a' := ?_) #[true, true, true, true, true, true, true, true, true, true, true, true, true, false, false, false, false] rfl rfl (take_ofW HT_.out HW_.out (by kernel_rfl)) (fun _ _ _ h => h) (Or.inl ⟨by rfl, ?_⟩) hHeld ?_ ?_
           rotate_left
           ·rintro w' ⟨s0, s1, s2, s3, s4, s5⟩
            go_simp
            with_reducible rfl
           rotate_left
           ·exact ap
           refine take_ (i := 13) (N := some 25) (v := ?_) (a' := ?_) #[true, true, true, true, true, true, true, true, true, true, true, true, true, true, false, false, false] rfl rfl (take_ofW HT_.out HW_.out (by kernel_rfl)) (fun _ _ _ h => h) (Or.inl ⟨by rfl, ?_⟩) hHeld ?_ ?_
           rotate_left
           ·rintro w' ⟨s0, s1, s2, s3, s4, s5⟩
            go_simp
            with_reducible rfl
           rotate_left
           ·exact ap
           refine pure_ (i := 14) (N := some 26) #[true, true, true, true, true, true, true, true, true, true, true, true, true, true, true, false, false] rfl rfl (aT HT_.out) (fun _ _ _ h => h) (Or.inl ⟨rfl, rn⟩) ap ?_
           refine pure_ (i := 15) (N := some 27) #[true, true, true, true, true, true, true, true, true, true, true, true, true, true, true, true, false] rfl rfl (aT HT_.out) (fun _ _ _ h => h) (Or.inl ⟨rfl, rn⟩) ap ?_
           refine pure_ (i := 16) (N := some 28) #[true, true, true, true, true, true, true, true, true, true, true, true, true, true, true, true, true] rfl rfl (aT HT_.out) (fun _ _ _ h => h) (Or.inl ⟨rfl, rn⟩) ap ?_
           refine done_ (done_of HT_.out (by kernel_rfl)) ?_
           try go_wp2
           go_ret
           exact ⟨by first | rfl | (simp [errW_none, errW_some] <;> rfl) | (simp only [← hji13]; first | rfl | (simp [errW_none, errW_some] <;> rfl)) | (simp [*, errW_none, errW_some] <;> rfl), bl⟩
          ·rw [if_neg c16] at H
           have c16b0 : (((rd_T25 l0 x7_1).f0) == ((rd_T25 l0 (ji13)).f0)) = false := beq_eq_false_iff_ne.mpr c16
           have c16b1 : (((rd_T25 l0 x7_1).f0) != ((rd_T25 l0 (ji13)).f0)) = true := bne_iff_ne.mpr c16
           have H' := am H
           clear H
           have p300 : 0 ≤ (x7_1 : Int) := of_decide_eq_true as0
           have q300 : x7_1 < (l0.length : Int) := of_decide_eq_true as0
           obtain ⟨ad300, e300, hx300_0, hx300_1, hx300_2⟩ := at_T25 HR0.out x7_1 p300 q300
           cases e300
           replace hx300_0 := (HB.out.cell (World.block_lt_of_cell? w _ hx300_0)).trans hx300_0
           replace hx300_1 := (HB.out.cell (World.block_lt_of_cell? w _ hx300_1)).trans hx300_1
           replace hx300_2 := (HB.out.cell (World.block_lt_of_cell? w _ hx300_2)).trans hx300_2
           replace p300 := eq_true p300
           replace q300 := eq_true q300
           try go_wp2_with (first | ((with_reducible refine gate_dst (N := 4) rfl ?_); refine box_event ?hg (N := 4) ?hd (cs := #[.int .i64 0, .int .i64 0, .string (⟨#[]⟩ : ByteArray)]) (t := 25) ?hr ?_; (case hd => rfl); (case hg => rfl); (case hr => first | (go_simp; done) | (go_simp; rfl)); intro gb301 hg w22 hbox hb; have n0_ := am (below_step bl hb); have n1_ := am (hbox); have n2_ := am ((gs : w.heap.size ≤ gb301)); have n3_ := am ((gs : w.heap.size ≤ gb301)); clear HB; have HB := n0_; have BK301 := n1_; have GW301 := n2_; have GE301 := n3_; clear n0_ n1_ n2_ n3_; clear hb hbox hg; have hcz23_0 : w22.cell? ⟨gb301, 0, none⟩ = some (.int .i64 0) := (blk_cell BK301.out 0).trans rfl; have hcz23_1 : w22.cell? ⟨gb301, 1, none⟩ = some (.int .i64 0) := (blk_cell BK301.out 1).trans rfl; have hcz23_2 : w22.cell? ⟨gb301, 2, none⟩ = some (.string (⟨#[]⟩ : ByteArray)) := (blk_cell BK301.out 2).trans rfl; have hfz23_0 := blk_frozen BK301.out 0; have hfz23_1 := blk_frozen BK301.out 1; have hfz23_2 := blk_frozen BK301.out 2))
           have n0_ : Aside0 ((((w22.setCell ⟨gb301, 0, none⟩ (.int .i64 ((rd_T25 l0 x7_1).f0))).setCell ⟨gb301, 1, none⟩ (.int .i64 ((rd_T25 l0 x7_1).f1))).setCell ⟨gb301, 2, none⟩ (.string ((rd_T25 l0 x7_1).f2))).heap[gb301]? = some (.cells #[.int .i64 ((rd_T25 l0 x7_1).f0), .int .i64 ((rd_T25 l0 x7_1).f1), .string ((rd_T25 l0 x7_1).f2)] 25 (0, 0))) := ⟨by refine bk ?_; refine blk_put (cs := #[.int .i64 ((rd_T25 l0 x7_1).f0), .int .i64 ((rd_T25 l0 x7_1).f1), .string (⟨#[]⟩ : ByteArray)]) ?_ 2 _ rfl; refine bk ?_; refine blk_put (cs := #[.int .i64 ((rd_T25 l0 x7_1).f0), .int .i64 0, .string (⟨#[]⟩ : ByteArray)]) ?_ 1 _ rfl; refine bk ?_; refine blk_put (cs := #[.int .i64 0, .int .i64 0, .string (⟨#[]⟩ : ByteArray)]) ?_ 0 _ rfl; refine bk ?_; exact BK301.out⟩
           have n1_ : Aside0 (Below w.heap.size w (((w22.setCell ⟨gb301, 0, none⟩ (.int .i64 ((rd_T25 l0 x7_1).f0))).setCell ⟨gb301, 1, none⟩ (.int .i64 ((rd_T25 l0 x7_1).f1))).setCell ⟨gb301, 2, none⟩ (.string ((rd_T25 l0 x7_1).f2)))) := ⟨bl⟩
           (try clear BK301)
           (try clear HB)
           generalize (((w22.setCell ⟨gb301, 0, none⟩ (.int .i64 ((rd_T25 l0 x7_1).f0))).setCell ⟨gb301, 1, none⟩ (.int .i64 ((rd_T25 l0 x7_1).f1))).setCell ⟨gb301, 2, none⟩ (.string ((rd_T25 l0 x7_1).f2))) = w24 at n0_ n1_ ⊢
           have BK301 := n0_
           have HB := n1_
           clear n0_ n1_
           have n0_ := am (blk_drew BK301.out)
           have n1_ := am (below_drew1 HB.out)
           clear BK301
           clear HB
           have BK301 := n0_
           have HB := n1_
           clear n0_ n1_
           have p303 : 0 ≤ ((ji13) : Int) := of_decide_eq_true as0
           have q303 : (ji13) < (l0.length : Int) := of_decide_eq_true as0
           obtain ⟨ad303, e303, hx303_0, hx303_1, hx303_2⟩ := at_T25 HR0.out (ji13) p303 q303
           have hw303_2 := hx303_2
           have hw303_1 := hx303_1
           have hw303_0 := hx303_0
           obtain rfl : ad300 = ad303 := (by injection e303)
           replace hx303_0 := (HB.out.cell (World.block_lt_of_cell? w _ hx303_0)).trans hx303_0
           replace hx303_1 := (HB.out.cell (World.block_lt_of_cell? w _ hx303_1)).trans hx303_1
           replace hx303_2 := (HB.out.cell (World.block_lt_of_cell? w _ hx303_2)).trans hx303_2
           replace p303 := eq_true p303
           replace q303 := eq_true q303
           refine start_ (n := 17) (S := fun w' => w'.cell? ⟨gb301, 0, none⟩ = some (.int .i64 ((rd_T25 l0 x7_1).f0)) ∧ w'.cell? ⟨gb301, 1, none⟩ = some (.int .i64 ((rd_T25 l0 x7_1).f1)) ∧ w'.cell? ⟨gb301, 2, none⟩ = some (.string ((rd_T25 l0 x7_1).f2)) ∧ w'.cell? (ad300.add (((ji13)).toNat * 3)) = some (.int .i64 ((rd_T25 l0 (ji13)).f0)) ∧ w'.cell? ⟨(ad300.add (((ji13)).toNat * 3)).block, (ad300.add (((ji13)).toNat * 3)).off + 1, none⟩ = some (.int .i64 ((rd_T25 l0 (ji13)).f1)) ∧ w'.cell? ⟨(ad300.add (((ji13)).toNat * 3)).block, (ad300.add (((ji13)).toNat * 3)).off + 2, none⟩ = some (.string ((rd_T25 l0 (ji13)).f2))) (ds := []) #[false, false, false, false, false, false, false, false, false, false, false, false, false, false, false, false, false] (by kernel_rfl) rfl rfl ⟨(blk_cell BK301.out 0).trans rfl, (blk_cell BK301.out 1).trans rfl, (blk_cell BK301.out 2).trans rfl, ((HB.out.cell (World.block_lt_of_cell? w _ hw303_0)).trans hw303_0), ((HB.out.cell (World.block_lt_of_cell? w _ hw303_1)).trans hw303_1), ((HB.out.cell (World.block_lt_of_cell? w _ hw303_2)).trans hw303_2)⟩ (fun hHeld => ?_); refine with_tabW normal_Is.tab4 normal_Is.bits4 (fun HT_ HW_ => ?_)
           generalize w24.drew = w25 at BK301 HB hx303_0 hx303_1 hx303_2 hHeld ⊢
           refine take_ (i := 0) (N := some 12) (v := ?_) (a' := ?_) #[true, false, false, false, false, false, false, false, false, false, false, false, false, false, false, false, false] rfl rfl (take_ofW HT_.out HW_.out (by kernel_rfl)) (fun _ _ _ h => h) (Or.inl ⟨by rfl, ?_⟩) hHeld ?_ ?_
           rotate_left
           ·rintro w' ⟨s0, s1, s2, s3, s4, s5⟩
            go_simp
            with_reducible rfl
           rotate_left
           ·exact ap
           refine one_ (i := 1) (N := some 13) #[true, true, false, false, false, false, false, false, false, false, false, false, false, false, false, false, false] rfl rfl (one_of HT_.out (by kernel_rfl)) (by decide) (fun K hK => ?_)
           refine goes_ Tryd.func74 (by kernel_rfl) rfl #[.agg #[.int .i64 ((rd_T25 l0 x7_1).f0), .int .i64 ((rd_T25 l0 x7_1).f1), .string ((rd_T25 l0 x7_1).f2)]] (by rfl) rfl rfl ar ?_
           with_reducible refine (normal_empty.calls ((rd_T25 l0 x7_1).f0) ((rd_T25 l0 x7_1).f1) ((rd_T25 l0 x7_1).f2) false _ A5.out).mono ?_
           rintro e w26 ⟨rfl, hb⟩
           refine ⟨_, rfl, ?_⟩
           have n0_ := am (blk_below (g := gb301) (o := .cells #[.int .i64 ((rd_T25 l0 x7_1).f0), .int .i64 ((rd_T25 l0 x7_1).f1), .string ((rd_T25 l0 x7_1).f2)] 25 (0, 0)) (by refine bk ?_; exact BK301.out) hb)
           have n1_ := am (below_step bl hb)
           clear BK301
           clear HB
           have BK301 := n0_
           have HB := n1_
           clear n0_ n1_
           (try clear hb)
           (try clear hb2)
           (try clear hk)
           (try clear hi)
           refine hK.out _ _ ⟨(blk_cell BK301.out 0).trans rfl, (blk_cell BK301.out 1).trans rfl, (blk_cell BK301.out 2).trans rfl, ((HB.out.cell (World.block_lt_of_cell? w _ hw303_0)).trans hw303_0), ((HB.out.cell (World.block_lt_of_cell? w _ hw303_1)).trans hw303_1), ((HB.out.cell (World.block_lt_of_cell? w _ hw303_2)).trans hw303_2)⟩ (fun hHeld => ?_)
           clear hK K
           refine norm_ (a' := ?_) ?_ ?_
           rotate_left
           ·show Act.put _ (some 13) _ = _
            simp only [Act.put, List.setIfInBounds_toArray, List.set_cons_zero, List.set_cons_succ, i64_w, i32_w]
            rfl
           refine pure_ (i := 2) (N := some 14) #[true, true, true, false, false, false, false, false, false, false, false, false, false, false, false, false, false] rfl rfl (aT HT_.out) (fun _ _ _ h => h) (Or.inl ⟨rfl, rn⟩) ap ?_
           refine pure_ (i := 3) (N := some 15) #[true, true, true, true, false, false, false, false, false, false, false, false, false, false, false, false, false] rfl rfl (aT HT_.out) (fun _ _ _ h => h) (Or.inl ⟨rfl, rn⟩) ap ?_
           refine pure_ (i := 4) (N := some 16) #[true, true, true, true, true, false, false, false, false, false, false, false, false, false, false, false, false] rfl rfl (aT HT_.out) (fun _ _ _ h => h) (Or.inl ⟨rfl, rn⟩) ap ?_
           refine pure_ (i := 5) (N := some 17) #[true, true, true, true, true, true, false, false, false, false, false, false, false, false, false, false, false] rfl rfl (aT HT_.out) (fun _ _ _ h => h) (Or.inl ⟨rfl, rn⟩) ap ?_
           refine pure_ (i := 6) (N := some 18) #[true, true, true, true, true, true, true, false, false, false, false, false, false, false, false, false, false] rfl rfl (aT HT_.out) (fun _ _ _ h => h) (Or.inl ⟨rfl, rn⟩) ap ?_
           refine pure_ (i := 8) (N := some 20) #[true, true, true, true, true, true, true, false, true, false, false, false, false, false, false, false, false] rfl rfl (aT HT_.out) (fun _ _ _ h => h) (Or.inl ⟨rfl, rn⟩) ap ?_
           refine pure_ (i := 9) (N := some 21) #[true, true, true, true, true, true, true, false, true, true, false, false, false, false, false, false, false] rfl rfl (aT HT_.out) (fun _ _ _ h => h) (Or.inl ⟨rfl, rn⟩) ap ?_
           refine pure_ (i := 10) (N := some 22) #[true, true, true, true, true, true, true, false, true, true, true, false, false, false, false, false, false] rfl rfl (aT HT_.out) (fun _ _ _ h => h) (Or.inl ⟨rfl, rn⟩) ap ?_
           refine pure_ (i := 11) (N := some 23) #[true, true, true, true, true, true, true, false, true, true, true, true, false, false, false, false, false] rfl rfl (aT HT_.out) (fun _ _ _ h => h) (Or.inl ⟨rfl, rn⟩) ap ?_
           refine pure_ (i := 12) (N := some 24) #[true, true, true, true, true, true, true, false, true, true, true, true, true, false, false, false, false] rfl rfl (aT HT_.out) (fun _ _ _ h => h) (Or.inl ⟨rfl, rn⟩) ap ?_
           refine take_ (i := 7) (N := some 19) (v := ?_) (a' := ?_) #[true, true, true, true, true, true, true, true, true, true, true, true, true, false, false, false, false] rfl rfl (take_ofW HT_.out HW_.out (by kernel_rfl)) (fun _ _ _ h => h) (Or.inl ⟨by rfl, ?_⟩) hHeld ?_ ?_
           rotate_left
           ·rintro w' ⟨s0, s1, s2, s3, s4, s5⟩
            go_simp
            with_reducible rfl
           rotate_left
           ·exact ap
           refine take_ (i := 13) (N := some 25) (v := ?_) (a' := ?_) #[true, true, true, true, true, true, true, true, true, true, true, true, true, true, false, false, false] rfl rfl (take_ofW HT_.out HW_.out (by kernel_rfl)) (fun _ _ _ h => h) (Or.inl ⟨by rfl, ?_⟩) hHeld ?_ ?_
           rotate_left
           ·rintro w' ⟨s0, s1, s2, s3, s4, s5⟩
            go_simp
            with_reducible rfl
           rotate_left
           ·exact ap
           refine pure_ (i := 14) (N := some 26) #[true, true, true, true, true, true, true, true, true, true, true, true, true, true, true, false, false] rfl rfl (aT HT_.out) (fun _ _ _ h => h) (Or.inl ⟨rfl, rn⟩) ap ?_
           refine pure_ (i := 15) (N := some 27) #[true, true, true, true, true, true, true, true, true, true, true, true, true, true, true, true, false] rfl rfl (aT HT_.out) (fun _ _ _ h => h) (Or.inl ⟨rfl, rn⟩) ap ?_
           refine pure_ (i := 16) (N := some 28) #[true, true, true, true, true, true, true, true, true, true, true, true, true, true, true, true, true] rfl rfl (aT HT_.out) (fun _ _ _ h => h) (Or.inl ⟨rfl, rn⟩) ap ?_
           refine done_ (done_of HT_.out (by kernel_rfl)) ?_
           try go_wp2
           go_roundg k1
           case measure => have := HK1.out; omega
           case rel => exact ⟨(wrap64 (x7_1 + 1)), pj, H', ⟨by have := HK1.out; omega⟩, ⟨bl⟩⟩
         ·rw [if_neg c15] at H
          exact absurd H (by simp)
        ·rw [if_neg c14] at H
         exact absurd H (by simp)
       ·rw [if_neg c12] at H
        have c12b0 : decide (0 < x7_1) = false := decide_eq_false c12
        clear c12
        have H' := am H
        clear H
        have p300 : 0 ≤ (x7_1 : Int) := of_decide_eq_true as0
        have q300 : x7_1 < (l0.length : Int) := of_decide_eq_true as0
        obtain ⟨ad300, e300, hx300_0, hx300_1, hx300_2⟩ := at_T25 HR0.out x7_1 p300 q300
        cases e300
        replace hx300_0 := (HB.out.cell (World.block_lt_of_cell? w _ hx300_0)).trans hx300_0
        replace hx300_1 := (HB.out.cell (World.block_lt_of_cell? w _ hx300_1)).trans hx300_1
        replace hx300_2 := (HB.out.cell (World.block_lt_of_cell? w _ hx300_2)).trans hx300_2
        replace p300 := eq_true p300
        replace q300 := eq_true q300
        try go_wp2_with (first | ((with_reducible refine gate_dst (N := 4) rfl ?_); refine box_event ?hg (N := 4) ?hd (cs := #[.int .i64 0, .int .i64 0, .string (⟨#[]⟩ : ByteArray)]) (t := 25) ?hr ?_; (case hd => rfl); (case hg => rfl); (case hr => first | (go_simp; done) | (go_simp; rfl)); intro gb301 hg w27 hbox hb; have n0_ := am (below_step bl hb); have n1_ := am (hbox); have n2_ := am ((gs : w.heap.size ≤ gb301)); have n3_ := am ((gs : w.heap.size ≤ gb301)); clear HB; have HB := n0_; have BK301 := n1_; have GW301 := n2_; have GE301 := n3_; clear n0_ n1_ n2_ n3_; clear hb hbox hg; have hcz28_0 : w27.cell? ⟨gb301, 0, none⟩ = some (.int .i64 0) := (blk_cell BK301.out 0).trans rfl; have hcz28_1 : w27.cell? ⟨gb301, 1, none⟩ = some (.int .i64 0) := (blk_cell BK301.out 1).trans rfl; have hcz28_2 : w27.cell? ⟨gb301, 2, none⟩ = some (.string (⟨#[]⟩ : ByteArray)) := (blk_cell BK301.out 2).trans rfl; have hfz28_0 := blk_frozen BK301.out 0; have hfz28_1 := blk_frozen BK301.out 1; have hfz28_2 := blk_frozen BK301.out 2))
        have n0_ : Aside0 ((((w27.setCell ⟨gb301, 0, none⟩ (.int .i64 ((rd_T25 l0 x7_1).f0))).setCell ⟨gb301, 1, none⟩ (.int .i64 ((rd_T25 l0 x7_1).f1))).setCell ⟨gb301, 2, none⟩ (.string ((rd_T25 l0 x7_1).f2))).heap[gb301]? = some (.cells #[.int .i64 ((rd_T25 l0 x7_1).f0), .int .i64 ((rd_T25 l0 x7_1).f1), .string ((rd_T25 l0 x7_1).f2)] 25 (0, 0))) := ⟨by refine bk ?_; refine blk_put (cs := #[.int .i64 ((rd_T25 l0 x7_1).f0), .int .i64 ((rd_T25 l0 x7_1).f1), .string (⟨#[]⟩ : ByteArray)]) ?_ 2 _ rfl; refine bk ?_; refine blk_put (cs := #[.int .i64 ((rd_T25 l0 x7_1).f0), .int .i64 0, .string (⟨#[]⟩ : ByteArray)]) ?_ 1 _ rfl; refine bk ?_; refine blk_put (cs := #[.int .i64 0, .int .i64 0, .string (⟨#[]⟩ : ByteArray)]) ?_ 0 _ rfl; refine bk ?_; exact BK301.out⟩
        have n1_ : Aside0 (Below w.heap.size w (((w27.setCell ⟨gb301, 0, none⟩ (.int .i64 ((rd_T25 l0 x7_1).f0))).setCell ⟨gb301, 1, none⟩ (.int .i64 ((rd_T25 l0 x7_1).f1))).setCell ⟨gb301, 2, none⟩ (.string ((rd_T25 l0 x7_1).f2)))) := ⟨bl⟩
        (try clear BK301)
        (try clear HB)
        generalize (((w27.setCell ⟨gb301, 0, none⟩ (.int .i64 ((rd_T25 l0 x7_1).f0))).setCell ⟨gb301, 1, none⟩ (.int .i64 ((rd_T25 l0 x7_1).f1))).setCell ⟨gb301, 2, none⟩ (.string ((rd_T25 l0 x7_1).f2))) = w29 at n0_ n1_ ⊢
        have BK301 := n0_
        have HB := n1_
        clear n0_ n1_
        have n0_ := am (blk_drew BK301.out)
        have n1_ := am (below_drew1 HB.out)
        clear BK301
        clear HB
        have BK301 := n0_
        have HB := n1_
        clear n0_ n1_
        refine start_ (n := 17) (S := fun w' => w'.cell? ⟨gb301, 0, none⟩ = some (.int .i64 ((rd_T25 l0 x7_1).f0)) ∧ w'.cell? ⟨gb301, 1, none⟩ = some (.int .i64 ((rd_T25 l0 x7_1).f1)) ∧ w'.cell? ⟨gb301, 2, none⟩ = some (.string ((rd_T25 l0 x7_1).f2))) (ds := []) #[false, false, false, false, false, false, false, false, false, false, false, false, false, false, false, false, false] (by kernel_rfl) rfl rfl ⟨(blk_cell BK301.out 0).trans rfl, (blk_cell BK301.out 1).trans rfl, (blk_cell BK301.out 2).trans rfl⟩ (fun hHeld => ?_); refine with_tabW normal_Is.tab4 normal_Is.bits4 (fun HT_ HW_ => ?_)
        generalize w29.drew = w30 at BK301 HB hHeld ⊢
        refine take_ (i := 0) (N := some 12) (v := ?_) (a' := ?_) #[true, false, false, false, false, false, false, false, false, false, false, false, false, false, false, false, false] rfl rfl (take_ofW HT_.out HW_.out (by kernel_rfl)) (fun _ _ _ h => h) (Or.inl ⟨by rfl, ?_⟩) hHeld ?_ ?_
        rotate_left
        ·rintro w' ⟨s0, s1, s2⟩
         go_simp
         with_reducible rfl
        rotate_left
        ·exact ap
        refine one_ (i := 1) (N := some 13) #[true, true, false, false, false, false, false, false, false, false, false, false, false, false, false, false, false] rfl rfl (one_of HT_.out (by kernel_rfl)) (by decide) (fun K hK => ?_)
        refine goes_ Tryd.func74 (by kernel_rfl) rfl #[.agg #[.int .i64 ((rd_T25 l0 x7_1).f0), .int .i64 ((rd_T25 l0 x7_1).f1), .string ((rd_T25 l0 x7_1).f2)]] (by rfl) rfl rfl ar ?_
        with_reducible refine (normal_empty.calls ((rd_T25 l0 x7_1).f0) ((rd_T25 l0 x7_1).f1) ((rd_T25 l0 x7_1).f2) false _ A5.out).mono ?_
        rintro e w31 ⟨rfl, hb⟩
        refine ⟨_, rfl, ?_⟩
        have n0_ := am (blk_below (g := gb301) (o := .cells #[.int .i64 ((rd_T25 l0 x7_1).f0), .int .i64 ((rd_T25 l0 x7_1).f1), .string ((rd_T25 l0 x7_1).f2)] 25 (0, 0)) (by refine bk ?_; exact BK301.out) hb)
        have n1_ := am (below_step bl hb)
        clear BK301
        clear HB
        have BK301 := n0_
        have HB := n1_
        clear n0_ n1_
        (try clear hb)
        (try clear hb2)
        (try clear hk)
        (try clear hi)
        refine hK.out _ _ ⟨(blk_cell BK301.out 0).trans rfl, (blk_cell BK301.out 1).trans rfl, (blk_cell BK301.out 2).trans rfl⟩ (fun hHeld => ?_)
        clear hK K
        refine norm_ (a' := ?_) ?_ ?_
        rotate_left
        ·show Act.put _ (some 13) _ = _
         simp only [Act.put, List.setIfInBounds_toArray, List.set_cons_zero, List.set_cons_succ, i64_w, i32_w]
         rfl
        refine pure_ (i := 2) (N := some 14) #[true, true, true, false, false, false, false, false, false, false, false, false, false, false, false, false, false] rfl rfl (aT HT_.out) (fun _ _ _ h => h) (Or.inl ⟨rfl, rn⟩) ap ?_
        refine pure_ (i := 3) (N := some 15) #[true, true, true, true, false, false, false, false, false, false, false, false, false, false, false, false, false] rfl rfl (aT HT_.out) (fun _ _ _ h => h) (Or.inl ⟨rfl, rn⟩) ap ?_
        refine pure_ (i := 4) (N := some 16) #[true, true, true, true, true, false, false, false, false, false, false, false, false, false, false, false, false] rfl rfl (aT HT_.out) (fun _ _ _ h => h) (Or.inl ⟨rfl, rn⟩) ap ?_
        refine pure_ (i := 5) (N := some 17) #[true, true, true, true, true, true, false, false, false, false, false, false, false, false, false, false, false] rfl rfl (aT HT_.out) (fun _ _ _ h => h) (Or.inl ⟨rfl, rn⟩) ap ?_
        refine pure_ (i := 6) (N := some 18) (v := undef) (a' := ?_) #[true, true, true, true, true, true, true, false, false, false, false, false, false, false, false, false, false] rfl rfl (aT HT_.out) (fun _ _ _ h => h) (Or.inr ⟨by rfl, rfl⟩) ?_ ?_
        rotate_left
        ·exact ap
        refine pure_ (i := 7) (N := some 19) (v := undef) (a' := ?_) #[true, true, true, true, true, true, true, true, false, false, false, false, false, false, false, false, false] rfl rfl (aT HT_.out) (fun _ _ _ h => h) (Or.inr ⟨by rfl, rfl⟩) ?_ ?_
        rotate_left
        ·exact ap
        refine pure_ (i := 8) (N := some 20) (v := undef) (a' := ?_) #[true, true, true, true, true, true, true, true, true, false, false, false, false, false, false, false, false] rfl rfl (aT HT_.out) (fun _ _ _ h => h) (Or.inr ⟨by rfl, rfl⟩) ?_ ?_
        rotate_left
        ·exact ap
        refine pure_ (i := 9) (N := some 21) (v := undef) (a' := ?_) #[true, true, true, true, true, true, true, true, true, true, false, false, false, false, false, false, false] rfl rfl (aT HT_.out) (fun _ _ _ h => h) (Or.inr ⟨by rfl, rfl⟩) ?_ ?_
        rotate_left
        ·exact ap
        refine pure_ (i := 10) (N := some 22) (v := undef) (a' := ?_) #[true, true, true, true, true, true, true, true, true, true, true, false, false, false, false, false, false] rfl rfl (aT HT_.out) (fun _ _ _ h => h) (Or.inr ⟨by rfl, rfl⟩) ?_ ?_
        rotate_left
        ·exact ap
        refine pure_ (i := 11) (N := some 23) (v := undef) (a' := ?_) #[true, true, true, true, true, true, true, true, true, true, true, true, false, false, false, false, false] rfl rfl (aT HT_.out) (fun _ _ _ h => h) (Or.inr ⟨by rfl, rfl⟩) ?_ ?_
        rotate_left
        ·exact ap
        refine pure_ (i := 12) (N := some 24) (v := undef) (a' := ?_) #[true, true, true, true, true, true, true, true, true, true, true, true, true, false, false, false, false] rfl rfl (aT HT_.out) (fun _ _ _ h => h) (Or.inr ⟨by rfl, rfl⟩) ?_ ?_
        rotate_left
        ·exact ap
        refine pure_ (i := 13) (N := some 25) (v := undef) (a' := ?_) #[true, true, true, true, true, true, true, true, true, true, true, true, true, true, false, false, false] rfl rfl (aT HT_.out) (fun _ _ _ h => h) (Or.inr ⟨by rfl, rfl⟩) ?_ ?_
        rotate_left
        ·exact ap
        refine pure_ (i := 14) (N := some 26) (v := undef) (a' := ?_) #[true, true, true, true, true, true, true, true, true, true, true, true, true, true, true, false, false] rfl rfl (aT HT_.out) (fun _ _ _ h => h) (Or.inr ⟨by rfl, rfl⟩) ?_ ?_
        rotate_left
        ·exact ap
        refine pure_ (i := 15) (N := some 27) #[true, true, true, true, true, true, true, true, true, true, true, true, true, true, true, true, false] rfl rfl (aT HT_.out) (fun _ _ _ h => h) (Or.inl ⟨rfl, rn⟩) ap ?_
        refine pure_ (i := 16) (N := some 28) #[true, true, true, true, true, true, true, true, true, true, true, true, true, true, true, true, true] rfl rfl (aT HT_.out) (fun _ _ _ h => h) (Or.inl ⟨rfl, rn⟩) ap ?_
        refine done_ (done_of HT_.out (by kernel_rfl)) ?_
        try go_wp2
        go_roundg k1
        case measure => have := HK1.out; omega
        case rel => exact ⟨(wrap64 (x7_1 + 1)), pj, H', ⟨by have := HK1.out; omega⟩, ⟨bl⟩⟩
     ·rw [if_neg c4] at H
      exact absurd H (by simp)
    ·rw [if_neg c3] at H
     exact absurd H (by simp)
   ·rw [if_neg c2] at H
    have c2b0 : decide (x7_1 < (l0.length : Int)) = false := decide_eq_false c2
    clear c2
    obtain rfl := Option.some.inj H
    simp only [Option.some.injEq, Prod.mk.injEq] at H
    obtain ⟨rfl⟩ := H
    go_wp2
    go_ret
    exact ⟨by first | rfl | (simp [errW_none, errW_some] <;> rfl) | (simp [*, errW_none, errW_some] <;> rfl), bl⟩
def Fine (base : World) (v r : Value) : Prop := ∃ (fid : Nat) (caps : Array Value), v = .func (Fn.func fid) #[] caps ∧ (∀ (args : Array Value) (w : World), (callFunc fid args).run Tryd.prog w = .ok (.enter fid args) w) ∧ ∀ W, Below base.heap.size base W → Calls Tryd.prog fid caps W fun e w' => e = .returned r ∧ Below W.heap.size W w'
theorem Fine.below {base W : World} {v r : Value} (h : Fine base v r) (hb : Below base.heap.size base W) : Fine W v r := by
 obtain ⟨fid, caps, e, he, h⟩ := h
 exact ⟨fid, caps, e, he, fun W' hb' => h W' (below_then hb hb.size hb')⟩
set_option maxHeartbeats 8000000 in
set_option maxRecDepth 100000 in
theorem chain_is.inner (fid : Nat) (caps : Array Value) (x : Int) (g1 g2 : Nat) (w : World) (h1 : w.heap[g1]? = some (.cells #[.func (Fn.func fid) #[] caps] 22 (0, 0))) (h2 : w.heap[g2]? = some (.cells #[.int .i64 x] 29 (0, 0)))
  (hen : ∀ (args : Array Value) (w : World), (callFunc fid args).run Tryd.prog w = .ok (.enter fid args) w) (hso : ∀ W, Below w.heap.size w W → Calls Tryd.prog fid caps W fun e w' => e = .returned (.bool false) ∧ Below W.heap.size W w') :
  Calls Tryd.prog 109 #[.pointer (some ⟨g1, 0, none⟩), .pointer (some ⟨g2, 0, none⟩)] w fun e w' => e = .returned (.int .i64 0) ∧ Below w.heap.size w w' := by
 have hc1 : w.cell? ⟨g1, 0, none⟩ = some (.func (Fn.func fid) #[] caps) := (blk_cell h1 0).trans rfl
 have HS := am hso
 clear hso
 go_enter Tryd.func109, Tryd.ntmps109
 go_wp2_with (go_at_fn fid; (with_reducible refine (HS.out _ (Below.refl _ _)).mono ?_); rintro e w1 ⟨rfl, hb⟩; have HB1 := am hb; clear hb)
 go_ret
 exact ⟨rfl, HB1.out⟩
set_option maxHeartbeats 8000000 in
set_option maxRecDepth 100000 in
theorem chain_is.calls (v : Value) (x : Int) (w : World) (hso : Fine w v (.bool false)) :
  Calls Tryd.prog 99 #[v, .int .i64 x] w fun e w' => ∃ v', e = .returned v' ∧ Fine w' v' (.int .i64 0) ∧ Below w.heap.size w w' := by
 have hmf : ∀ (fn : Fn) (first cap : Array Value) (w : World), (Instr.makeFunc fn first cap).run Tryd.prog w = .ok (.func fn first cap) w := fun _ _ _ _ => rfl
 obtain ⟨fid, caps, rfl, hen, hso⟩ := hso
 have HS := am hso
 clear hso
 go_enter Tryd.func99, Tryd.ntmps99
 go_wp2
 go_ret
 have b2 : Below w.heap.size w ((w.alloc (.cells #[.func (Fn.func fid) #[] caps] 22)).alloc (.cells #[.int .i64 x] 29)) := (below_alloc (Below.refl _ _) _).alloc (by simp) _
 refine ⟨_, rfl, ⟨_, _, rfl, Go.Proofs.enters_of Tryd.func109 (by kernel_rfl) rfl, fun W hb => ?_⟩, b2⟩
 refine chain_is.inner fid caps x w.heap.size (w.heap.size + 1) W (blk_below (blk_alloc (heap_alloc_new w _) _) hb) (blk_below (by have := heap_alloc_new (w.alloc (.cells #[.func (Fn.func fid) #[] caps] 22)) (.cells #[.int .i64 x] 29); simpa using this) hb) hen (fun W' hb' => HS.out W' ?_)
 exact below_then (below_then b2 b2.size hb) (below_then b2 b2.size hb).size hb'
set_option maxHeartbeats 8000000 in
set_option maxRecDepth 100000 in
theorem chain_first.calls (g c : Nat) (vs : List Value) (w : World) (hl : vs.length < 1000) (hg : w.heap[g]? = some (.cells vs.toArray 163 (0, 0))) (hv : ∀ v ∈ vs, Fine w v (.int .i64 0)) :
  Calls Tryd.prog 98 #[.slice (some ⟨g, 0, none⟩) vs.length c] w fun e w' => e = .returned (.int .i64 0) ∧ Below w.heap.size w w' := by
 have HG := am hg; have HV := am hv; have HZ := am hl
 clear hg hv hl
 go_enter Tryd.func98, Tryd.ntmps98
 go_wp2
 go_loopw [4, 5, 8] (fun _ _ v8 wr => ∃ j : Nat, v8 = .int .i64 j ∧ j ≤ vs.length ∧ Aside0 (Below w.heap.size w wr)) (fun _ _ v8 _ => vs.length - (intOf v8).toNat)
 case atStart => exact ⟨0, rfl, Nat.zero_le _, ⟨Below.refl _ _⟩⟩
 case round =>
  obtain ⟨j, rfl, hj, HB⟩ := hrel
  by_cases hlt : j < vs.length
  ·have hltb : decide ((j : Int) < (vs.length : Int)) = true := decide_eq_true (by omega)
   have HL := am hlt
   have p2 : ((j : Int) < (vs.length : Int)) = True := eq_true (by omega)
   have p3 : (j < vs.length) = True := eq_true hlt
   have ew : wrap64 ((j : Int) + 1) = ((j + 1 : Nat) : Int) := by have := HZ.out; unfold wrap64; omega
   have hf := Fine.below (HV.out vs[j] (List.getElem_mem _)) HB.out
   obtain ⟨fid, caps, ev, hen, hf⟩ := hf
   have HF := am hf
   have hx0 : wr.cell? ⟨g, j, none⟩ = some (.func (Fn.func fid) #[] caps) := by
    rw [blk_cell (blk_below HG.out HB.out) j, ← ev]
    simp [hlt]
   clear hlt hf ev
   go_wp2_with (go_at_fn fid; (with_reducible refine (HF.out _ (Below.refl _ _)).mono ?_); rintro e w1 ⟨rfl, hb⟩; have HB1 := am (below_then HB.out HB.out.size hb); clear hb)
   go_round
   case measure => exact op_sum.less HL.out ew
   case rel => exact ⟨j + 1, by rw [ew], HL.out, HB1⟩
  ·have hltb : decide ((j : Int) < (vs.length : Int)) = false := decide_eq_false (by omega)
   go_wp2
   go_ret
   exact ⟨rfl, HB.out⟩
theorem chain_sizes.c1 (g : Nat) (n : Int) (w : World) (h : w.heap[g]? = some (.cells #[.int .i64 n] 3 (0, 0))) (h0 : 0 ≤ n) : Calls Tryd.prog 100 #[.pointer (some ⟨g, 0, none⟩)] w fun e w' => e = .returned (.bool false) ∧ Below w.heap.size w w' := by
 have hc : w.cell? ⟨g, 0, none⟩ = some (.int .i64 n) := (blk_cell h 0).trans rfl
 have hd : decide (n < 0) = false := decide_eq_false (by omega)
 have HB := am (Below.refl w.heap.size w)
 clear h0
 go_enter Tryd.func100, Tryd.ntmps100
 go_wp2
 go_ret
 exact ⟨by first | rfl | (simp; done), by repeat (first | exact HB.out | apply pw_below_drewN | apply below_drew1)⟩
theorem chain_sizes.c2 (g : Nat) (n : Int) (w : World) (h : w.heap[g]? = some (.cells #[.int .i64 n] 3 (0, 0))) (h0 : n ≤ 1048576) : Calls Tryd.prog 101 #[.pointer (some ⟨g, 0, none⟩)] w fun e w' => e = .returned (.bool false) ∧ Below w.heap.size w w' := by
 have hc : w.cell? ⟨g, 0, none⟩ = some (.int .i64 n) := (blk_cell h 0).trans rfl
 have hd : decide (1048576 < n) = false := decide_eq_false (by omega)
 have HB := am (Below.refl w.heap.size w)
 clear h0
 go_enter Tryd.func101, Tryd.ntmps101
 go_wp2
 go_ret
 exact ⟨by first | rfl | (simp; done), by repeat (first | exact HB.out | apply pw_below_drewN | apply below_drew1)⟩
theorem chain_sizes.c3 (g g1 : Nat) (s : ByteArray) (A1 A2 : Option Addr) (n m c1 c2 : Nat) (w : World) (h : w.heap[g]? = some (.cells #[.int .i64 0] 29 (0, 0))) (h1 : w.heap[g1]? = some (.cells #[.string s, .slice A1 n c1, .slice A2 m c2] 42 (0, 0))) (hn : n = m + 1) (hm : m < 1000000) :
  Calls Tryd.prog 102 #[.pointer (some ⟨g, 0, none⟩), .pointer (some ⟨g1, 0, none⟩)] w fun e w' => e = .returned (.bool false) ∧ Below w.heap.size w w' := by
 have hc : w.cell? ⟨g, 0, none⟩ = some (.int .i64 0) := (blk_cell h 0).trans rfl
 have hc1 : w.cell? ⟨g1, 1, none⟩ = some (.slice A1 n c1) := (blk_cell h1 1).trans rfl
 have hc2 : w.cell? ⟨g1, 2, none⟩ = some (.slice A2 m c2) := (blk_cell h1 2).trans rfl
 have hw : wrap64 ((m : Int) + 1) = (m : Int) + 1 := by unfold wrap64; omega
 have hd : ((n : Int) != (m : Int) + 1) = false := by rw [hn]; simp
 have HB := am (Below.refl w.heap.size w)
 clear hm hn
 go_enter Tryd.func102, Tryd.ntmps102
 go_wp2
 go_ret
 exact ⟨by first | rfl | (simp; done), by repeat (first | exact HB.out | apply pw_below_drewN | apply below_drew1)⟩
theorem chain_sizes.c4 (k : Nat) (g : Nat) (A : Option Addr) (c : Nat) (l : List S25) (w : World) (h : w.heap[g]? = some (.cells #[.slice A l.length c] 27 (0, 0))) (hr : Kd.C k25 w A l.length l) (hc : l.length ≤ c) (hT : Tabs w) (hm : op_May.f k l = some 0) :
  Calls Tryd.prog 103 #[.pointer (some ⟨g, 0, none⟩)] w fun e w' => e = .returned (.int .i64 0) ∧ Below w.heap.size w w' := by
 have hc : w.cell? ⟨g, 0, none⟩ = some (.slice A l.length c) := (blk_cell h 0).trans rfl
 have HR := am hr; have HC := am hc; have HT := am hT; have HM := am hm; have HL := am ‹l.length ≤ c›
 clear hr hT hm
 go_enter Tryd.func103, Tryd.ntmps103
 go_wp2_with (go_at_call 46; (with_reducible refine (op_May.calls k A c l 0 _ HR.out HL.out HT.out HM.out).mono ?_); rintro e w1 ⟨rfl, hb⟩; have HB1 := am hb; clear hb)
 go_ret
 exact ⟨rfl, HB1.out⟩
theorem chain_sizes.c6 (g : Nat) (A : Option Addr) (c : Nat) (l : List S25) (n : Int) (w : World) (h : w.heap[g]? = some (.cells #[.slice A l.length c] 27 (0, 0))) (hr : Kd.C k25 w A l.length l) (hc : l.length ≤ c) (hT : Tabs w) (hm : op_Out.f l = some n) (hn : n ≤ 1048576) :
  Calls Tryd.prog 105 #[.pointer (some ⟨g, 0, none⟩)] w fun e w' => e = .returned (.bool false) ∧ Below w.heap.size w w' := by
 have hc : w.cell? ⟨g, 0, none⟩ = some (.slice A l.length c) := (blk_cell h 0).trans rfl
 have hd : decide (1048576 < n) = false := decide_eq_false (by omega)
 have HR := am hr; have HC := am hc; have HT := am hT; have HM := am hm; have HL := am ‹l.length ≤ c›
 clear hr hT hm hn
 go_enter Tryd.func105, Tryd.ntmps105
 go_wp2_with (go_at_call 62; (with_reducible refine (op_Out.calls A c l n _ HR.out HL.out HT.out HM.out).mono ?_); rintro e w1 ⟨rfl, hb⟩; have HB1 := am hb; clear hb)
 go_ret
 exact ⟨by first | rfl | (simp; done), HB1.out⟩
theorem chain_sizes.c7 (k : Nat) (g : Nat) (A : Option Addr) (c : Nat) (l : List S25) (w : World) (h : w.heap[g]? = some (.cells #[.slice A l.length c] 27 (0, 0))) (hr : Kd.C k25 w A l.length l) (hc : l.length ≤ c) (hm : normal_Is.f k l = some true) :
  Calls Tryd.prog 106 #[.pointer (some ⟨g, 0, none⟩)] w fun e w' => e = .returned (.bool false) ∧ Below w.heap.size w w' := by
 have hc : w.cell? ⟨g, 0, none⟩ = some (.slice A l.length c) := (blk_cell h 0).trans rfl
 have HR := am hr; have HC := am hc; have HM := am hm; have HL := am ‹l.length ≤ c›
 clear hr hm
 go_enter Tryd.func106, Tryd.ntmps106
 go_wp2_with (go_at_call 107; (with_reducible refine (normal_Is.calls k A c l true _ HR.out HL.out HM.out).mono ?_); rintro e w1 ⟨rfl, hb⟩; have HB1 := am hb; clear hb)
 go_ret
 exact ⟨by first | rfl | (simp; done), HB1.out⟩
set_option maxHeartbeats 8000000 in
set_option maxRecDepth 100000 in
theorem chain_sizes.c5 (g g4 : Nat) (A : Option Addr) (c : Nat) (l : List S25) (n : Int) (w : World) (h : w.heap[g]? = some (.cells #[.slice A l.length c] 27 (0, 0))) (h4 : w.heap[g4]? = some (.cells #[.int .i64 n] 3 (0, 0))) (hr : Kd.C k25 w A l.length l) (hc : l.length ≤ c) (hT : Tabs w) (hm : op_In.f l = some n) :
  Calls Tryd.prog 104 #[.pointer (some ⟨g, 0, none⟩), .pointer (some ⟨g4, 0, none⟩)] w fun e w' => e = .returned (.bool false) ∧ Below w.heap.size w w' := by
 have HBD := am (below_drew1 (Below.refl w.heap.size w))
 have hc0 : w.drew.cell? ⟨g, 0, none⟩ = some (.slice A l.length c) := (blk_cell h 0).trans rfl
 have hc4 : w.drew.cell? ⟨g4, 0, none⟩ = some (.int .i64 n) := (blk_cell h4 0).trans rfl
 have hd : (n != n) = false := by simp
 have HRD := am (Kd.C_below hr HBD.out); have HTD := am (Tabs.below hT HBD.out); have HM := am hm; have HL := am hc; have H4 := am (blk_below h4 HBD.out)
 clear hr hT hm h h4
 go_enter Tryd.func104, Tryd.ntmps104
 go_wp2
 go_region_law (go_simp; go_at_call 20; (with_reducible refine (op_In.calls A c l n _ HRD.out HL.out HTD.out HM.out).mono ?_); rintro e w1 ⟨rfl, hb⟩; have HB1 := am (below_then HBD.out HBD.out.size hb); have cp1 : w1.cell? ⟨g4, 0, none⟩ = some (.int .i64 n) := (blk_cell (blk_below H4.out hb) 0).trans rfl; clear hb)
 all_goals go_wp2
 all_goals go_ret
 all_goals exact ⟨by first | rfl | (simp; done), HB1.out⟩
def chain_sizes.l (k : Nat) : Int → List (List S25) → List Int → Option (List Int)
 | _, [], out => some out
 | n, x :: l, out => (op_May.f k x).bind fun e => if e = 0 then (op_In.f x).bind fun m => (if m = n then (op_Out.f x).bind fun q => (if q ≤ 1048576 then (normal_Is.f k x).bind fun b => (if b = true then chain_sizes.l k q l (out ++ [q]) else none) else none) else none) else none
def chain_sizes.f (k : Nat) (s : ByteArray) (revs : List Int) (segs : List (List S25)) : Option (List Int × Int) :=
 if segs.length < 1000000 then (points_Count.f s).bind fun n => (if 0 ≤ n ∧ n ≤ 1048576 then (snap_PutRow.f revs).bind fun p => (if p.2 = 0 ∧ revs.length = segs.length + 1 then (chain_sizes.l k n segs [n]).bind fun o => some (o, 0) else none) else none) else none
theorem chain_sizes.fine {w : World} {fid : Nat} {caps : Array Value} {r : Value} (hen : ∀ (args : Array Value) (w : World), (callFunc fid args).run Tryd.prog w = .ok (.enter fid args) w) (h : ∀ W, Below w.heap.size w W → Calls Tryd.prog fid caps W fun e w' => e = .returned r ∧ Below W.heap.size W w') : Fine w (.func (Fn.func fid) #[] caps) r := ⟨fid, caps, rfl, hen, h⟩
set_option maxHeartbeats 8000000 in
set_option maxRecDepth 100000 in
theorem chain_sizes.calls (k : Nat) (a0_0 : ByteArray) (A0_1 : Option Addr) (c0_1 : Nat) (l0_1 : List Int) (A0_2 : Option Addr) (c0_2 : Nat) (l0_2 : List (List (S25))) (r1 : List Int) (r2 : Int) (w : World) (hr0_1 : Kd.C (Kd.int .i64) w A0_1 l0_1.length l0_1) (hc0_1 : l0_1.length ≤ c0_1) (hr0_2 : Kd.C (Kd.slice 25 k25) w A0_2 l0_2.length l0_2) (hc0_2 : l0_2.length ≤ c0_2) (hT : Tabs w) (h : chain_sizes.f k a0_0 l0_1 l0_2 = some (r1, r2)) :
  Calls Tryd.prog 88 #[.agg #[.string a0_0, .slice A0_1 l0_1.length c0_1, .slice A0_2 l0_2.length c0_2]] w fun e w' => ∃ v0_ : Value, e = .returned (.tuple #[v0_, .int .i64 r2]) ∧ Kd.R (Kd.int .i64) 3 w' w.heap.size (fun _ => True) v0_ r1 ∧ Below w.heap.size w w' := by
 have hmf : ∀ (fn : Fn) (first cap : Array Value) (w : World), (Instr.makeFunc fn first cap).run Tryd.prog w = .ok (.func fn first cap) w := fun _ _ _ _ => rfl
 unfold chain_sizes.f at h
 by_cases hs : l0_2.length < 1000000
 ·rw [if_pos hs] at h
  obtain ⟨n, hn, h⟩ := Option.bind_eq_some_iff.mp h
  by_cases hb : 0 ≤ n ∧ n ≤ 1048576
  ·rw [if_pos hb] at h
   obtain ⟨p, hp, h⟩ := Option.bind_eq_some_iff.mp h
   by_cases hq : p.2 = 0 ∧ l0_1.length = l0_2.length + 1
   ·rw [if_pos hq] at h
    obtain ⟨o, ho, h⟩ := Option.bind_eq_some_iff.mp h
    simp only [Option.some.injEq, Prod.mk.injEq] at h
    obtain ⟨rfl, rfl⟩ := h
    obtain ⟨rp, ep⟩ := p
    obtain ⟨rfl, hq⟩ := hq
    have HR1 := am hr0_1; have HC1 := am hc0_1; have HR2 := am hr0_2; have HC2 := am hc0_2; have HT := am hT; have HN := am hn; have HBD := am hb; have HP := am hp; have HQ := am hq; have HOO := am ho; have HZ := am hs
    have HB := am (Below.refl w.heap.size w)
    clear hr0_1 hc0_1 hr0_2 hc0_2 hT hn hb hp hq ho hs
    have HB0 := am (below_alloc (Below.refl w.heap.size w) (.cells #[.string a0_0, .slice A0_1 l0_1.length c0_1, .slice A0_2 l0_2.length c0_2] 42))
    have HG0 : Aside0 ((w.alloc (.cells #[.string a0_0, .slice A0_1 l0_1.length c0_1, .slice A0_2 l0_2.length c0_2] 42)).heap[w.heap.size]? = some (.cells #[.string a0_0, .slice A0_1 l0_1.length c0_1, .slice A0_2 l0_2.length c0_2] 42 (0, 0))) := ⟨heap_alloc_new w _⟩
    go_enter Tryd.func88, Tryd.ntmps88
    go_wp2_with (first | (go_at_call 10; (with_reducible refine (points_Count.calls a0_0 n _ (Tabs.below HT.out HB0.out) HN.out).mono ?_); rintro e w1 ⟨rfl, hb⟩; have HB1 := am (below_then HB0.out HB0.out.size hb); have HB2 := am (HB1.out.alloc HB1.out.size (.cells #[.int .i64 n] 3)); have HG2 : Aside0 ((w1.alloc (.cells #[.int .i64 n] 3)).heap[w.heap.size]? = some (.cells #[.string a0_0, .slice A0_1 l0_1.length c0_1, .slice A0_2 l0_2.length c0_2] 42 (0, 0))) := ⟨blk_alloc (blk_below HG0.out hb) _⟩; have HN2 : Aside0 ((w1.alloc (.cells #[.int .i64 n] 3)).heap[w1.heap.size]? = some (.cells #[.int .i64 n] 3 (0, 0))) := ⟨heap_alloc_new w1 _⟩; have cx1 : (w1.alloc (.cells #[.int .i64 n] 3)).cell? ⟨w.heap.size, 1, none⟩ = some (.slice A0_1 l0_1.length c0_1) := (blk_cell HG2.out 1).trans rfl; clear hb) | (go_at_call 97; (with_reducible refine (snap_PutRow.calls A0_1 c0_1 l0_1 rp 0 _ (Kd.C_below HR1.out HB2.out) HC1.out HP.out).mono ?_); rintro e w3 ⟨v3, rfl, ho3, hb⟩; have HB3 := am ((below_then HB2.out HB2.out.size hb).alloc (below_then HB2.out HB2.out.size hb).size (.cells #[.int .i64 0] 29)); have HG3 : Aside0 ((w3.alloc (.cells #[.int .i64 0] 29)).heap[w.heap.size]? = some (.cells #[.string a0_0, .slice A0_1 l0_1.length c0_1, .slice A0_2 l0_2.length c0_2] 42 (0, 0))) := ⟨blk_alloc (blk_below HG2.out hb) _⟩; have HN3 : Aside0 ((w3.alloc (.cells #[.int .i64 0] 29)).heap[w1.heap.size]? = some (.cells #[.int .i64 n] 3 (0, 0))) := ⟨blk_alloc (blk_below HN2.out hb) _⟩; have HE3 : Aside0 ((w3.alloc (.cells #[.int .i64 0] 29)).heap[w3.heap.size]? = some (.cells #[.int .i64 0] 29 (0, 0))) := ⟨heap_alloc_new w3 _⟩; clear hb ho3) | (go_at_call 99; (with_reducible refine (chain_is.calls (.func (Fn.func 100) #[] #[.pointer (some ⟨w1.heap.size, 0, none⟩)]) 3 _ ?sf).mono ?_); (case sf => exact chain_sizes.fine (Go.Proofs.enters_of Tryd.func100 (by kernel_rfl) rfl) (fun W hb => chain_sizes.c1 w1.heap.size n W (blk_below HN3.out hb) HBD.out.1)); rintro e w4 ⟨v4, rfl, hf, hb⟩; obtain ⟨f4, k4, ev, he⟩ := id hf; clear he; subst ev; have HF4 := am hf; have HB4 := am (below_then HB3.out HB3.out.size hb); have HG4 := am (blk_below HG3.out hb); have HN4 := am (blk_below HN3.out hb); have HE4 := am (blk_below HE3.out hb); clear hb hf) | (go_at_call 99; (with_reducible refine (chain_is.calls (.func (Fn.func 101) #[] #[.pointer (some ⟨w1.heap.size, 0, none⟩)]) 4 _ ?sf).mono ?_); (case sf => exact chain_sizes.fine (Go.Proofs.enters_of Tryd.func101 (by kernel_rfl) rfl) (fun W hb => chain_sizes.c2 w1.heap.size n W (blk_below HN4.out hb) HBD.out.2)); rintro e w5 ⟨v5, rfl, hf, hb⟩; obtain ⟨f5, k5, ev, he⟩ := id hf; clear he; subst ev; have HF5 := am hf; have HB5 := am (below_then HB4.out HB4.out.size hb); have HG5 := am (blk_below HG4.out hb); have HN5 := am (blk_below HN4.out hb); have HE5 := am (blk_below HE4.out hb); have HFa4 := am (Fine.below HF4.out hb); clear hb hf) | (go_at_call 99; (with_reducible refine (chain_is.calls (.func (Fn.func 102) #[] #[.pointer (some ⟨w3.heap.size, 0, none⟩), .pointer (some ⟨w.heap.size, 0, none⟩)]) 6 _ ?sf).mono ?_); (case sf => exact chain_sizes.fine (Go.Proofs.enters_of Tryd.func102 (by kernel_rfl) rfl) (fun W hb => chain_sizes.c3 w3.heap.size w.heap.size a0_0 A0_1 A0_2 l0_1.length l0_2.length c0_1 c0_2 W (blk_below HE5.out hb) (blk_below HG5.out hb) HQ.out HZ.out)); rintro e w6 ⟨v6, rfl, hf, hb⟩; obtain ⟨f6, k6, ev, he⟩ := id hf; clear he; subst ev; have HF6 := am hf; have HB6 := am (below_then HB5.out HB5.out.size hb); have HG6 := am (blk_below HG5.out hb); have HN6 := am (blk_below HN5.out hb); have HE6 := am (blk_below HE5.out hb); have HV6 : Aside0 (∀ v ∈ [.func (Fn.func f4) #[] k4, .func (Fn.func f5) #[] k5, .func (Fn.func f6) #[] k6], Fine (w6.alloc (.cells #[.func (Fn.func f4) #[] k4, .func (Fn.func f5) #[] k5, .func (Fn.func f6) #[] k6] 163)) v (.int .i64 0)) := ⟨by have ha := below_alloc (Below.refl w6.heap.size w6) (.cells #[.func (Fn.func f4) #[] k4, .func (Fn.func f5) #[] k5, .func (Fn.func f6) #[] k6] 163); intro v hv; simp only [List.mem_cons, List.not_mem_nil, or_false] at hv; rcases hv with rfl | rfl | rfl; exact Fine.below (Fine.below HFa4.out hb) ha; exact Fine.below (Fine.below HF5.out hb) ha; exact Fine.below hf ha⟩; clear hb hf) | (go_at_call 98; (refine (chain_first.calls w6.heap.size 3 [.func (Fn.func f4) #[] k4, .func (Fn.func f5) #[] k5, .func (Fn.func f6) #[] k6] _ (by simp) ?sg ?sv).mono ?_); (case sg => exact heap_alloc_new w6 _); (case sv => exact HV6.out); rintro e w7 ⟨rfl, hb⟩; have ha6 := HB6.out.alloc HB6.out.size (.cells #[.func (Fn.func f4) #[] k4, .func (Fn.func f5) #[] k5, .func (Fn.func f6) #[] k6] 163); have HB7 := am (below_then ha6 ha6.size hb); have HG7 := am (blk_below (blk_alloc HG6.out _) hb); have HN7 := am (blk_below (blk_alloc HN6.out _) hb); have cn7 : w7.cell? ⟨w1.heap.size, 0, none⟩ = some (.int .i64 n) := (blk_cell HN7.out 0).trans rfl; clear hb ha6) | ((with_reducible refine gate_dst (N := 33) rfl ?_); refine Kd.R_lit (Kd.int .i64) (w0 := w) w.heap.size 3 ?hg (N := 33) ?hd (xs := ([n] : List Int)) (inner := [.int .i64 n]) (ok := fun k => k ≠ w1.heap.size) (okp := fun k => k ≠ w1.heap.size) ?hr ?hp (fun _ hk => hk) ?hf HB7.out HB7.out.size (by simp) ?_; (case hd => rfl); (case hg => rfl); (case hr => first | (go_simp; done) | (go_simp; rfl)); (case hp => exact (Reps.one (show Kd.M (Kd.int .i64) _ _ _ n [.int .i64 n] from rfl) (Reps.none _ _))); (case hf => have := blk_lt HN7.out; omega); intro v8 w8 ho hb hg_ hnew_; have hk8 : Kept w7 w8 (fun _ => False) := Kept.of_grown hg_ (Kept.refl _ _) (fun k e => by cases e); have HO8 := am ho; have HB8 := am hb; have HN8 := am (blk_kept HN7.out hk8 (fun e => e)); have HG8 := am (blk_kept HG7.out hk8 (fun e => e)); have cx8 : w8.cell? ⟨w.heap.size, 2, none⟩ = some (.slice A0_2 l0_2.length c0_2) := (blk_cell HG8.out 2).trans rfl; clear ho hb hg_ hnew_ hk8))
    have HO0 := HOO
    clear HOO
    have HGW : Aside0 (w.heap.size ≤ w1.heap.size) := ⟨HB1.out.size⟩
    go_loopw [8, 10, 11, 37] (fun v8' _ _ v37 wr => ∃ (j : Nat) (m : Int) (out : List Int), v37 = .int .i64 j ∧ j ≤ l0_2.length ∧ Aside0 (chain_sizes.l k m (l0_2.drop j) out = some o) ∧ Aside0 (wr.heap[w1.heap.size]? = some (.cells #[.int .i64 m] 3 (0, 0))) ∧ Aside0 (Kd.R (Kd.int .i64) 3 wr w.heap.size (fun k => k ≠ w1.heap.size) v8' out) ∧ Aside0 (Below w.heap.size w wr) ∧ Aside0 (out.length ≤ j + 1)) (fun _ _ _ v37 _ => l0_2.length - (intOf v37).toNat)
    case atStart => exact ⟨0, n, [n], rfl, Nat.zero_le _, HO0, HN8, HO8, HB8, ⟨by simp⟩⟩
    case round =>
     clear HO0 HN8 HO8 HB8
     obtain ⟨j, m, out, rfl, hj, HA, HN9, HO9, HB9, HLN⟩ := hrel
     by_cases hlt : j < l0_2.length
     ·have hltb : decide ((j : Int) < (l0_2.length : Int)) = true := decide_eq_true (by omega)
      have HL := am hlt
      have h := HA.out
      clear HA
      rw [rows_next l0_2 j hlt, chain_sizes.l] at h
      obtain ⟨e1, he1, h⟩ := Option.bind_eq_some_iff.mp h
      by_cases z1 : e1 = 0
      ·subst z1
       rw [if_pos rfl] at h
       obtain ⟨m2, hm2, h⟩ := Option.bind_eq_some_iff.mp h
       by_cases z2 : m2 = m
       ·subst z2
        rw [if_pos rfl] at h
        obtain ⟨q, hq, h⟩ := Option.bind_eq_some_iff.mp h
        by_cases z3 : q ≤ 1048576
        ·rw [if_pos z3] at h
         obtain ⟨b4, hb4, h⟩ := Option.bind_eq_some_iff.mp h
         by_cases z4 : b4 = true
         ·subst z4
          rw [if_pos rfl] at h
          obtain ⟨ad, A, c, eA, hx, hcl, hC⟩ := at_rows (Kd.C_below HR2.out HB9.out) j hlt
          subst eA
          have HMY := am he1; have HIN := am hm2; have HOU := am hq; have HQB := am z3; have HIS := am hb4; have HH := am h; have HCL := am hcl
          have p2 : ((j : Int) < (l0_2.length : Int)) = True := eq_true (by omega)
          have p3 : (j < l0_2.length) = True := eq_true hlt
          have ew : Aside0 (wrap64 ((j : Int) + 1) = ((j + 1 : Nat) : Int)) := ⟨by have := HZ.out; unfold wrap64; omega⟩
          have HB10 := am (HB9.out.alloc HB9.out.size (.cells #[.slice A (rowsAt l0_2 j).length c] 27))
          have HX10 : Aside0 ((wr.alloc (.cells #[.slice A (rowsAt l0_2 j).length c] 27)).heap[wr.heap.size]? = some (.cells #[.slice A (rowsAt l0_2 j).length c] 27 (0, 0))) := ⟨heap_alloc_new wr _⟩
          have HN10 : Aside0 ((wr.alloc (.cells #[.slice A (rowsAt l0_2 j).length c] 27)).heap[w1.heap.size]? = some (.cells #[.int .i64 m2] 3 (0, 0))) := ⟨blk_alloc HN9.out _⟩
          have HC10 : Aside0 (Kd.C k25 (wr.alloc (.cells #[.slice A (rowsAt l0_2 j).length c] 27)) A (rowsAt l0_2 j).length (rowsAt l0_2 j)) := ⟨Kd.C_alloc hC _⟩
          have HO10 : Aside0 (Kd.R (Kd.int .i64) 3 (wr.alloc (.cells #[.slice A (rowsAt l0_2 j).length c] 27)) w.heap.size (fun k => k ≠ w1.heap.size) u8 out) := ⟨Kd.R_alloc HO9.out _⟩
          have HT10 : Aside0 (Tabs (wr.alloc (.cells #[.slice A (rowsAt l0_2 j).length c] 27))) := ⟨Tabs.below HT.out HB10.out⟩
          clear hlt h he1 hm2 hq z3 hb4 hcl hC
          go_wp2_with (first | (go_at_call 99; (with_reducible refine (chain_is.calls (.func (Fn.func 104) #[] #[.pointer (some ⟨wr.heap.size, 0, none⟩), .pointer (some ⟨w1.heap.size, 0, none⟩)]) 5 _ ?sf).mono ?_); (case sf => exact chain_sizes.fine (Go.Proofs.enters_of Tryd.func104 (by kernel_rfl) rfl) (fun W hb => chain_sizes.c5 wr.heap.size w1.heap.size A c _ m2 W (blk_below HX10.out hb) (blk_below HN10.out hb) (Kd.C_below HC10.out hb) HCL.out (Tabs.below HT10.out hb) HIN.out)); rintro e w11 ⟨v11, rfl, hf, hb⟩; obtain ⟨f11, k11, ev, he⟩ := id hf; clear he; subst ev; have HF11 := am hf; have HB11 := am (below_then HB10.out HB10.out.size hb); have HX11 := am (blk_below HX10.out hb); have HN11 := am (blk_below HN10.out hb); have HC11 := am (Kd.C_below HC10.out hb); have HO11 := am (Kd.R_below HO10.out hb); have HT11 := am (Tabs.below HT10.out hb); clear hb hf) | (go_at_call 99; (with_reducible refine (chain_is.calls (.func (Fn.func 105) #[] #[.pointer (some ⟨wr.heap.size, 0, none⟩)]) 4 _ ?sf).mono ?_); (case sf => exact chain_sizes.fine (Go.Proofs.enters_of Tryd.func105 (by kernel_rfl) rfl) (fun W hb => chain_sizes.c6 wr.heap.size A c _ q W (blk_below HX11.out hb) (Kd.C_below HC11.out hb) HCL.out (Tabs.below HT11.out hb) HOU.out HQB.out)); rintro e w12 ⟨v12, rfl, hf, hb⟩; obtain ⟨f12, k12, ev, he⟩ := id hf; clear he; subst ev; have HF12 := am hf; have HB12 := am (below_then HB11.out HB11.out.size hb); have HX12 := am (blk_below HX11.out hb); have HN12 := am (blk_below HN11.out hb); have HC12 := am (Kd.C_below HC11.out hb); have HO12 := am (Kd.R_below HO11.out hb); have HT12 := am (Tabs.below HT11.out hb); have HFa11 := am (Fine.below HF11.out hb); clear hb hf) | (go_at_call 99; (with_reducible refine (chain_is.calls (.func (Fn.func 106) #[] #[.pointer (some ⟨wr.heap.size, 0, none⟩)]) 8 _ ?sf).mono ?_); (case sf => exact chain_sizes.fine (Go.Proofs.enters_of Tryd.func106 (by kernel_rfl) rfl) (fun W hb => chain_sizes.c7 k wr.heap.size A c _ W (blk_below HX12.out hb) (Kd.C_below HC12.out hb) HCL.out HIS.out)); rintro e w13 ⟨v13, rfl, hf, hb⟩; obtain ⟨f13, k13, ev, he⟩ := id hf; clear he; subst ev; have HF13 := am hf; have HB13 := am (below_then HB12.out HB12.out.size hb); have HX13 := am (blk_below HX12.out hb); have HN13 := am (blk_below HN12.out hb); have HC13 := am (Kd.C_below HC12.out hb); have HO13 := am (Kd.R_below HO12.out hb); have HT13 := am (Tabs.below HT12.out hb); have HFa12 := am (Fine.below (Fine.below HFa11.out hb) (below_alloc (Below.refl _ _) (.cells #[.func (Fn.func 103) #[] #[.pointer (some ⟨wr.heap.size, 0, none⟩)], .func (Fn.func f11) #[] k11, .func (Fn.func f12) #[] k12, .func (Fn.func f13) #[] k13] 163))); have HFb12 := am (Fine.below (Fine.below HF12.out hb) (below_alloc (Below.refl _ _) (.cells #[.func (Fn.func 103) #[] #[.pointer (some ⟨wr.heap.size, 0, none⟩)], .func (Fn.func f11) #[] k11, .func (Fn.func f12) #[] k12, .func (Fn.func f13) #[] k13] 163))); have HFc12 := am (Fine.below hf (below_alloc (Below.refl _ _) (.cells #[.func (Fn.func 103) #[] #[.pointer (some ⟨wr.heap.size, 0, none⟩)], .func (Fn.func f11) #[] k11, .func (Fn.func f12) #[] k12, .func (Fn.func f13) #[] k13] 163))); have HFd12 : Aside0 (Fine (w13.alloc (.cells #[.func (Fn.func 103) #[] #[.pointer (some ⟨wr.heap.size, 0, none⟩)], .func (Fn.func f11) #[] k11, .func (Fn.func f12) #[] k12, .func (Fn.func f13) #[] k13] 163)) (.func (Fn.func 103) #[] #[.pointer (some ⟨wr.heap.size, 0, none⟩)]) (.int .i64 0)) := ⟨chain_sizes.fine (Go.Proofs.enters_of Tryd.func103 (by kernel_rfl) rfl) (fun W hb2 => chain_sizes.c4 k wr.heap.size A c _ W (blk_below (blk_alloc HX13.out _) hb2) (Kd.C_below (Kd.C_alloc HC13.out _) hb2) HCL.out (Tabs.below (Tabs.below HT13.out (below_alloc (Below.refl _ _) _)) hb2) HMY.out)⟩; clear hb hf) | (go_at_call 98; (refine (chain_first.calls w13.heap.size 4 [.func (Fn.func 103) #[] #[.pointer (some ⟨wr.heap.size, 0, none⟩)], .func (Fn.func f11) #[] k11, .func (Fn.func f12) #[] k12, .func (Fn.func f13) #[] k13] _ (by simp) ?sg ?sv).mono ?_); (case sg => exact heap_alloc_new w13 _); (case sv => intro v hv; simp only [List.mem_cons, List.not_mem_nil, or_false] at hv; rcases hv with rfl | rfl | rfl | rfl; exact HFd12.out; exact HFa12.out; exact HFb12.out; exact HFc12.out); rintro e w14 ⟨rfl, hb⟩; have ha := below_alloc (Below.refl w13.heap.size w13) (.cells #[.func (Fn.func 103) #[] #[.pointer (some ⟨wr.heap.size, 0, none⟩)], .func (Fn.func f11) #[] k11, .func (Fn.func f12) #[] k12, .func (Fn.func f13) #[] k13] 163); have hb2 := below_then ha (by simp) hb; have HB14 := am (below_then HB13.out HB13.out.size hb2); have HX14 := am (blk_below HX13.out hb2); have HN14 := am (blk_below HN13.out hb2); have HC14 := am (Kd.C_below HC13.out hb2); have HO14 := am (Kd.R_below HO13.out hb2); have HT14 := am (Tabs.below HT13.out hb2); have cx14 : w14.cell? ⟨wr.heap.size, 0, none⟩ = some (.slice A (rowsAt l0_2 j).length c) := (blk_cell HX14.out 0).trans rfl; clear hb ha hb2) | (go_at_call 62; (with_reducible refine (op_Out.calls A c (rowsAt l0_2 j) q _ HC14.out HCL.out HT14.out HOU.out).mono ?_); rintro e w15 ⟨rfl, hb⟩; have HB15 := am (below_then HB14.out HB14.out.size hb); have HN15 := am (blk_below HN14.out hb); have HO15 := am (Kd.R_below HO14.out hb); have cn15 : w15.cell? ⟨w1.heap.size, 0, none⟩ = some (.int .i64 m2) := (blk_cell HN15.out 0).trans rfl; have fn15 : w15.frozen? ⟨w1.heap.size, 0, none⟩ = false := blk_frozen HN15.out 0; have HN16 : Aside0 ((w15.setCell ⟨w1.heap.size, 0, none⟩ (.int .i64 q)).heap[w1.heap.size]? = some (.cells #[.int .i64 q] 3 (0, 0))) := ⟨blk_put HN15.out 0 _ rfl⟩; have cn16 : (w15.setCell ⟨w1.heap.size, 0, none⟩ (.int .i64 q)).cell? ⟨w1.heap.size, 0, none⟩ = some (.int .i64 q) := (blk_cell HN16.out 0).trans rfl; have HO16 := am (Kd.R_far (p := ⟨w1.heap.size, 0, none⟩) HO15.out (fun k hk => hk) (.int .i64 q)); have HB16 := am (HB15.out.setCell (p := ⟨w1.heap.size, 0, none⟩) HGW.out (.int .i64 q)); clear hb) | ((with_reducible refine gate_builtin (b := .append) (xs := #[.tmp 55, .tmp 57]) rfl ?_); at_builtin; refine Kd.R_append (Kd.int .i64) (w0 := w) w.heap.size rfl (.tmp 55) (.tmp 57) 38 3 (.int .i64 0) 8 rfl Tryd.underlying38 info3 rfl (by decide) (by omega) u8 out q [.int .i64 q] (fun k => k ≠ w1.heap.size) (fun _ => False) rfl ?hx ?aP (fun _ hk => hk.elim) ?aF ?aO ?aB ?aS ?aL ?_; (case hx => show Value.slice (some ⟨w15.heap.size, 0, none⟩) 1 1 = _; simp); (case aP => exact rfl); (case aB => exact HB16.out); (case aF => intro k hk; have := blk_lt HN16.out; omega); (case aO => exact HO16.out); (case aS => exact HB16.out.size); (case aL => have := HLN.out; have := HZ.out; have := HL.out; omega); intro v17 w17 ho hb hg hat; have HO17 := am ho; have HB17 := am hb; have HN17 := am (blk_kept HN16.out (Kept.of_grown (S := fun k => u8.ownBlock = some k) hg (Kept.refl _ _) (fun k e => .inl e)) (fun e => (HO16.out.1 _ e) rfl)); clear ho hb hg hat))
          go_roundw
          case rel => exact ⟨j + 1, q, out ++ [q], by rw [ew.out], HL.out, HH, HN17, HO17, HB17, ⟨by rw [List.length_append]; have := HLN.out; simp; omega⟩⟩
          case measure => exact op_sum.less HL.out ew.out
         ·rw [if_neg z4] at h; cases h
        ·rw [if_neg z3] at h; cases h
       ·rw [if_neg z2] at h; cases h
      ·rw [if_neg z1] at h; cases h
     ·have hltb : decide ((j : Int) < (l0_2.length : Int)) = false := decide_eq_false (by omega)
      have h := HA.out
      clear HA
      rw [List.drop_of_length_le (by omega), chain_sizes.l] at h
      obtain rfl := Option.some.inj h
      go_wp2
      go_ret2
      exact ⟨_, rfl, Kd.R_mono HO9.out (fun _ _ => trivial), HB9.out⟩
   ·rw [if_neg hq] at h; cases h
  ·rw [if_neg hb] at h; cases h
 ·rw [if_neg hs] at h; cases h
def chain_May.f (k : Nat) (a0_0 : ByteArray) (l0_1 : List Int) (l0_2 : List (List (S25))) : Option (Int) := (chain_sizes.f k a0_0 l0_1 l0_2).bind fun bt305 => (some bt305.2)
set_option maxHeartbeats 8000000 in
set_option maxRecDepth 100000 in
theorem chain_May.calls (k : Nat) (a0_0 : ByteArray) (A0_1 : Option Addr) (c0_1 : Nat) (l0_1 : List Int) (A0_2 : Option Addr) (c0_2 : Nat) (l0_2 : List (List (S25))) (r : Int) (w : World) (hr0_1 : Kd.C (Kd.int .i64) w A0_1 l0_1.length l0_1) (hc0_1 : l0_1.length ≤ c0_1) (hr0_2 : Kd.C (Kd.slice 25 k25) w A0_2 l0_2.length l0_2) (hc0_2 : l0_2.length ≤ c0_2) (hT : Tabs w) (h : chain_May.f k a0_0 l0_1 l0_2 = some r) :
  Calls Tryd.prog 66 #[.agg #[.string a0_0, .slice A0_1 l0_1.length c0_1, .slice A0_2 l0_2.length c0_2]] w fun e w' => e = .returned (.int .i64 r) ∧ Below w.heap.size w w' := by
 have HT := am hT
 clear hT
 have hu42 := Tryd.underlying42
 have HR0_1 := am hr0_1
 have HC0_1 := am hc0_1
 clear hr0_1 hc0_1
 have HR0_2 := am hr0_2
 have HC0_2 := am hc0_2
 clear hr0_2 hc0_2
 have HB := am (Below.refl w.heap.size w)
 have H : ((chain_sizes.f k a0_0 l0_1 l0_2).bind fun bt305 => (some bt305.2)) = some r := h
 clear h
 replace H := Option.bind_eq_some_iff.mp H
 obtain ⟨⟨t305, t308⟩, A20, H⟩ := H
 replace H : (some t308) = some r := H
 have A2 := am A20
 clear A20
 obtain rfl := Option.some.inj H
 simp only [Option.some.injEq, Prod.mk.injEq] at H
 obtain ⟨rfl⟩ := H
 go_enter Tryd.func66, Tryd.ntmps66
 go_wp2_with (first | ((with_reducible refine gate_dst (N := 1) rfl ?_); refine box_event ?hg (N := 1) ?hd (cs := #[.string a0_0, .slice A0_1 l0_1.length c0_1, .slice A0_2 l0_2.length c0_2]) (t := 42) ?hr ?_; (case hd => rfl); (case hg => rfl); (case hr => first | (go_simp; done) | (go_simp; rfl)); intro gb304 hg w3 hbox hb; have n0_ := am (below_step bl hb); have n1_ := am (hbox); have n2_ := am ((gs : w.heap.size ≤ gb304)); have n3_ := am ((gs : w.heap.size ≤ gb304)); clear HB; have HB := n0_; have BK304 := n1_; have GW304 := n2_; have GE304 := n3_; clear n0_ n1_ n2_ n3_; clear hb hbox hg; have hcz4_0 : w3.cell? ⟨gb304, 0, none⟩ = some (.string a0_0) := (blk_cell BK304.out 0).trans rfl; have hcz4_1 : w3.cell? ⟨gb304, 1, none⟩ = some (.slice A0_1 l0_1.length c0_1) := (blk_cell BK304.out 1).trans rfl; have hcz4_2 : w3.cell? ⟨gb304, 2, none⟩ = some (.slice A0_2 l0_2.length c0_2) := (blk_cell BK304.out 2).trans rfl; have hfz4_0 := blk_frozen BK304.out 0; have hfz4_1 := blk_frozen BK304.out 1; have hfz4_2 := blk_frozen BK304.out 2) | ((with_reducible refine gate_callee (f := 88) rfl ?_); refine goesL_ (some 7) rfl rfl Tryd.func88 (by kernel_rfl) rfl #[.agg #[.string a0_0, .slice A0_1 l0_1.length c0_1, .slice A0_2 l0_2.length c0_2]] rfl ar ?_; (with_reducible refine (chain_sizes.calls k a0_0 _ _ l0_1 _ _ l0_2 t305 t308 _ ?side1 ?side2 ?side3 ?side4 ?side5 A2.out).mono ?_); (case side1 => repeat (first | exact (Kd.C_below HR0_1.out HB.out) | (with_reducible refine Kd.C_alloc ?_ _) | (with_reducible refine Kd.C_drewN ?_ _) | (with_reducible refine Kd.C_drew ?_))); (case side2 => exact HC0_1.out); (case side3 => repeat (first | exact (Kd.C_below HR0_2.out HB.out) | (with_reducible refine Kd.C_alloc ?_ _) | (with_reducible refine Kd.C_drewN ?_ _) | (with_reducible refine Kd.C_drew ?_))); (case side4 => exact HC0_2.out); (case side5 => exact Tabs.below HT.out bl); rintro e w5 ⟨v306, rfl, ho0, hb⟩; refine ⟨_, rfl, ?_⟩; have n0_ := am (Kd.R_lower ho0 (below_size bl)); have n1_ := am (blk_below (g := gb304) (o := .cells #[.string a0_0, .slice A0_1 l0_1.length c0_1, .slice A0_2 l0_2.length c0_2] 42 (0, 0)) (by refine bk ?_; exact BK304.out) hb); have n2_ := am (below_step bl hb); clear BK304; clear HB; have HO307 := n0_; have BK304 := n1_; have HB := n2_; clear n0_ n1_ n2_; (try clear hb); (try clear hb2); (try clear hk); (try clear hi); (try clear ho0)))
 go_ret
 exact ⟨by first | rfl | (simp [errW_none, errW_some] <;> rfl) | (simp [*, errW_none, errW_some] <;> rfl), bl⟩
def chain_At.f (k : Nat) (a0_0 : ByteArray) (l0_1 : List Int) (l0_2 : List (List (S25))) (a1 : Int) : Option (ByteArray × Int) := (chain_May.f k a0_0 l0_1 l0_2).bind fun t310 => (if t310 = 0 then (if a1 < 0 then (some ((⟨#[]⟩ : ByteArray), 6)) else (if a1 > (l0_2.length : Int) then (some ((⟨#[]⟩ : ByteArray), 6)) else (if 0 ≤ a1 then (if a1 ≤ (l0_2.length : Int) then ((apply_All.f k a0_0 (l0_2.take (a1 : Int).toNat)).bind fun bt315 => (some (bt315.1, bt315.2))) else (none)) else (none)))) else (some ((⟨#[]⟩ : ByteArray), t310)))
def chain_At.T6 : Bool × List (List Nat × List Nat) := (true, [([], []), ([0], [0]), ([], []), ([2], [2]), ([], []), ([3, 4], [3, 4]), ([1, 5], [1, 5]), ([6], [6]), ([6], [6]), ([7, 6, 0, 1, 2, 3, 4, 5, 6, 7, 8], [7]), ([8, 9, 0, 1, 2, 3, 4, 5, 6, 7, 8, 9], [8])])
def chain_At.B6 : List Nat := [0, 1, 0, 4, 0, 28, 63, 127, 127, 511, 1023]
theorem chain_At.tab6 : rtab .any (opsOf Tryd.f27 6) = chain_At.T6 := by kernel_rfl
theorem chain_At.bits6 : waitsOk chain_At.T6.2 chain_At.B6 = true := by kernel_rfl
set_option maxHeartbeats 8000000 in
set_option maxRecDepth 100000 in
theorem chain_At.calls (k : Nat) (a0_0 : ByteArray) (A0_1 : Option Addr) (c0_1 : Nat) (l0_1 : List Int) (A0_2 : Option Addr) (c0_2 : Nat) (l0_2 : List (List (S25))) (a1 : Int) (r1 : ByteArray) (r2 : Int) (w : World) (hr0_1 : Kd.C (Kd.int .i64) w A0_1 l0_1.length l0_1) (hc0_1 : l0_1.length ≤ c0_1) (hr0_2 : Kd.C (Kd.slice 25 k25) w A0_2 l0_2.length l0_2) (hc0_2 : l0_2.length ≤ c0_2) (hT : Tabs w) (h : chain_At.f k a0_0 l0_1 l0_2 a1 = some (r1, r2)) :
  Calls Tryd.prog 27 #[.agg #[.string a0_0, .slice A0_1 l0_1.length c0_1, .slice A0_2 l0_2.length c0_2], .int .i64 a1] w fun e w' => e = .returned (.tuple #[.string r1, .int .i64 r2]) ∧ Below w.heap.size w w' := by
 have HT := am hT
 clear hT
 have hu42 := Tryd.underlying42
 have HR0_1 := am hr0_1
 have HC0_1 := am hc0_1
 clear hr0_1 hc0_1
 have HR0_2 := am hr0_2
 have HC0_2 := am hc0_2
 clear hr0_2 hc0_2
 have HB := am (Below.refl w.heap.size w)
 have H : ((chain_May.f k a0_0 l0_1 l0_2).bind fun t310 => (if t310 = 0 then (if a1 < 0 then (some ((⟨#[]⟩ : ByteArray), 6)) else (if a1 > (l0_2.length : Int) then (some ((⟨#[]⟩ : ByteArray), 6)) else (if 0 ≤ a1 then (if a1 ≤ (l0_2.length : Int) then ((apply_All.f k a0_0 (l0_2.take (a1 : Int).toNat)).bind fun bt315 => (some (bt315.1, bt315.2))) else (none)) else (none)))) else (some ((⟨#[]⟩ : ByteArray), t310)))) = some (r1, r2) := h
 clear h
 replace H := Option.bind_eq_some_iff.mp H
 obtain ⟨t310, A30, H⟩ := H
 try dsimp only at H
 have A3 := am A30
 clear A30
 by_cases c4 : t310 = 0
 ·rw [if_pos c4] at H
  have c4b0 : (t310 == 0) = true := beq_iff_eq.mpr c4
  have c4b1 : (t310 != 0) = false := bne_eq_false_iff_eq.mpr c4
  clear c4
  by_cases c5 : a1 < 0
  ·rw [if_pos c5] at H
   have c5b0 : decide (a1 < 0) = true := decide_eq_true c5
   clear c5
   simp only [Option.some.injEq, Prod.mk.injEq] at H
   obtain ⟨rfl, rfl⟩ := H
   go_enter Tryd.func27, Tryd.ntmps27
   go_wp2_with (first | ((with_reducible refine gate_dst (N := 2) rfl ?_); (try (refine gate_guard (by rfl) ?_; dsimp only)); refine box_event ?hg (N := 2) ?hd (cs := #[.string a0_0, .slice A0_1 l0_1.length c0_1, .slice A0_2 l0_2.length c0_2]) (t := 42) ?hr ?_; (case hd => rfl); (case hg => rfl); (case hr => first | (go_simp; done) | (go_simp; rfl)); intro gb309 hg w6 hbox hb; have n0_ := am (below_step bl hb); have n1_ := am (hbox); have n2_ := am ((gs : w.heap.size ≤ gb309)); have n3_ := am ((gs : w.heap.size ≤ gb309)); clear HB; have HB := n0_; have BK309 := n1_; have GW309 := n2_; have GE309 := n3_; clear n0_ n1_ n2_ n3_; clear hb hbox hg; have hcz7_0 : w6.cell? ⟨gb309, 0, none⟩ = some (.string a0_0) := (blk_cell BK309.out 0).trans rfl; have hcz7_1 : w6.cell? ⟨gb309, 1, none⟩ = some (.slice A0_1 l0_1.length c0_1) := (blk_cell BK309.out 1).trans rfl; have hcz7_2 : w6.cell? ⟨gb309, 2, none⟩ = some (.slice A0_2 l0_2.length c0_2) := (blk_cell BK309.out 2).trans rfl; have hfz7_0 := blk_frozen BK309.out 0; have hfz7_1 := blk_frozen BK309.out 1; have hfz7_2 := blk_frozen BK309.out 2) | ((with_reducible refine gate_callee (f := 66) rfl ?_); refine goesL_ (some 8) rfl rfl Tryd.func66 (by kernel_rfl) rfl #[.agg #[.string a0_0, .slice A0_1 l0_1.length c0_1, .slice A0_2 l0_2.length c0_2]] rfl ar ?_; (with_reducible refine (chain_May.calls k a0_0 _ _ l0_1 _ _ l0_2 t310 _ ?side1 ?side2 ?side3 ?side4 ?side5 A3.out).mono ?_); (case side1 => repeat (first | exact (Kd.C_below HR0_1.out HB.out) | (with_reducible refine Kd.C_alloc ?_ _) | (with_reducible refine Kd.C_drewN ?_ _) | (with_reducible refine Kd.C_drew ?_))); (case side2 => exact HC0_1.out); (case side3 => repeat (first | exact (Kd.C_below HR0_2.out HB.out) | (with_reducible refine Kd.C_alloc ?_ _) | (with_reducible refine Kd.C_drewN ?_ _) | (with_reducible refine Kd.C_drew ?_))); (case side4 => exact HC0_2.out); (case side5 => exact Tabs.below HT.out bl); rintro e w8 ⟨rfl, hb⟩; refine ⟨_, rfl, ?_⟩; have n0_ := am (blk_below (g := gb309) (o := .cells #[.string a0_0, .slice A0_1 l0_1.length c0_1, .slice A0_2 l0_2.length c0_2] 42 (0, 0)) (by refine bk ?_; exact BK309.out) hb); have n1_ := am (below_step bl hb); clear BK309; clear HB; have BK309 := n0_; have HB := n1_; clear n0_ n1_; (try clear hb); (try clear hb2); (try clear hk); (try clear hi)))
   go_ret2
   exact ⟨by first | rfl | (simp [errW_none, errW_some] <;> rfl) | (simp [*, errW_none, errW_some] <;> rfl), bl⟩
  ·rw [if_neg c5] at H
   have c5b0 : decide (a1 < 0) = false := decide_eq_false c5
   clear c5
   by_cases c9 : a1 > (l0_2.length : Int)
   ·rw [if_pos c9] at H
    have c9b0 : decide ((l0_2.length : Int) < a1) = true := decide_eq_true c9
    clear c9
    simp only [Option.some.injEq, Prod.mk.injEq] at H
    obtain ⟨rfl, rfl⟩ := H
    go_enter Tryd.func27, Tryd.ntmps27
    go_wp2_with (first | ((with_reducible refine gate_dst (N := 2) rfl ?_); (try (refine gate_guard (by rfl) ?_; dsimp only)); refine box_event ?hg (N := 2) ?hd (cs := #[.string a0_0, .slice A0_1 l0_1.length c0_1, .slice A0_2 l0_2.length c0_2]) (t := 42) ?hr ?_; (case hd => rfl); (case hg => rfl); (case hr => first | (go_simp; done) | (go_simp; rfl)); intro gb309 hg w10 hbox hb; have n0_ := am (below_step bl hb); have n1_ := am (hbox); have n2_ := am ((gs : w.heap.size ≤ gb309)); have n3_ := am ((gs : w.heap.size ≤ gb309)); clear HB; have HB := n0_; have BK309 := n1_; have GW309 := n2_; have GE309 := n3_; clear n0_ n1_ n2_ n3_; clear hb hbox hg; have hcz11_0 : w10.cell? ⟨gb309, 0, none⟩ = some (.string a0_0) := (blk_cell BK309.out 0).trans rfl; have hcz11_1 : w10.cell? ⟨gb309, 1, none⟩ = some (.slice A0_1 l0_1.length c0_1) := (blk_cell BK309.out 1).trans rfl; have hcz11_2 : w10.cell? ⟨gb309, 2, none⟩ = some (.slice A0_2 l0_2.length c0_2) := (blk_cell BK309.out 2).trans rfl; have hfz11_0 := blk_frozen BK309.out 0; have hfz11_1 := blk_frozen BK309.out 1; have hfz11_2 := blk_frozen BK309.out 2) | ((with_reducible refine gate_callee (f := 66) rfl ?_); refine goesL_ (some 8) rfl rfl Tryd.func66 (by kernel_rfl) rfl #[.agg #[.string a0_0, .slice A0_1 l0_1.length c0_1, .slice A0_2 l0_2.length c0_2]] rfl ar ?_; (with_reducible refine (chain_May.calls k a0_0 _ _ l0_1 _ _ l0_2 t310 _ ?side1 ?side2 ?side3 ?side4 ?side5 A3.out).mono ?_); (case side1 => repeat (first | exact (Kd.C_below HR0_1.out HB.out) | (with_reducible refine Kd.C_alloc ?_ _) | (with_reducible refine Kd.C_drewN ?_ _) | (with_reducible refine Kd.C_drew ?_))); (case side2 => exact HC0_1.out); (case side3 => repeat (first | exact (Kd.C_below HR0_2.out HB.out) | (with_reducible refine Kd.C_alloc ?_ _) | (with_reducible refine Kd.C_drewN ?_ _) | (with_reducible refine Kd.C_drew ?_))); (case side4 => exact HC0_2.out); (case side5 => exact Tabs.below HT.out bl); rintro e w12 ⟨rfl, hb⟩; refine ⟨_, rfl, ?_⟩; have n0_ := am (blk_below (g := gb309) (o := .cells #[.string a0_0, .slice A0_1 l0_1.length c0_1, .slice A0_2 l0_2.length c0_2] 42 (0, 0)) (by refine bk ?_; exact BK309.out) hb); have n1_ := am (below_step bl hb); clear BK309; clear HB; have BK309 := n0_; have HB := n1_; clear n0_ n1_; (try clear hb); (try clear hb2); (try clear hk); (try clear hi); have hcz13_0 : w12.cell? ⟨gb309, 0, none⟩ = some (.string a0_0) := (blk_cell BK309.out 0).trans rfl; have hcz13_1 : w12.cell? ⟨gb309, 1, none⟩ = some (.slice A0_1 l0_1.length c0_1) := (blk_cell BK309.out 1).trans rfl; have hcz13_2 : w12.cell? ⟨gb309, 2, none⟩ = some (.slice A0_2 l0_2.length c0_2) := (blk_cell BK309.out 2).trans rfl; have hfz13_0 := blk_frozen BK309.out 0; have hfz13_1 := blk_frozen BK309.out 1; have hfz13_2 := blk_frozen BK309.out 2))
    go_ret2
    exact ⟨by first | rfl | (simp [errW_none, errW_some] <;> rfl) | (simp [*, errW_none, errW_some] <;> rfl), bl⟩
   ·rw [if_neg c9] at H
    have c9b0 : decide ((l0_2.length : Int) < a1) = false := decide_eq_false c9
    clear c9
    by_cases c14 : 0 ≤ a1
    ·rw [if_pos c14] at H
     have c14b0 := eq_true c14
     have c14b1 : decide (0 ≤ a1) = true := decide_eq_true c14
     clear c14
     by_cases c15 : a1 ≤ (l0_2.length : Int)
     ·rw [if_pos c15] at H
      have c15b0 := eq_true c15
      have c15b1 : decide (a1 ≤ (l0_2.length : Int)) = true := decide_eq_true c15
      clear c15
      obtain ⟨y311, hy311⟩ : ∃ y_ : List (List (S25)), y_ = (l0_2.take (a1 : Int).toNat) := ⟨_, rfl⟩
      replace H : ((apply_All.f k a0_0 y311).bind fun bt315 => (some (bt315.1, bt315.2))) = some (r1, r2) := by first | (rw [hy311]; with_reducible exact H) | (have H2_ := (Option.bind_some _ _).symm.trans H; rw [hy311]; with_reducible exact H2_) | (have H2_ := (Option.bind_some _ _).symm.trans H; with_reducible exact H2_) | with_reducible exact H | (rw [hy311]; exact H) | exact H
      have Ny311 := am hy311
      clear hy311
      replace H := Option.bind_eq_some_iff.mp H
      obtain ⟨⟨t315, t316⟩, A160, H⟩ := H
      replace H : (some (t315, t316)) = some (r1, r2) := H
      have A16 := am A160
      clear A160
      simp only [Option.some.injEq, Prod.mk.injEq] at H
      obtain ⟨rfl, rfl⟩ := H
      go_enter Tryd.func27, Tryd.ntmps27
      try go_wp2_with (first | ((with_reducible refine gate_dst (N := 2) rfl ?_); (try (refine gate_guard (by rfl) ?_; dsimp only)); refine box_event ?hg (N := 2) ?hd (cs := #[.string a0_0, .slice A0_1 l0_1.length c0_1, .slice A0_2 l0_2.length c0_2]) (t := 42) ?hr ?_; (case hd => rfl); (case hg => rfl); (case hr => first | (go_simp; done) | (go_simp; rfl)); intro gb309 hg w17 hbox hb; have n0_ := am (below_step bl hb); have n1_ := am (hbox); have n2_ := am ((gs : w.heap.size ≤ gb309)); have n3_ := am ((gs : w.heap.size ≤ gb309)); clear HB; have HB := n0_; have BK309 := n1_; have GW309 := n2_; have GE309 := n3_; clear n0_ n1_ n2_ n3_; clear hb hbox hg; have hcz18_0 : w17.cell? ⟨gb309, 0, none⟩ = some (.string a0_0) := (blk_cell BK309.out 0).trans rfl; have hcz18_1 : w17.cell? ⟨gb309, 1, none⟩ = some (.slice A0_1 l0_1.length c0_1) := (blk_cell BK309.out 1).trans rfl; have hcz18_2 : w17.cell? ⟨gb309, 2, none⟩ = some (.slice A0_2 l0_2.length c0_2) := (blk_cell BK309.out 2).trans rfl; have hfz18_0 := blk_frozen BK309.out 0; have hfz18_1 := blk_frozen BK309.out 1; have hfz18_2 := blk_frozen BK309.out 2) | ((with_reducible refine gate_callee (f := 66) rfl ?_); refine goesL_ (some 8) rfl rfl Tryd.func66 (by kernel_rfl) rfl #[.agg #[.string a0_0, .slice A0_1 l0_1.length c0_1, .slice A0_2 l0_2.length c0_2]] rfl ar ?_; (with_reducible refine (chain_May.calls k a0_0 _ _ l0_1 _ _ l0_2 t310 _ ?side1 ?side2 ?side3 ?side4 ?side5 A3.out).mono ?_); (case side1 => repeat (first | exact (Kd.C_below HR0_1.out HB.out) | (with_reducible refine Kd.C_alloc ?_ _) | (with_reducible refine Kd.C_drewN ?_ _) | (with_reducible refine Kd.C_drew ?_))); (case side2 => exact HC0_1.out); (case side3 => repeat (first | exact (Kd.C_below HR0_2.out HB.out) | (with_reducible refine Kd.C_alloc ?_ _) | (with_reducible refine Kd.C_drewN ?_ _) | (with_reducible refine Kd.C_drew ?_))); (case side4 => exact HC0_2.out); (case side5 => exact Tabs.below HT.out bl); rintro e w19 ⟨rfl, hb⟩; refine ⟨_, rfl, ?_⟩; have n0_ := am (blk_below (g := gb309) (o := .cells #[.string a0_0, .slice A0_1 l0_1.length c0_1, .slice A0_2 l0_2.length c0_2] 42 (0, 0)) (by refine bk ?_; exact BK309.out) hb); have n1_ := am (below_step bl hb); clear BK309; clear HB; have BK309 := n0_; have HB := n1_; clear n0_ n1_; (try clear hb); (try clear hb2); (try clear hk); (try clear hi); have hcz20_0 : w19.cell? ⟨gb309, 0, none⟩ = some (.string a0_0) := (blk_cell BK309.out 0).trans rfl; have hcz20_1 : w19.cell? ⟨gb309, 1, none⟩ = some (.slice A0_1 l0_1.length c0_1) := (blk_cell BK309.out 1).trans rfl; have hcz20_2 : w19.cell? ⟨gb309, 2, none⟩ = some (.slice A0_2 l0_2.length c0_2) := (blk_cell BK309.out 2).trans rfl; have hfz20_0 := blk_frozen BK309.out 0; have hfz20_1 := blk_frozen BK309.out 1; have hfz20_2 := blk_frozen BK309.out 2))
      have n0_ := am (blk_drew BK309.out)
      have n1_ := am (below_drew1 HB.out)
      clear BK309
      clear HB
      have BK309 := n0_
      have HB := n1_
      clear n0_ n1_
      have q22 : (a1 : Int) ≤ ((l0_2.length : Int) : Int) := of_decide_eq_true as0
      obtain ⟨i022, hi022, _, hsz22, _⟩ := info_parts info27
      have hroom22 : l0_2.length ≤ c0_2 := HC0_2.out
      have hC22 : Kd.C (Kd.slice 25 k25) _ A0_2 l0_2.length l0_2 := HR0_2.out
      have hcut22 := cut_to (P := Tryd.prog) 28 27 .i64 Tryd.underlying28 hi022 A0_2 l0_2.length c0_2 a1 (of_decide_eq_true as0) q22 hroom22
      have hr22 := Kd.C_take (m := (a1 : Int).toNat) hC22 (by omega)
      have hy22 : y311.length = (a1 : Int).toNat := (by rw [Ny311.out, List.length_take]; omega)
      rw [← Ny311.out] at hr22
      rw [← hy22] at hcut22
      have HR314 := am hr22
      have HC314 := am (show y311.length ≤ c0_2 from by omega)
      clear hr22 hC22 hroom22 hi022 hsz22
      have KY22 := am hy22
      clear hy22
      replace q22 := eq_true q22
      refine start_ (n := 11) (S := fun w' => w'.cell? ⟨gb309, 0, none⟩ = some (.string a0_0) ∧ w'.cell? ⟨gb309, 1, none⟩ = some (.slice A0_1 l0_1.length c0_1) ∧ w'.cell? ⟨gb309, 2, none⟩ = some (.slice A0_2 l0_2.length c0_2)) (ds := []) #[false, false, false, false, false, false, false, false, false, false, false] (by kernel_rfl) rfl rfl ⟨(blk_cell BK309.out 0).trans rfl, (blk_cell BK309.out 1).trans rfl, (blk_cell BK309.out 2).trans rfl⟩ (fun hHeld => ?_); refine with_tabW chain_At.tab6 chain_At.bits6 (fun HT_ HW_ => ?_)
      generalize w19.drew = w21 at BK309 HB HR314 hHeld ⊢
      refine pure_ (i := 0) (N := some 21) #[true, false, false, false, false, false, false, false, false, false, false] rfl rfl (aT HT_.out) (fun _ _ _ h => h) (Or.inl ⟨rfl, rn⟩) ap ?_
      refine pure_ (i := 2) (N := some 23) #[true, false, true, false, false, false, false, false, false, false, false] rfl rfl (aT HT_.out) (fun _ _ _ h => h) (Or.inl ⟨rfl, rn⟩) ap ?_
      refine pure_ (i := 4) (N := some 25) #[true, false, true, false, true, false, false, false, false, false, false] rfl rfl (aT HT_.out) (fun _ _ _ h => h) (Or.inl ⟨rfl, rn⟩) ap ?_
      refine take_ (i := 1) (N := some 22) (v := ?_) (a' := ?_) #[true, true, true, false, true, false, false, false, false, false, false] rfl rfl (take_ofW HT_.out HW_.out (by kernel_rfl)) (fun _ _ _ h => h) (Or.inl ⟨by rfl, ?_⟩) hHeld ?_ ?_
      rotate_left
      ·rintro w' ⟨s0, s1, s2⟩
       go_simp
       with_reducible rfl
      rotate_left
      ·exact ap
      refine take_ (i := 3) (N := some 24) (v := ?_) (a' := ?_) #[true, true, true, true, true, false, false, false, false, false, false] rfl rfl (take_ofW HT_.out HW_.out (by kernel_rfl)) (fun _ _ _ h => h) (Or.inl ⟨by rfl, ?_⟩) hHeld ?_ ?_
      rotate_left
      ·rintro w' ⟨s0, s1, s2⟩
       go_simp
       with_reducible rfl
      rotate_left
      ·exact ap
      refine pure_ (i := 5) (N := some 26) #[true, true, true, true, true, true, false, false, false, false, false] rfl rfl (aT HT_.out) (fun _ _ _ h => h) (Or.inl ⟨rfl, rn⟩) ap ?_
      refine one_ (i := 6) (N := some 27) #[true, true, true, true, true, true, true, false, false, false, false] rfl rfl (one_of HT_.out (by kernel_rfl)) (by decide) (fun K hK => ?_)
      refine goes_ Tryd.func14 (by kernel_rfl) rfl #[.string a0_0, .slice A0_2 y311.length c0_2] (by rfl) rfl rfl ar ?_
      with_reducible refine (apply_All.calls k a0_0 _ _ y311 t315 t316 _ ?side1 ?side2 ?side3 A16.out).mono ?_
      (case side1 => repeat (first | exact (Kd.C_below HR314.out HB.out) | (with_reducible refine Kd.C_alloc ?_ _) | (with_reducible refine Kd.C_drewN ?_ _) | (with_reducible refine Kd.C_drew ?_)))
      (case side2 => exact HC314.out)
      (case side3 => exact Tabs.below HT.out bl)
      rintro e w23 ⟨rfl, hb⟩
      refine ⟨_, rfl, ?_⟩
      have n0_ := am (blk_below (g := gb309) (o := .cells #[.string a0_0, .slice A0_1 l0_1.length c0_1, .slice A0_2 l0_2.length c0_2] 42 (0, 0)) (by refine bk ?_; exact BK309.out) hb)
      have n1_ := am (below_step bl hb)
      clear BK309
      clear HB
      have BK309 := n0_
      have HB := n1_
      clear n0_ n1_
      (try clear hb)
      (try clear hb2)
      (try clear hk)
      (try clear hi)
      refine hK.out _ _ ⟨(blk_cell BK309.out 0).trans rfl, (blk_cell BK309.out 1).trans rfl, (blk_cell BK309.out 2).trans rfl⟩ (fun hHeld => ?_)
      clear hK K
      refine norm_ (a' := ?_) ?_ ?_
      rotate_left
      ·show Act.put _ (some 27) _ = _
       simp only [Act.put, List.setIfInBounds_toArray, List.set_cons_zero, List.set_cons_succ, i64_w, i32_w]
       rfl
      refine pure_ (i := 7) (N := some 28) #[true, true, true, true, true, true, true, true, false, false, false] rfl rfl (aT HT_.out) (fun _ _ _ h => h) (Or.inl ⟨rfl, rn⟩) ap ?_
      refine pure_ (i := 8) (N := some 29) #[true, true, true, true, true, true, true, true, true, false, false] rfl rfl (aT HT_.out) (fun _ _ _ h => h) (Or.inl ⟨rfl, rn⟩) ap ?_
      refine pure_ (i := 9) (N := some 4) #[true, true, true, true, true, true, true, true, true, true, false] rfl rfl (aT HT_.out) (fun _ _ _ h => h) (Or.inl ⟨rfl, rn⟩) ap ?_
      refine pure_ (i := 10) (N := some 5) #[true, true, true, true, true, true, true, true, true, true, true] rfl rfl (aT HT_.out) (fun _ _ _ h => h) (Or.inl ⟨rfl, rn⟩) ap ?_
      refine done_ (done_of HT_.out (by kernel_rfl)) ?_
      try go_wp2
      go_ret2
      exact ⟨by first | rfl | (simp [errW_none, errW_some] <;> rfl) | (simp [*, errW_none, errW_some] <;> rfl), bl⟩
     ·rw [if_neg c15] at H
      exact absurd H (by simp)
    ·rw [if_neg c14] at H
     exact absurd H (by simp)
 ·rw [if_neg c4] at H
  have c4b0 : (t310 == 0) = false := beq_eq_false_iff_ne.mpr c4
  have c4b1 : (t310 != 0) = true := bne_iff_ne.mpr c4
  simp only [Option.some.injEq, Prod.mk.injEq] at H
  obtain ⟨rfl, rfl⟩ := H
  go_enter Tryd.func27, Tryd.ntmps27
  go_wp2_with (first | ((with_reducible refine gate_dst (N := 2) rfl ?_); (try (refine gate_guard (by rfl) ?_; dsimp only)); refine box_event ?hg (N := 2) ?hd (cs := #[.string a0_0, .slice A0_1 l0_1.length c0_1, .slice A0_2 l0_2.length c0_2]) (t := 42) ?hr ?_; (case hd => rfl); (case hg => rfl); (case hr => first | (go_simp; done) | (go_simp; rfl)); intro gb309 hg w24 hbox hb; have n0_ := am (below_step bl hb); have n1_ := am (hbox); have n2_ := am ((gs : w.heap.size ≤ gb309)); have n3_ := am ((gs : w.heap.size ≤ gb309)); clear HB; have HB := n0_; have BK309 := n1_; have GW309 := n2_; have GE309 := n3_; clear n0_ n1_ n2_ n3_; clear hb hbox hg; have hcz25_0 : w24.cell? ⟨gb309, 0, none⟩ = some (.string a0_0) := (blk_cell BK309.out 0).trans rfl; have hcz25_1 : w24.cell? ⟨gb309, 1, none⟩ = some (.slice A0_1 l0_1.length c0_1) := (blk_cell BK309.out 1).trans rfl; have hcz25_2 : w24.cell? ⟨gb309, 2, none⟩ = some (.slice A0_2 l0_2.length c0_2) := (blk_cell BK309.out 2).trans rfl; have hfz25_0 := blk_frozen BK309.out 0; have hfz25_1 := blk_frozen BK309.out 1; have hfz25_2 := blk_frozen BK309.out 2) | ((with_reducible refine gate_callee (f := 66) rfl ?_); refine goesL_ (some 8) rfl rfl Tryd.func66 (by kernel_rfl) rfl #[.agg #[.string a0_0, .slice A0_1 l0_1.length c0_1, .slice A0_2 l0_2.length c0_2]] rfl ar ?_; (with_reducible refine (chain_May.calls k a0_0 _ _ l0_1 _ _ l0_2 t310 _ ?side1 ?side2 ?side3 ?side4 ?side5 A3.out).mono ?_); (case side1 => repeat (first | exact (Kd.C_below HR0_1.out HB.out) | (with_reducible refine Kd.C_alloc ?_ _) | (with_reducible refine Kd.C_drewN ?_ _) | (with_reducible refine Kd.C_drew ?_))); (case side2 => exact HC0_1.out); (case side3 => repeat (first | exact (Kd.C_below HR0_2.out HB.out) | (with_reducible refine Kd.C_alloc ?_ _) | (with_reducible refine Kd.C_drewN ?_ _) | (with_reducible refine Kd.C_drew ?_))); (case side4 => exact HC0_2.out); (case side5 => exact Tabs.below HT.out bl); rintro e w26 ⟨rfl, hb⟩; refine ⟨_, rfl, ?_⟩; have n0_ := am (blk_below (g := gb309) (o := .cells #[.string a0_0, .slice A0_1 l0_1.length c0_1, .slice A0_2 l0_2.length c0_2] 42 (0, 0)) (by refine bk ?_; exact BK309.out) hb); have n1_ := am (below_step bl hb); clear BK309; clear HB; have BK309 := n0_; have HB := n1_; clear n0_ n1_; (try clear hb); (try clear hb2); (try clear hk); (try clear hi)))
  go_ret2
  exact ⟨by first | rfl | (simp [errW_none, errW_some] <;> rfl) | (simp [*, errW_none, errW_some] <;> rfl), bl⟩
def chain_Sizes.f (k : Nat) (a0_0 : ByteArray) (l0_1 : List Int) (l0_2 : List (List (S25))) : Option (List Int × Int) := (chain_sizes.f k a0_0 l0_1 l0_2).bind fun bt318 => (some (bt318.1, bt318.2))
set_option maxHeartbeats 8000000 in
set_option maxRecDepth 100000 in
theorem chain_Sizes.calls (k : Nat) (a0_0 : ByteArray) (A0_1 : Option Addr) (c0_1 : Nat) (l0_1 : List Int) (A0_2 : Option Addr) (c0_2 : Nat) (l0_2 : List (List (S25))) (r1 : List Int) (r2 : Int) (w : World) (hr0_1 : Kd.C (Kd.int .i64) w A0_1 l0_1.length l0_1) (hc0_1 : l0_1.length ≤ c0_1) (hr0_2 : Kd.C (Kd.slice 25 k25) w A0_2 l0_2.length l0_2) (hc0_2 : l0_2.length ≤ c0_2) (hT : Tabs w) (h : chain_Sizes.f k a0_0 l0_1 l0_2 = some (r1, r2)) :
  Calls Tryd.prog 54 #[.agg #[.string a0_0, .slice A0_1 l0_1.length c0_1, .slice A0_2 l0_2.length c0_2]] w fun e w' => ∃ v0_ : Value, e = .returned (.tuple #[v0_, .int .i64 r2]) ∧ Kd.R (Kd.int .i64) 3 w' w.heap.size (fun _ => True) v0_ r1 ∧ Below w.heap.size w w' := by
 have HT := am hT
 clear hT
 have hu42 := Tryd.underlying42
 have HR0_1 := am hr0_1
 have HC0_1 := am hc0_1
 clear hr0_1 hc0_1
 have HR0_2 := am hr0_2
 have HC0_2 := am hc0_2
 clear hr0_2 hc0_2
 have HB := am (Below.refl w.heap.size w)
 have H : ((chain_sizes.f k a0_0 l0_1 l0_2).bind fun bt318 => (some (bt318.1, bt318.2))) = some (r1, r2) := h
 clear h
 replace H := Option.bind_eq_some_iff.mp H
 obtain ⟨⟨t318, t321⟩, A20, H⟩ := H
 replace H : (some (t318, t321)) = some (r1, r2) := H
 have A2 := am A20
 clear A20
 simp only [Option.some.injEq, Prod.mk.injEq] at H
 obtain ⟨rfl, rfl⟩ := H
 go_enter Tryd.func54, Tryd.ntmps54
 go_wp2_with (first | ((with_reducible refine gate_dst (N := 1) rfl ?_); refine box_event ?hg (N := 1) ?hd (cs := #[.string a0_0, .slice A0_1 l0_1.length c0_1, .slice A0_2 l0_2.length c0_2]) (t := 42) ?hr ?_; (case hd => rfl); (case hg => rfl); (case hr => first | (go_simp; done) | (go_simp; rfl)); intro gb317 hg w3 hbox hb; have n0_ := am (below_step bl hb); have n1_ := am (hbox); have n2_ := am ((gs : w.heap.size ≤ gb317)); have n3_ := am ((gs : w.heap.size ≤ gb317)); clear HB; have HB := n0_; have BK317 := n1_; have GW317 := n2_; have GE317 := n3_; clear n0_ n1_ n2_ n3_; clear hb hbox hg; have hcz4_0 : w3.cell? ⟨gb317, 0, none⟩ = some (.string a0_0) := (blk_cell BK317.out 0).trans rfl; have hcz4_1 : w3.cell? ⟨gb317, 1, none⟩ = some (.slice A0_1 l0_1.length c0_1) := (blk_cell BK317.out 1).trans rfl; have hcz4_2 : w3.cell? ⟨gb317, 2, none⟩ = some (.slice A0_2 l0_2.length c0_2) := (blk_cell BK317.out 2).trans rfl; have hfz4_0 := blk_frozen BK317.out 0; have hfz4_1 := blk_frozen BK317.out 1; have hfz4_2 := blk_frozen BK317.out 2) | ((with_reducible refine gate_callee (f := 88) rfl ?_); refine goesL_ (some 5) rfl rfl Tryd.func88 (by kernel_rfl) rfl #[.agg #[.string a0_0, .slice A0_1 l0_1.length c0_1, .slice A0_2 l0_2.length c0_2]] rfl ar ?_; (with_reducible refine (chain_sizes.calls k a0_0 _ _ l0_1 _ _ l0_2 t318 t321 _ ?side1 ?side2 ?side3 ?side4 ?side5 A2.out).mono ?_); (case side1 => repeat (first | exact (Kd.C_below HR0_1.out HB.out) | (with_reducible refine Kd.C_alloc ?_ _) | (with_reducible refine Kd.C_drewN ?_ _) | (with_reducible refine Kd.C_drew ?_))); (case side2 => exact HC0_1.out); (case side3 => repeat (first | exact (Kd.C_below HR0_2.out HB.out) | (with_reducible refine Kd.C_alloc ?_ _) | (with_reducible refine Kd.C_drewN ?_ _) | (with_reducible refine Kd.C_drew ?_))); (case side4 => exact HC0_2.out); (case side5 => exact Tabs.below HT.out bl); rintro e w5 ⟨v319, rfl, ho0, hb⟩; refine ⟨_, rfl, ?_⟩; have n0_ := am (Kd.R_lower ho0 (below_size bl)); have n1_ := am (blk_below (g := gb317) (o := .cells #[.string a0_0, .slice A0_1 l0_1.length c0_1, .slice A0_2 l0_2.length c0_2] 42 (0, 0)) (by refine bk ?_; exact BK317.out) hb); have n2_ := am (below_step bl hb); clear BK317; clear HB; have HO320 := n0_; have BK317 := n1_; have HB := n2_; clear n0_ n1_ n2_; (try clear hb); (try clear hb2); (try clear hk); (try clear hi); (try clear ho0)))
 go_ret2
 exact ⟨_, by first | rfl | (simp [errW_none, errW_some] <;> rfl) | (simp [*, errW_none, errW_some] <;> rfl), by refine kR ?_; exact HO320.out, bl⟩
def keep_Floor.l0 : Nat → Int → Int → List Int → Int → Int → Option (Int)
 | 0, _, _, _, _, _ => none
 | k + 1, x1, x5, x8, x9, x10 => if x10 < x9 then (if 0 ≤ x10 then (if x10 < (x8.length : Int) then (if (rd x8 x10) > x1 then (some x5) else (keep_Floor.l0 k x1 x10 x8 x9 (wrap64 (x10 + 1)))) else (none)) else (none)) else (some x5)
def keep_Floor.f (k : Nat) (l0 : List Int) (a1 : Int) : Option (Int) := keep_Floor.l0 k a1 0 l0 (l0.length : Int) 0
set_option maxHeartbeats 8000000 in
set_option maxRecDepth 100000 in
theorem keep_Floor.calls (k : Nat) (A0 : Option Addr) (c0 : Nat) (l0 : List Int) (a1 : Int) (r : Int) (w : World) (hr0 : Kd.C (Kd.int .i64) w A0 l0.length l0) (hc0 : l0.length ≤ c0) (h : keep_Floor.f k l0 a1 = some r) :
  Calls Tryd.prog 55 #[.slice A0 l0.length c0, .int .i64 a1] w fun e w' => e = .returned (.int .i64 r) ∧ Drawn0 w w' := by
 have HR0 := am hr0
 have HC0 := am hc0
 clear hr0 hc0
 have H : (keep_Floor.l0 k a1 0 l0 (l0.length : Int) 0) = some r := h
 clear h
 have H' := am H
 clear H
 go_enter Tryd.func55, Tryd.ntmps55
 go_wp2
 go_loopg [5, 10] k (fun kq v5 v10 w' => ∃ (x5_1 : Int) (x10_1 : Int), v5 = .int .i64 x5_1 ∧ v10 = .int .i64 x10_1 ∧ Aside0 (keep_Floor.l0 kq a1 x5_1 l0 (l0.length : Int) x10_1 = some r) ∧ Aside0 (kq ≤ k) ∧ Drawn0 w w')
 case atStart => exact ⟨(0), (0), pj, pj, H', ⟨Nat.le_refl _⟩, by repeat (first | exact Drawn0.refl _ | apply Drawn0.step)⟩
 case round =>
  clear H'
  try clear p2
  obtain ⟨x5_1, x10_1, rfl, rfl, HA, HK1, ⟨m1, rfl⟩⟩ := hrel
  cases gk with
  | zero => exact absurd HA.out (by simp [keep_Floor.l0])
  | succ k1 =>
   have H := HA.out
   clear HA
   simp only [keep_Floor.l0] at H
   by_cases c3 : x10_1 < (l0.length : Int)
   ·rw [if_pos c3] at H
    have c3b0 : decide (x10_1 < (l0.length : Int)) = true := decide_eq_true c3
    clear c3
    by_cases c4 : 0 ≤ x10_1
    ·rw [if_pos c4] at H
     have c4b0 : decide (0 ≤ x10_1) = true := decide_eq_true c4
     clear c4
     by_cases c5 : x10_1 < (l0.length : Int)
     ·rw [if_pos c5] at H
      have c5b0 : decide (x10_1 < (l0.length : Int)) = true := decide_eq_true c5
      clear c5
      by_cases c6 : (rd l0 x10_1) > a1
      ·rw [if_pos c6] at H
       have c6b0 : decide (a1 < (rd l0 x10_1)) = true := decide_eq_true c6
       clear c6
       obtain rfl := Option.some.inj H
       simp only [Option.some.injEq, Prod.mk.injEq] at H
       obtain ⟨rfl⟩ := H
       have p322 : 0 ≤ (x10_1 : Int) := of_decide_eq_true as0
       have q322 : x10_1 < (l0.length : Int) := of_decide_eq_true as0
       obtain ⟨ad322, e322, hx322_0⟩ := Kd.at_int HR0.out x10_1 p322 q322
       cases e322
       replace p322 := eq_true p322
       replace q322 := eq_true q322
       go_wp2
       go_ret
       exact ⟨pj, by repeat (first | exact Drawn0.refl _ | apply Drawn0.step)⟩
      ·rw [if_neg c6] at H
       have c6b0 : decide (a1 < (rd l0 x10_1)) = false := decide_eq_false c6
       clear c6
       have H' := am H
       clear H
       have p322 : 0 ≤ (x10_1 : Int) := of_decide_eq_true as0
       have q322 : x10_1 < (l0.length : Int) := of_decide_eq_true as0
       obtain ⟨ad322, e322, hx322_0⟩ := Kd.at_int HR0.out x10_1 p322 q322
       cases e322
       replace p322 := eq_true p322
       replace q322 := eq_true q322
       go_wp2
       go_roundg k1
       case measure => have := HK1.out; omega
       case rel => exact ⟨(x10_1), (wrap64 (x10_1 + 1)), pj, pj, H', ⟨by have := HK1.out; omega⟩, by repeat (first | exact Drawn0.refl _ | apply Drawn0.step)⟩
     ·rw [if_neg c5] at H
      exact absurd H (by simp)
    ·rw [if_neg c4] at H
     exact absurd H (by simp)
   ·rw [if_neg c3] at H
    have c3b0 : decide (x10_1 < (l0.length : Int)) = false := decide_eq_false c3
    clear c3
    obtain rfl := Option.some.inj H
    simp only [Option.some.injEq, Prod.mk.injEq] at H
    obtain ⟨rfl⟩ := H
    go_wp2
    go_ret
    exact ⟨pj, by repeat (first | exact Drawn0.refl _ | apply Drawn0.step)⟩
def i64ok (x : Int) : Prop := -9223372036854775808 ≤ x ∧ x ≤ 9223372036854775807
instance (x : Int) : Decidable (i64ok x) := inferInstanceAs (Decidable (_ ∧ _))
theorem i64ok.wf {x : Int} (h : i64ok x) : (Lit.int .i64 x).wf = true := by
 unfold i64ok at h
 simp [Lit.wf, IntKind.min, IntKind.max, IntKind.signed, IntKind.bits]; omega
theorem keep_Of.keyed : Go.Maps.Keyed Tryd.prog 3 := Go.Maps.int_keyed Tryd.underlying3
theorem keep_Of.zero (w : World) : (zeroValue 4).run Tryd.prog w = .ok (.bool false) w := by kernel_rfl
theorem plainElem_bool_inv {H : Type} {P : Program} {e : TypeId} (he : P.underlying e = some .bool) {v : Value} {z : DataW H × List MemPlace} (h : plainElem P e v = some z) : ∃ x, v = .bool x ∧ z = (.lit (.bool x), []) := by
 unfold plainElem at h
 rw [he] at h
 cases v <;> simp at h
 exact ⟨_, rfl, h.symm⟩
def SM (w : World) (b n : Nat) (l : List Int) : Prop := ∃ D : DataW Unit, w.ownsMap Tryd.prog 3 (plainElem Tryd.prog 4) b n D ∧ Go.Maps.IsMap D ∧ ∀ x : Int, D.atKey (.int .i64 x) (.lit (.bool false)) = .lit (.bool (decide (x ∈ l)))
theorem SM.kept {w w' : World} {b n : Nat} {l : List Int} {row : Option Nat} (h : SM w b n l) (hg : w.grownBy w' row) (hne : some b ≠ row) : SM w' b n l := by
 obtain ⟨D, h1, h2, h3⟩ := h
 exact ⟨D, h1.kept hg hne, h2, h3⟩
theorem SM_made (w : World) : SM (w.alloc (.map #[] 0)) w.heap.size 0 [] := ⟨.map [], World.ownsMap_made w _ _ _, Go.Maps.isMap_empty, fun x => by simp [DataW.atKey]⟩
theorem SM.put {w : World} {b n : Nat} {l : List Int} (h : SM w b n l) (hn : n < maxLen) {y : Int} (hy : i64ok y) :
  ∃ w', (Instr.mapUpdate 143 (.map (some b)) (.int .i64 y) (.bool true)).run Tryd.prog w = .ok () w' ∧ SM w' b (n + 1) (y :: l) ∧ w.grownBy w' (some b) := by
 obtain ⟨D, h1, h2, h3⟩ := h
 obtain ⟨w', hrun, r1, r2⟩ := h1.update keep_Of.keyed Tryd.underlying143 hn (Go.Maps.keyOf_int_mk Tryd.underlying3 hy.wf) (plainElem_bool Tryd.underlying4 true)
 refine ⟨w', hrun, ⟨_, r1, h2.put _ _, fun x => ?_⟩, r2⟩
 by_cases c : x = y
 ·subst c
  rw [Go.Maps.atKey_put_same h2 (by simp [WideAt.IsKeyLit])]
  simp
 ·rw [Go.Maps.atKey_put_other (by intro e; injection e with e1 e2; exact c e2), h3]
  simp [c]
theorem SM.look {w : World} {b n : Nat} {l : List Int} (h : SM w b n l) {x : Int} (hx : i64ok x) :
  (Instr.lookup 143 (.map (some b)) (.int .i64 x) false).run Tryd.prog w = .ok (.bool (decide (x ∈ l))) w := by
 obtain ⟨D, h1, h2, h3⟩ := h
 obtain ⟨v, ps, hrun, hv⟩ := h1.lookup keep_Of.keyed Tryd.underlying143 (keep_Of.zero w) (plainElem_bool Tryd.underlying4 false) (Go.Maps.keyOf_int_mk Tryd.underlying3 hx.wf)
 obtain ⟨c, rfl, e⟩ := plainElem_bool_inv Tryd.underlying4 hv
 have e1 := congrArg Prod.fst e
 rw [h3] at e1
 have e2 : decide (x ∈ l) = c := Lit.bool.inj (DataW.lit.inj e1)
 rw [e2]
 exact hrun
theorem SM.lt {w : World} {b n : Nat} {l : List Int} (h : SM w b n l) : b < w.heap.size := by
 obtain ⟨D, h1, _⟩ := h
 exact h1.lt
theorem keep_Of.cut (A : Option Addr) (n c m : Nat) (hm : m ≤ n) (hc : n ≤ c) (W : World) : (Instr.slice 38 (.slice A n c) (some (.int .i64 (m : Int))) none none).run Tryd.prog W = .ok (.slice (if c = m then A else A.map (·.add (m * 1))) (n - m) (c - m)) W := by
 obtain ⟨i0, hi0, _, hsz, _⟩ := info_parts info3
 have h := cut_from (P := Tryd.prog) 38 3 .i64 Tryd.underlying38 hi0 1 hsz A n c (m : Int) (by omega) (by omega) W
 rw [Int.toNat_natCast] at h
 exact h
theorem SM_cell {W w1 : World} {row : Option Nat} {base : Nat} {a : Addr} {v : Value} (hg : W.grownBy w1 row) (hb : a.block < base) (h : W.cell? a = some v) (hr : row = none ∨ row = some base := by first | exact .inl rfl | exact .inr rfl) : w1.cell? a = some v := by
 refine hg.cell h ?_
 rcases hr with rfl | rfl
 ·simp
 ·simp; omega
theorem rd_mem {l : List Int} {i : Int} (h0 : 0 ≤ i) (h1 : i < (l.length : Int)) : rd l i ∈ l := by
 unfold rd
 rw [List.getD_eq_getElem?_getD, List.getElem?_eq_getElem (by omega)]
 exact List.getElem_mem _
def keep_Of.p (r l1 : List Int) (x : Int) : Bool := decide (x = rd r 0) || decide (x = rd r ((r.length : Int) - 1)) || decide (x ∈ l1)
def keep_Of.f (k : Nat) (l0 l1 : List Int) (a2 : Int) : Option (List Int) :=
 (keep_Floor.f k l0 a2).bind fun m => if 0 ≤ m ∧ m < (l0.length : Int) ∧ l0.length < 1000000 ∧ l1.length < 1000000 ∧ (∀ x ∈ l0, i64ok x) ∧ (∀ x ∈ l1, i64ok x) then some ((l0.drop m.toNat).filter (keep_Of.p (l0.drop m.toNat) l1)) else none
def SX (w : World) (b n : Nat) (q l1 : List Int) (j : Nat) : Prop := ∃ L, SM w b n L ∧ ∀ x, x ∈ L ↔ (x = rd q 0 ∨ x = rd q ((q.length : Int) - 1) ∨ x ∈ l1.take j)
theorem SX.kept {w w' : World} {b n : Nat} {q l1 : List Int} {j : Nat} {row : Option Nat} (h : SX w b n q l1 j) (hg : w.grownBy w' row) (hne : some b ≠ row) : SX w' b n q l1 j := by
 obtain ⟨L, h1, h2⟩ := h
 exact ⟨L, h1.kept hg hne, h2⟩
theorem SX.put {w : World} {b n : Nat} {q l1 : List Int} {j : Nat} (h : SX w b n q l1 j) (hn : n < maxLen) (hj : j < l1.length) (hy : i64ok (rd l1 (j : Int))) :
  ∃ w', (Instr.mapUpdate 143 (.map (some b)) (.int .i64 (rd l1 (j : Int))) (.bool true)).run Tryd.prog w = .ok () w' ∧ SX w' b (n + 1) q l1 (j + 1) ∧ w.grownBy w' (some b) := by
 obtain ⟨L, h1, h2⟩ := h
 obtain ⟨w', hrun, hs, hg⟩ := h1.put hn hy
 refine ⟨w', hrun, ⟨_, hs, fun x => ?_⟩, hg⟩
 have e : rd l1 (j : Int) = l1[j] := by unfold rd; rw [Int.toNat_natCast, List.getD_eq_getElem?_getD, List.getElem?_eq_getElem hj]; rfl
 rw [List.mem_cons, h2, List.take_succ_eq_append_getElem hj, List.mem_append, List.mem_singleton, e]
 constructor
 ·rintro (h | h | h | h) <;> simp [h]
 ·rintro (h | h | h | h) <;> simp [h]
theorem SX.look {w : World} {b n : Nat} {q l1 : List Int} (h : SX w b n q l1 l1.length) {x : Int} (hx : i64ok x) :
  (Instr.lookup 143 (.map (some b)) (.int .i64 x) false).run Tryd.prog w = .ok (.bool (keep_Of.p q l1 x)) w := by
 obtain ⟨L, h1, h2⟩ := h
 rw [h1.look hx]
 have e : decide (x ∈ L) = keep_Of.p q l1 x := by
  unfold keep_Of.p
  rw [Bool.eq_iff_iff]
  simp [h2]
  constructor
  ·rintro (h | h | h) <;> simp [h]
  ·rintro ((h | h) | h) <;> simp [h]
 rw [e]
set_option maxHeartbeats 8000000 in
set_option maxRecDepth 100000 in
theorem keep_Of.calls (k : Nat) (A0 : Option Addr) (c0 : Nat) (l0 : List Int) (A1 : Option Addr) (c1 : Nat) (l1 : List Int) (a2 : Int) (r : List Int) (w : World) (hr0 : Kd.C (Kd.int .i64) w A0 l0.length l0) (hc0 : l0.length ≤ c0) (hr1 : Kd.C (Kd.int .i64) w A1 l1.length l1) (hc1 : l1.length ≤ c1) (h : keep_Of.f k l0 l1 a2 = some r) :
  Calls Tryd.prog 56 #[.slice A0 l0.length c0, .slice A1 l1.length c1, .int .i64 a2] w fun e w' => ∃ v0_ : Value, e = .returned v0_ ∧ Kd.R (Kd.int .i64) 3 w' w.heap.size (fun _ => True) v0_ r ∧ Below w.heap.size w w' := by
 unfold keep_Of.f at h
 have hmm := @run_makeMap Tryd.prog
 obtain ⟨m', hm', h⟩ := Option.bind_eq_some_iff.mp h
 by_cases z : 0 ≤ m' ∧ m' < (l0.length : Int) ∧ l0.length < 1000000 ∧ l1.length < 1000000 ∧ (∀ x ∈ l0, i64ok x) ∧ (∀ x ∈ l1, i64ok x)
 ·rw [if_pos z] at h
  have h := Option.some.inj h
  obtain ⟨z0, z1, z2, z3, z4, z5⟩ := z
  obtain ⟨m, rfl⟩ : ∃ m : Nat, m' = (m : Int) := ⟨m'.toNat, by omega⟩
  rw [Int.toNat_natCast] at h
  have hml : m < l0.length := by omega
  obtain ⟨q, hq⟩ : ∃ q, l0.drop m = q := ⟨_, rfl⟩
  have hql : l0.length - m = q.length := by rw [← hq, List.length_drop]
  have hqi : ∀ x ∈ q, i64ok x := fun x hx => z4 x (List.mem_of_mem_drop (hq ▸ hx))
  rw [hq] at h
  have hcm : ¬ c0 = m := by omega
  have hcq := Kd.C_drop hr0 (m := m) (by omega) hc0
  rw [hq, if_neg hcm] at hcq
  have hcut := fun W => keep_Of.cut A0 l0.length c0 m (by omega) hc0 W
  rw [if_neg hcm, hql] at hcut
  obtain ⟨A, hA⟩ : ∃ A, A0.map (·.add (m * 1)) = A := ⟨_, rfl⟩
  have hA2 : A0.map (·.add (m * (Kd.int .i64).sz)) = A := hA
  rw [hA] at hcut
  rw [hA2] at hcq
  obtain ⟨q', hq'⟩ : ∃ q', q.length = q' + 1 := ⟨q.length - 1, by omega⟩
  obtain ⟨ad, eA, hx0⟩ := Kd.at_int hcq 0 (by omega) (by omega)
  obtain ⟨_, _, hx9⟩ := Kd.at_int hcq (q' : Int) (by omega) (by omega)
  subst eA
  rename_i e9
  cases e9
  rw [Int.toNat_natCast] at hx9
  have hx0 : w.cell? ad = some (.int .i64 (rd q 0)) := by rw [show ad = ad.add 0 by cases ad; simp [Addr.add]]; exact hx0
  have HM := am hm'; have HR0 := am hr0; have HC0 := am hc0; have HR1 := am hr1; have HQ := am hcq; have HX0 := am hx0; have HX9 := am hx9; have HCUT := am hcut; have HQI := am hqi; have HSI := am z5; have HZ1 := am z3; have HH := am h; have HQL := am hq'
  have HZQ : Aside0 (q.length < 1000000) := ⟨by omega⟩
  have hp1 : (0 < q.length) = True := eq_true (by omega)
  have hp2 : (q' < q.length) = True := eq_true (by omega)
  have hp3 : ((q' : Int) < (q.length : Int)) = True := eq_true (by omega)
  have hw1 : wrap64 ((q.length : Int) - 1) = (q' : Int) := by unfold wrap64; omega
  have hw2 : IntKind.i64.wrap ((q.length : Int) - 1) = (q' : Int) := by rw [IntKind.wrap_i64]; omega
  clear hm' hr0 hc0 hr1 hc1 hcq hx0 hx9 hqi z0 z1 z2 z3 z4 z5 h hq hql hcm hA hA2 hml hq'
  go_enter Tryd.func56, Tryd.ntmps56
  go_wp2_with (go_at_call 55; (with_reducible refine (keep_Floor.calls k A0 c0 l0 a2 (m : Int) _ HR0.out HC0.out HM.out).mono ?_); rintro e w1 ⟨rfl, nd, rfl⟩)
  have HSM3 : Aside0 (SM ((w.drewN (nd + 1)).alloc (.map #[] 0)) w.heap.size 0 []) := ⟨SM_made _⟩
  have HI0 : Aside0 (rd q 0 ∈ q) := ⟨rd_mem (by omega) (by have := HQL.out; omega)⟩
  have HI9 : Aside0 (rd q (q' : Int) ∈ q) := ⟨rd_mem (by omega) (by have := HQL.out; omega)⟩
  have HX0L : Aside0 (ad.block < w.heap.size) := ⟨World.block_lt_of_cell? w _ HX0.out⟩
  have HX9L : Aside0 ((ad.add q').block < w.heap.size) := ⟨World.block_lt_of_cell? w _ HX9.out⟩
  have hx0_2 : (w.drewN (nd + 1)).cell? ad = some (.int .i64 (rd q 0)) := HX0.out
  have hx9_2 : (w.drewN (nd + 1)).cell? (ad.add q') = some (.int .i64 (rd q (q' : Int))) := HX9.out
  have hx0_3 : ((w.drewN (nd + 1)).alloc (.map #[] 0)).cell? ad = some (.int .i64 (rd q 0)) := SM_cell (World.grownBy_alloc _ _ none) HX0L.out hx0_2
  have hx9_3 : ((w.drewN (nd + 1)).alloc (.map #[] 0)).cell? (ad.add q') = some (.int .i64 (rd q (q' : Int))) := SM_cell (World.grownBy_alloc _ _ none) HX9L.out hx9_2
  obtain ⟨w5, hrun5, hs5, hg5⟩ := SM.put HSM3.out (by unfold maxLen; decide) (HQI.out _ HI0.out)
  obtain ⟨w6, hrun6, hs6, hg6⟩ := SM.put hs5 (by unfold maxLen; decide) (HQI.out _ HI9.out)
  obtain ⟨v5, hrv5, ht5, hh5⟩ := SM.put HSM3.out (by unfold maxLen; decide) (HQI.out _ HI9.out)
  obtain ⟨v6, hrv6, ht6, hh6⟩ := SM.put ht5 (by unfold maxLen; decide) (HQI.out _ HI0.out)
  have hx0_5 : w5.cell? ad = some (.int .i64 (rd q 0)) := SM_cell hg5 HX0L.out hx0_3
  have hx9_5 : w5.cell? (ad.add q') = some (.int .i64 (rd q (q' : Int))) := SM_cell hg5 HX9L.out hx9_3
  have hx0_6 : v5.cell? ad = some (.int .i64 (rd q 0)) := SM_cell hh5 HX0L.out hx0_3
  have hx9_6 : v5.cell? (ad.add q') = some (.int .i64 (rd q (q' : Int))) := SM_cell hh5 HX9L.out hx9_3
  have hb3 := (below_drew1 (pw_below_drewN (Below.refl w.heap.size w) nd)).alloc (by simp) (.map #[] 0)
  have HW6 : Aside0 (SX w6 w.heap.size 2 q l1 0) := ⟨_, hs6, fun x => by rw [HQL.out]; simp [or_comm]⟩
  have HV6 : Aside0 (SX v6 w.heap.size 2 q l1 0) := ⟨_, ht6, fun x => by rw [HQL.out]; simp⟩
  have HBW : Aside0 (Below w.heap.size w w6) := ⟨(hb3.grown hg5 (by simp) (fun j hj => by cases hj; exact Nat.le_refl _)).grown hg6 (by have := hg5.size; simp at this; omega) (fun j hj => by cases hj; exact Nat.le_refl _)⟩
  have HBV : Aside0 (Below w.heap.size w v6) := ⟨(hb3.grown hh5 (by simp) (fun j hj => by cases hj; exact Nat.le_refl _)).grown hh6 (by have := hh5.size; simp at this; omega) (fun j hj => by cases hj; exact Nat.le_refl _)⟩
  clear hs5 hg5 hs6 hg6 ht5 hh5 ht6 hh6 hb3
  refine wp_region_noPanic ?_
  go_region
  all_goals (refine NoPanic.normal ?_)
  all_goals (first | (show Exit.then _ _ Exit.normal _ w6; have HSX := HW6; have HBX := HBW; generalize w6 = wz at HSX HBX ⊢) | (show Exit.then _ _ Exit.normal _ v6; have HSX := HV6; have HBX := HBV; generalize v6 = wz at HSX HBX ⊢))
  all_goals clear hrun5 hrun6 hrv5 hrv6 HW6 HV6 HBW HBV hx0_2 hx9_2 hx0_3 hx9_3 hx0_5 hx9_5 hx0_6 hx9_6
  all_goals go_wp2
  all_goals
   go_loopw [9, 31] (fun _ v31 wr => ∃ j : Nat, v31 = .int .i64 j ∧ j ≤ l1.length ∧ Aside0 (SX wr w.heap.size (2 + j) q l1 j) ∧ Aside0 (Below w.heap.size w wr)) (fun _ v31 _ => l1.length - (intOf v31).toNat)
   case atStart => exact ⟨0, rfl, Nat.zero_le _, HSX, HBX⟩
   case round =>
    clear HSX HBX
    obtain ⟨j, rfl, hj, HSX, HBX⟩ := hrel
    by_cases hlt : j < l1.length
    ·have hltb : decide ((j : Int) < (l1.length : Int)) = true := decide_eq_true (by omega)
     have HL := am hlt
     obtain ⟨ad1, e1, hx1⟩ := Kd.at_int (Kd.C_below HR1.out HBX.out) (j : Int) (by omega) (by omega)
     subst e1
     rw [Int.toNat_natCast] at hx1
     have p2 : ((j : Int) < (l1.length : Int)) = True := eq_true (by omega)
     have p3 : (j < l1.length) = True := eq_true hlt
     have ew : wrap64 ((j : Int) + 1) = ((j + 1 : Nat) : Int) := by have := HZ1.out; unfold wrap64; omega
     obtain ⟨w9, hrun9, hs9, hg9⟩ := HSX.out.put (by have := HZ1.out; unfold maxLen; omega) hlt (HSI.out _ (rd_mem (by omega) (by omega)))
     have HS9 := am hs9
     have HB9 := am (HBX.out.grown hg9 HBX.out.size (fun j hj => by cases hj; exact Nat.le_refl _))
     clear hlt hs9 hg9 HSX HBX
     go_wp2
     go_round
     case measure => exact op_sum.less HL.out ew
     case rel => exact ⟨j + 1, by rw [ew], HL.out, HS9, HB9⟩
    ·have hltb : decide ((j : Int) < (l1.length : Int)) = false := decide_eq_false (by omega)
     obtain rfl : j = l1.length := by omega
     clear hlt hj
     go_wp2
     go_loopw [10, 12, 40] (fun v10 _ v40 wr => ∃ (j : Nat) (out : List Int), v40 = .int .i64 j ∧ j ≤ q.length ∧ Aside0 (out = (q.take j).filter (keep_Of.p q l1)) ∧ Aside0 (SX wr w.heap.size (2 + l1.length) q l1 l1.length) ∧ Aside0 (Kd.R (Kd.int .i64) 3 wr w.heap.size (fun k => k ≠ w.heap.size) v10 out) ∧ Aside0 (Below w.heap.size w wr)) (fun _ _ v40 _ => q.length - (intOf v40).toNat)
     case atStart => exact ⟨0, [], rfl, Nat.zero_le _, ⟨by simp⟩, HSX, ⟨Kd.R_nil _ _ _ _ _⟩, HBX⟩
     case round =>
      clear HSX HBX
      obtain ⟨j, out, rfl, hj, HOE, HSX, HOO, HBX⟩ := hrel
      by_cases hlt : j < q.length
      ·have hltb : decide ((j : Int) < (q.length : Int)) = true := decide_eq_true (by omega)
       have HL := am hlt
       obtain ⟨ad1, e1, hx1⟩ := Kd.at_int (Kd.C_below HQ.out HBX.out) (j : Int) (by omega) (by omega)
       cases e1
       rw [Int.toNat_natCast] at hx1
       have p2 : ((j : Int) < (q.length : Int)) = True := eq_true (by omega)
       have p3 : (j < q.length) = True := eq_true hlt
       have ew : wrap64 ((j : Int) + 1) = ((j + 1 : Nat) : Int) := by have := HZQ.out; unfold wrap64; omega
       have hlk := HSX.out.look (HQI.out _ (rd_mem (l := q) (i := (j : Int)) (by omega) (by omega)))
       have HON : Aside0 ((q.take (j + 1)).filter (keep_Of.p q l1) = out ++ [rd q (j : Int)].filter (keep_Of.p q l1)) := ⟨by
        have e : rd q (j : Int) = q[j] := by unfold rd; rw [Int.toNat_natCast, List.getD_eq_getElem?_getD, List.getElem?_eq_getElem hlt]; rfl
        rw [List.take_succ_eq_append_getElem hlt, List.filter_append, HOE.out, e]⟩
       have HLN : Aside0 (out.length ≤ j) := ⟨by rw [HOE.out]; exact Nat.le_trans (List.length_filter_le _ _) (by rw [List.length_take]; omega)⟩
       have HSG : Aside0 (some w.heap.size ≠ u10.ownBlock) := ⟨fun e => (HOO.out.1 _ e.symm) rfl⟩
       have HGL : Aside0 (w.heap.size < wr.heap.size) := ⟨by obtain ⟨L, h1, _⟩ := HSX.out; exact h1.lt⟩
       clear hlt HOE
       cases hb : keep_Of.p q l1 (rd q (j : Int)) with
       | true =>
        rw [hb] at hlk
        have HO2 : Aside0 (out ++ [rd q (j : Int)] = (q.take (j + 1)).filter (keep_Of.p q l1)) := ⟨by rw [HON.out]; simp [hb]⟩
        clear hb
        go_wp2_with ((with_reducible refine gate_builtin (b := .append) (xs := #[.tmp 47, .tmp 49]) rfl ?_); at_builtin; refine Kd.R_append (Kd.int .i64) (w0 := w) w.heap.size rfl (.tmp 47) (.tmp 49) 38 3 (.int .i64 0) 8 rfl Tryd.underlying38 info3 rfl (by decide) (by omega) u10 out (rd q (j : Int)) [.int .i64 (rd q (j : Int))] (fun k => k ≠ w.heap.size) (fun _ => False) rfl rfl ?aP (fun _ hk => hk.elim) ?aF ?aO ?aB ?aS ?aL ?_; (case aP => exact rfl); (case aB => exact HBX.out); (case aF => intro k hk; have := HGL.out; omega); (case aO => exact HOO.out); (case aS => exact HBX.out.size); (case aL => have := HLN.out; have := HZQ.out; have := HL.out; omega); intro v17 w17 ho hb2 hg hat; have HO17 := am ho; have HB17 := am hb2; have HS17 := am (HSX.out.kept hg HSG.out); clear ho hb2 hg hat)
        go_round
        case measure => exact op_sum.less HL.out ew
        case rel => exact ⟨j + 1, _, by rw [ew], HL.out, HO2, HS17, HO17, HB17⟩
       | false =>
        rw [hb] at hlk
        have HO2 : Aside0 (out = (q.take (j + 1)).filter (keep_Of.p q l1)) := ⟨by rw [HON.out]; simp [hb]⟩
        clear hb
        go_wp2
        go_round
        case measure => exact op_sum.less HL.out ew
        case rel => exact ⟨j + 1, _, by rw [ew], HL.out, HO2, HSX, HOO, HBX⟩
      ·have hltb : decide ((j : Int) < (q.length : Int)) = false := decide_eq_false (by omega)
       obtain rfl : j = q.length := by omega
       clear hlt hj
       have HF : Aside0 (out = r) := ⟨by rw [HOE.out, List.take_length]; exact HH.out⟩
       go_wp2
       go_ret
       exact ⟨_, rfl, Kd.R_mono (HF.out ▸ HOO.out) (fun _ _ => trivial), HBX.out⟩
 ·rw [if_neg z] at h; cases h
def compact_Of.to (y : Int) : List Int → Nat → Option Nat
 | [], _ => none
 | x :: l, i => if x = y then some i else compact_Of.to y l (i + 1)
def compact_Of.l (k : Nat) (sz revs : List Int) (segs : List (List S25)) : Nat → List Int → Option (List (List S25))
 | _, [] => some []
 | at_, y :: rest => (compact_Of.to y (revs.drop at_) at_).bind fun t => if t ≤ segs.length ∧ at_ < sz.length then (fuse_Of.f k (rd sz (at_ : Int)) ((segs.take t).drop at_)).bind fun r => (if r.2 = 0 then (compact_Of.l k sz revs segs t rest).bind fun o => some (r.1 :: o) else none) else none
def compact_Of.f (k : Nat) (s : ByteArray) (revs : List Int) (segs : List (List S25)) (set : List Int) (floor : Int) : Option (ByteArray × List Int × List (List S25) × Int) :=
 if segs.length < 1000000 ∧ revs.length < 1000000 then (chain_Sizes.f k s revs segs).bind fun z => (if z.2 = 0 then (keep_Floor.f k revs floor).bind fun a => (chain_At.f k s revs segs a).bind fun b => (if b.2 = 0 then (keep_Of.f k revs set floor).bind fun kept => (if 0 ≤ a ∧ 1 ≤ kept.length ∧ kept.length < 1000000 then (compact_Of.l k z.1 revs segs a.toNat (kept.drop 1)).bind fun o => some (b.1, kept, o, 0) else none) else none) else none) else none
def SG (w : World) (base gS m : Nat) (rows : List (List S25)) : Prop := ∃ (cs : List Value) (f : Nat → Nat), cs.length = m ∧ rows.length ≤ m ∧ w.heap[gS]? = some (.cells cs.toArray 27 (0, 0)) ∧
 (∀ j x, rows[j]? = some x → ∃ v, cs[j]? = some v ∧ Kd.R k25 25 w base (fun k => f k = j ∧ k ≠ gS) v x) ∧ (∀ j, rows.length ≤ j → j < m → cs[j]? = some (.slice none 0 0))
theorem made_nil (m : Nat) : madeCells #[.slice none 0 0] m = (List.replicate m (Value.slice none 0 0)).toArray := by
 unfold madeCells
 apply Array.ext
 ·simp
 ·intro i h1 h2
  simp [Nat.mod_one]
theorem SG_start {w : World} {base gS m : Nat} (h : w.heap[gS]? = some (.cells (madeCells #[.slice none 0 0] m) 27 (0, 0))) : SG w base gS m [] := by
 refine ⟨List.replicate m (.slice none 0 0), fun _ => 0, by simp, Nat.zero_le _, by rw [← made_nil]; exact h, fun j x hx => by simp at hx, fun j _ hj => by simp [hj]⟩
theorem SG_drewN {w : World} {base gS m : Nat} {rows : List (List S25)} (h : SG w base gS m rows) (n : Nat) : SG (w.drewN n) base gS m rows := by
 obtain ⟨cs, f, h1, h2, h3, h4, h5⟩ := h
 exact ⟨cs, f, h1, h2, h3, fun j x hx => by obtain ⟨v, e, hr⟩ := h4 j x hx; exact ⟨v, e, Kd.R_drewN hr n⟩, h5⟩
theorem SG_put {w w1 : World} {base gS m : Nat} {rows : List (List S25)} {v : Value} {x : List S25} (h : SG w base gS m rows) (hm : rows.length < m) (hb : Below w.heap.size w w1) (hr : Kd.R k25 25 w1 w.heap.size (fun _ => True) v x) (hbase : base ≤ w.heap.size) :
  SG (w1.setCell ⟨gS, rows.length, none⟩ v) base gS m (rows ++ [x]) := by
 obtain ⟨cs, f, h1, h2, h3, h4, h5⟩ := h
 have hlt := blk_lt h3
 refine ⟨cs.set rows.length v, fun k => if w.heap.size ≤ k then rows.length else f k, by simp [h1], by simp; omega, ?_, ?_, ?_⟩
 ·have := blk_put (blk_below h3 hb) rows.length v rfl
  rw [this]; simp
 ·intro j y hy
  by_cases c : j < rows.length
  ·rw [List.getElem?_append_left c] at hy
   obtain ⟨u, e, hu⟩ := h4 j y hy
   refine ⟨u, by rw [List.getElem?_set_ne (by omega)]; exact e, ?_⟩
   have h6 := Kd.R_far (p := ⟨gS, rows.length, none⟩) (Kd.R_below (Kd.R_bound hu) hb) (fun k hk => hk.1.2) v
   exact Kd.R_mono h6 (fun k hk => ⟨by show (if w.heap.size ≤ k then rows.length else f k) = j; rw [if_neg (by have := hk.2.2.1; omega)]; exact hk.1.1, hk.1.2⟩)
  ·rw [List.getElem?_append_right (by omega)] at hy
   have hj : j = rows.length := by
    have := (List.getElem?_eq_some_iff.mp hy).1
    simp at this; omega
   subst hj
   have hyx : x = y := by simpa using hy
   subst hyx
   refine ⟨v, by rw [List.getElem?_set_self (by omega)], ?_⟩
   have h6 := Kd.R_far (p := ⟨gS, rows.length, none⟩) (Kd.R_bound hr) (fun k hk => by have := hk.2.1; show k ≠ gS; omega) v
   exact Kd.R_lower (Kd.R_mono h6 (fun k hk => ⟨by show (if w.heap.size ≤ k then rows.length else f k) = rows.length; rw [if_pos hk.2.1], by have := hk.2.1; omega⟩)) hbase
 ·intro j hj hjm
  rw [List.length_append, List.length_singleton] at hj
  rw [List.getElem?_set_ne (by omega)]
  exact h5 j (by omega) hjm
theorem SG_S {w : World} {base gS m : Nat} {rows : List (List S25)} (h : SG w base gS m rows) (hm : rows.length = m) (hb : base ≤ gS) (hml : m ≤ maxLen) : Kd.S (Kd.slice 25 k25) 27 w base (fun _ => True) (.slice (some ⟨gS, 0, none⟩) m m) rows := by
 obtain ⟨cs, f, h1, h2, h3, h4, h5⟩ := h
 refine ⟨f, fun _ _ => trivial, cs, ⟨by rw [List.length_zipIdx, hm, h1]; show m = m * 1; omega, .inr ⟨gS, m, cs.toArray, by rw [List.length_zipIdx, hm], hb, h3, by rw [List.length_zipIdx, hm]; exact Nat.le_refl _, hml, by show cs.toArray.size = m * 1; simp [h1], ?_⟩⟩, ?_⟩
 ·show cs.toArray.toList.take (rows.zipIdx.length * 1) = cs
  rw [List.length_zipIdx, hm, Nat.mul_one, List.toList_toArray, ← h1, List.take_length]
 ·refine ⟨by rw [List.length_zipIdx, hm, h1]; show m = m * 1; omega, fun j p hj => ?_⟩
  rw [List.getElem?_zipIdx] at hj
  obtain ⟨x, hx, rfl⟩ := Option.map_eq_some_iff.1 hj
  obtain ⟨v, hv, hr⟩ := h4 j x hx
  have e : (cs.drop (j * (Kd.tag f (Kd.slice 25 k25)).sz)).take (Kd.tag f (Kd.slice 25 k25)).sz = [v] := by
   show (cs.drop (j * 1)).take 1 = [v]
   rw [Nat.mul_one]
   have hlt := (List.getElem?_eq_some_iff.mp hv).1
   rw [List.drop_eq_getElem_cons hlt]
   have := (List.getElem?_eq_some_iff.mp hv).2
   simp [this]
  rw [e]
  refine Kd.M_row (Kd.R_mono hr (fun k hk => ⟨⟨trivial, ?_⟩, by simpa using hk.1⟩))
  simp only [Value.ownBlock]
  intro e2
  injection e2 with e2
  exact hk.2 e2
def _root_.Go.World.next (w : World) : Nat := w.heap.size
def compact_Of.NS (w w6 : World) (gR gS gL n m : Nat) (b : ByteArray) : Prop :=
 w.heap[gR]? = some (.cells (madeCells #[.int .i64 0] n) 3 (0, 0)) ∧ w.heap[gS]? = some (.cells (madeCells #[.slice none 0 0] m) 27 (0, 0)) ∧ w.heap[gL]? = some (.cells #[.string b, .slice (some ⟨gR, 0, none⟩) n n, .slice (some ⟨gS, 0, none⟩) m m] 42 (0, 0)) ∧ Below w6.heap.size w6 w ∧ gR ≠ gS ∧ gR ≠ gL ∧ gS ≠ gL ∧ w6.next ≤ gR ∧ w6.next ≤ gS ∧ w6.next ≤ gL
theorem compact_Of.three (w6 : World) (o1 o2 o3 : Obj) : ((((w6.alloc o1).alloc o2).alloc o3).drew).heap[w6.heap.size]? = some o1 ∧ ((((w6.alloc o1).alloc o2).alloc o3).drew).heap[w6.heap.size + 1]? = some o2 ∧ ((((w6.alloc o1).alloc o2).alloc o3).drew).heap[w6.heap.size + 1 + 1]? = some o3 ∧ Below w6.heap.size w6 ((((w6.alloc o1).alloc o2).alloc o3).drew) ∧ w6.next = w6.heap.size := by
 refine ⟨blk_alloc (blk_alloc (heap_alloc_new w6 o1) _) _, ?_, ?_, below_drew1 (((below_alloc (Below.refl _ _) _).alloc (by simp) _).alloc (by simp; omega) _), rfl⟩
 ·have := heap_alloc_new (w6.alloc o1) o2
  rw [show (w6.alloc o1).heap.size = w6.heap.size + 1 by simp] at this
  exact blk_alloc this _
 ·have := heap_alloc_new ((w6.alloc o1).alloc o2) o3
  rw [show ((w6.alloc o1).alloc o2).heap.size = w6.heap.size + 1 + 1 by simp] at this
  exact this
def compact_Of.MF (w w6 : World) (gR gS gL m : Nat) (kept : List Int) (b : ByteArray) (rows : List (List S25)) : Prop :=
 w.heap[gR]? = some (.cells (kept.map (Value.int .i64)).toArray 3 (0, 0)) ∧ w.heap[gL]? = some (.cells #[.string b, .slice (some ⟨gR, 0, none⟩) kept.length kept.length, .slice (some ⟨gS, 0, none⟩) m m] 42 (0, 0)) ∧ SG w w6.next gS m rows ∧ Below w6.heap.size w6 w ∧ (gR ≠ gS ∧ gR ≠ gL ∧ gS ≠ gL ∧ w6.next ≤ gR ∧ w6.next ≤ gS ∧ w6.next ≤ gL)
theorem compact_Of.MF_drewN {w w6 : World} {gR gS gL m : Nat} {kept : List Int} {b : ByteArray} {rows : List (List S25)} (h : compact_Of.MF w w6 gR gS gL m kept b rows) (n : Nat) : compact_Of.MF (w.drewN n) w6 gR gS gL m kept b rows := by
 obtain ⟨h1, h2, h3, h4, h5⟩ := h
 exact ⟨h1, h2, SG_drewN h3 n, pw_below_drewN h4 n, h5⟩
theorem compact_Of.MF_put {w w1 w6 : World} {gR gS gL m : Nat} {kept : List Int} {b : ByteArray} {rows : List (List S25)} {v : Value} {x : List S25} (h : compact_Of.MF w w6 gR gS gL m kept b rows) (hm : rows.length < m) (hb : Below w.heap.size w w1) (hr : Kd.R k25 25 w1 w.heap.size (fun _ => True) v x) :
  compact_Of.MF (w1.setCell ⟨gS, rows.length, none⟩ v) w6 gR gS gL m kept b (rows ++ [x]) := by
 obtain ⟨h1, h2, h3, h4, h5⟩ := h
 refine ⟨?_, ?_, SG_put h3 hm hb hr h4.size, (below_then h4 h4.size hb).setCell (p := ⟨gS, rows.length, none⟩) h5.2.2.2.2.1 _, h5⟩
 ·rw [Below.heap_setCell w1 ⟨gS, rows.length, none⟩ v gR h5.1]; exact blk_below h1 hb
 ·rw [Below.heap_setCell w1 ⟨gS, rows.length, none⟩ v gL (fun e => h5.2.2.1 e.symm)]; exact blk_below h2 hb
theorem compact_Of.copied {w6 w9 : World} {gR gS gL m : Nat} {kept : List Int} {b : ByteArray} (h : compact_Of.NS w9 w6 gR gS gL kept.length m b) :
  compact_Of.MF (w9.setRow gR ((madeCells #[.int .i64 0] kept.length).toList.take 0 ++ (kept.map (Value.int .i64) ++ (madeCells #[.int .i64 0] kept.length).toList.drop (0 + (kept.map (Value.int .i64)).length))).toArray) w6 gR gS gL m kept b [] := by
 obtain ⟨h1, h2, h3, h4, h5, h6, h7, h8, h9, h10⟩ := h
 have e : ((madeCells #[.int .i64 0] kept.length).toList.take 0 ++ (kept.map (Value.int .i64) ++ (madeCells #[.int .i64 0] kept.length).toList.drop (0 + (kept.map (Value.int .i64)).length))) = kept.map (Value.int .i64) := by
  rw [List.take_zero, List.nil_append, List.drop_of_length_le (by rw [Array.length_toList, size_madeCells, List.length_map]; omega), List.append_nil]
 rw [e]
 refine ⟨setRow_heap w9 gR _ _ _ _ h1, by rw [setRow_other w9 gR gL _ (fun e => h6 e.symm)]; exact h3, SG_start (by rw [setRow_other w9 gR gS _ (fun e => h5 e.symm)]; exact h2), below_setRow h4 h8 _, h5, h6, h7, h8, h9, h10⟩
theorem compact_Of.to_next (y : Int) (l : List Int) (j t : Nat) (h : compact_Of.to y (l.drop j) j = some t) : j < l.length ∧ ((rd l (j : Int) = y ∧ t = j) ∨ (rd l (j : Int) ≠ y ∧ compact_Of.to y (l.drop (j + 1)) (j + 1) = some t)) := by
 by_cases c : j < l.length
 ·refine ⟨c, ?_⟩
  have e : rd l (j : Int) = l[j] := by unfold rd; rw [Int.toNat_natCast, List.getD_eq_getElem?_getD, List.getElem?_eq_getElem c]; rfl
  rw [List.drop_eq_getElem_cons c, compact_Of.to] at h
  rw [e]
  by_cases z : l[j] = y
  ·rw [if_pos z] at h
   exact .inl ⟨z, (Option.some.inj h).symm⟩
  ·rw [if_neg z] at h
   exact .inr ⟨z, h⟩
 ·rw [List.drop_of_length_le (by omega), compact_Of.to] at h
  cases h
theorem compact_Of.src {w : World} {A : Option Addr} {l : List Int} (h : Kd.C (Kd.int .i64) w A l.length l) (h0 : 0 < l.length) : ∃ ad, A = some ad ∧ ∀ j v, (l.map (Value.int .i64))[j]? = some v → w.cell? (ad.add j) = some v := by
 obtain ⟨ad, e, _⟩ := Kd.at_int h 0 (by omega) (by omega)
 refine ⟨ad, e, fun j v hj => ?_⟩
 subst e
 rw [List.getElem?_map] at hj
 obtain ⟨x, hx, rfl⟩ := Option.map_eq_some_iff.1 hj
 have hlt := (List.getElem?_eq_some_iff.mp hx).1
 obtain ⟨ad', e', hc⟩ := Kd.at_int h (j : Int) (by omega) (by omega)
 cases e'
 rw [Int.toNat_natCast] at hc
 rw [hc]
 unfold rd
 rw [Int.toNat_natCast, List.getD_eq_getElem?_getD, hx]
 rfl
theorem compact_Of.cut (A : Option Addr) (n c a t : Nat) (h1 : a ≤ t) (h2 : t ≤ n) (hc : n ≤ c) (W : World) : (Instr.slice 28 (.slice A n c) (some (.int .i64 (a : Int))) (some (.int .i64 (t : Int))) none).run Tryd.prog W = .ok (.slice (if c = a then A else A.map (·.add (a * 1))) (t - a) (c - a)) W := by
 obtain ⟨i0, hi0, _, hsz, _⟩ := info_parts info27
 have h := cut_mid (P := Tryd.prog) 28 27 .i64 .i64 Tryd.underlying28 hi0 1 hsz A n c (a : Int) (t : Int) (by omega) (by omega) (by omega) hc W
 rw [Int.toNat_natCast, Int.toNat_natCast] at h
 exact h
theorem compact_Of.store_at {w w1 : World} {base gS m : Nat} {rows : List (List S25)} (h : SG w base gS m rows) (hm : rows.length < m) (hb : Below w.heap.size w w1) : w1.cell? ⟨gS, rows.length, none⟩ = some (.slice none 0 0) ∧ w1.frozen? ⟨gS, rows.length, none⟩ = false := by
 obtain ⟨cs, f, h1, h2, h3, h4, h5⟩ := h
 have h6 := blk_below h3 hb
 refine ⟨?_, blk_frozen h6 _⟩
 rw [blk_cell h6 rows.length]
 have := h5 rows.length (Nat.le_refl _) hm
 simpa using this
theorem compact_Of.i1w {i i1 m n : Nat} (h : i + 1 = i1) (hm : n = m + 1) (hn : n < 1000000) (hi : i < m) : wrap64 ((i : Int) + 1) = (i1 : Int) ∧ IntKind.i64.wrap ((i : Int) + 1) = (i1 : Int) ∧ i1 < n ∧ (i1 : Int) < (n : Int) := by
 refine ⟨by unfold wrap64; omega, by rw [IntKind.wrap_i64]; omega, by omega, by omega⟩
theorem compact_Of.i1m {i i1 m : Nat} (h : i + 1 = i1) (hi : i < m) : i1 ≤ m := by omega
theorem compact_Of.i1l {i i1 m : Nat} (h : i + 1 = i1) (hi : i < m) : m - (intOf (.int .i64 (i1 : Int))).toNat < m - (intOf (.int .i64 (i : Int))).toNat := by
 show m - ((i1 : Int)).toNat < m - ((i : Int)).toNat
 omega
theorem compact_Of.fin {wr w6 : World} {gR gS gL m B : Nat} {kept : List Int} {b : ByteArray} {rows : List (List S25)} (h : compact_Of.MF wr w6 gR gS gL m kept b rows) (hm : rows.length = m) (p : Nat) (hp : p < w6.next) (u0 u1 u2 : Value) (hB : B ≤ w6.next) (hk : kept.length ≤ maxLen) (hr : m ≤ maxLen) :
  Kd.R (Kd.int .i64) 3 (((wr.setCell ⟨p, 0, none⟩ u0).setCell ⟨p, 1, none⟩ u1).setCell ⟨p, 2, none⟩ u2) B (fun _ => True) (.slice (some ⟨gR, 0, none⟩) kept.length kept.length) kept ∧ Kd.S (Kd.slice 25 k25) 27 (((wr.setCell ⟨p, 0, none⟩ u0).setCell ⟨p, 1, none⟩ u1).setCell ⟨p, 2, none⟩ u2) B (fun _ => True) (.slice (some ⟨gS, 0, none⟩) m m) rows := by
 obtain ⟨h1, h2, h3, h4, h5, h6, h7, h8, h9, h10⟩ := h
 constructor
 ·have e : (((wr.setCell ⟨p, 0, none⟩ u0).setCell ⟨p, 1, none⟩ u1).setCell ⟨p, 2, none⟩ u2).heap[gR]? = some (.cells (kept.map (Value.int .i64)).toArray 3 (0, 0)) := by
   rw [Below.heap_setCell _ ⟨p, 2, none⟩ u2 gR (by show gR ≠ p; omega), Below.heap_setCell _ ⟨p, 1, none⟩ u1 gR (by show gR ≠ p; omega), Below.heap_setCell _ ⟨p, 0, none⟩ u0 gR (by show gR ≠ p; omega)]
   exact h1
  refine Kd.R_of_own (h1 := fun _ => rfl) (ok := fun _ => True) (enc := Value.int .i64) ⟨by simp [encs], .inr ⟨gR, kept.length, _, rfl, by omega, e, Nat.le_refl _, hk, by simp, by simp [encs, List.take_of_length_le]⟩⟩ (fun _ _ => trivial)
 ·have hS := SG_S h3 hm h9 hr
  have k0 := Kd.S_far (p := ⟨p, 0, none⟩) (Kd.S_bound hS) (fun k hk => by have := hk.2.1; show k ≠ p; omega) u0
  have k1 := Kd.S_far (p := ⟨p, 1, none⟩) k0 (fun k hk => by have := hk.2.1; show k ≠ p; omega) u1
  have k2 := Kd.S_far (p := ⟨p, 2, none⟩) k1 (fun k hk => by have := hk.2.1; show k ≠ p; omega) u2
  exact Kd.S_lower (Kd.S_mono k2 (fun _ _ => trivial)) hB
theorem compact_Of.gather {P : Program} {c : Code} {Q : Exit → Act → World → Prop} {a : Act} {w : World} (F : Act → Nat → Nat → Nat → Act) (N : World → Nat → Nat → Nat → Prop) (h1 : c.wp P (fun e act W => ∃ gR gS gL, e = .normal ∧ act = F a gR gS gL ∧ N W gR gS gL) a w)
  (h2 : ∀ gR gS gL W, N W gR gS gL → Q .normal (F a gR gS gL) W) : c.wp P Q a w :=
 Code.wp_mono (fun e act W h => by obtain ⟨gR, gS, gL, he, ha, hn⟩ := h; subst he; subst ha; exact h2 _ _ _ _ hn) h1
theorem compact_Of.sz1 : (Tryd.prog.info? 3).map (·.size) = some 1 := by
 obtain ⟨i0, hi, _, hz1, _⟩ := info_parts info3
 rw [hi]; simp [hz1]
theorem compact_Of.make1 (n : Nat) (hn : n < 1000000) (W : World) : (Instr.makeSlice 38 (.int .i64 (n : Int)) (.int .i64 (n : Int))).run Tryd.prog W = .ok (.slice (some ⟨W.heap.size, 0, none⟩) n n) (W.alloc (.cells (madeCells #[.int .i64 0] (n * 1)) 3)) := by
 obtain ⟨i0, hi, hz0, hz1, hz2⟩ := info_parts info3
 have hr := run_make (P := Tryd.prog) W 38 3 i0 (.int .i64 0) Tryd.underlying38 hi hz0 .i64 .i64 (n : Int) (n : Int) (by omega) (by omega) (by rw [hz2]; omega) (by omega)
 simp only [Int.toNat_natCast] at hr
 rw [hz1] at hr
 exact hr
theorem compact_Of.make2 (n : Nat) (hn : n < 1000000) (W : World) : (Instr.makeSlice 28 (.int .i64 (n : Int)) (.int .i64 (n : Int))).run Tryd.prog W = .ok (.slice (some ⟨W.heap.size, 0, none⟩) n n) (W.alloc (.cells (madeCells #[.slice none 0 0] (n * 1)) 27)) := by
 obtain ⟨i0, hi, hz0, hz1, hz2⟩ := info_parts info27
 have hr := run_make (P := Tryd.prog) W 28 27 i0 (.slice none 0 0) Tryd.underlying28 hi hz0 .i64 .i64 (n : Int) (n : Int) (by omega) (by omega) (by rw [hz2]; omega) (by omega)
 simp only [Int.toNat_natCast] at hr
 rw [hz1] at hr
 exact hr
set_option maxHeartbeats 8000000 in
set_option maxRecDepth 100000 in
theorem compact_Of.calls (k : Nat) (a0_0 : ByteArray) (A0_1 : Option Addr) (c0_1 : Nat) (l0_1 : List Int) (A0_2 : Option Addr) (c0_2 : Nat) (l0_2 : List (List (S25))) (A1 : Option Addr) (c1 : Nat) (l1 : List Int) (a2 : Int) (r1 : ByteArray) (r2 : List Int) (r3 : List (List (S25))) (r4 : Int) (w : World) (hr0_1 : Kd.C (Kd.int .i64) w A0_1 l0_1.length l0_1) (hc0_1 : l0_1.length ≤ c0_1) (hr0_2 : Kd.C (Kd.slice 25 k25) w A0_2 l0_2.length l0_2) (hc0_2 : l0_2.length ≤ c0_2) (hr1 : Kd.C (Kd.int .i64) w A1 l1.length l1) (hc1 : l1.length ≤ c1) (hT : Tabs w) (h : compact_Of.f k a0_0 l0_1 l0_2 l1 a2 = some (r1, r2, r3, r4)) :
  Calls Tryd.prog 17 #[.agg #[.string a0_0, .slice A0_1 l0_1.length c0_1, .slice A0_2 l0_2.length c0_2], .slice A1 l1.length c1, .int .i64 a2] w fun e w' => ∃ v1_ v2_ : Value, e = .returned (.tuple #[.agg #[.string r1, v1_, v2_], .int .i64 r4]) ∧ Kd.R (Kd.int .i64) 3 w' w.heap.size (fun _ => True) v1_ r2 ∧ Kd.S (Kd.slice 25 k25) 27 w' w.heap.size (fun _ => True) v2_ r3 ∧ Below w.heap.size w w' := by
 unfold compact_Of.f at h
 by_cases hs : l0_2.length < 1000000 ∧ l0_1.length < 1000000
 ·rw [if_pos hs] at h
  obtain ⟨⟨sz, e1⟩, hz, h⟩ := Option.bind_eq_some_iff.mp h
  by_cases z1 : e1 = 0
  ·subst z1
   rw [if_pos rfl] at h
   obtain ⟨a, ha, h⟩ := Option.bind_eq_some_iff.mp h
   obtain ⟨⟨b, e2⟩, hb, h⟩ := Option.bind_eq_some_iff.mp h
   by_cases z2 : e2 = 0
   ·subst z2
    rw [if_pos rfl] at h
    obtain ⟨kept, hk, h⟩ := Option.bind_eq_some_iff.mp h
    by_cases z3 : 0 ≤ a ∧ 1 ≤ kept.length ∧ kept.length < 1000000
    ·rw [if_pos z3] at h
     obtain ⟨o, ho, h⟩ := Option.bind_eq_some_iff.mp h
     simp only [Option.some.injEq, Prod.mk.injEq] at h
     obtain ⟨rfl, rfl, rfl, rfl⟩ := h
     obtain ⟨z3, z4, z5⟩ := z3
     obtain ⟨a, rfl⟩ : ∃ m : Nat, a = (m : Int) := ⟨a.toNat, by omega⟩
     rw [Int.toNat_natCast] at ho
     have HR1 := am hr0_1; have HC1 := am hc0_1; have HR2 := am hr0_2; have HC2 := am hc0_2; have HRS := am hr1; have HCS := am hc1; have HT := am hT; have HZ := am hz; have HA := am ha; have HAT := am hb; have HK := am hk; have HOO := am ho; have HS := am hs; have HK1 := am z4; have HK2 := am z5
     clear hr0_1 hc0_1 hr0_2 hc0_2 hr1 hc1 hT hz ha hb hk ho hs z3 z4 z5
     have HB2 : Aside0 (Below w.heap.size w ((w.alloc (.cells #[.string a0_0, .slice A0_1 l0_1.length c0_1, .slice A0_2 l0_2.length c0_2] 42)).alloc (.cells #[.string ⟨#[]⟩, .slice none 0 0, .slice none 0 0] 42))) := ⟨(below_alloc (Below.refl _ _) _).alloc (by simp) _⟩
     have HG2 : Aside0 (((w.alloc (.cells #[.string a0_0, .slice A0_1 l0_1.length c0_1, .slice A0_2 l0_2.length c0_2] 42)).alloc (.cells #[.string ⟨#[]⟩, .slice none 0 0, .slice none 0 0] 42)).heap[w.heap.size]? = some (.cells #[.string a0_0, .slice A0_1 l0_1.length c0_1, .slice A0_2 l0_2.length c0_2] 42 (0, 0))) := ⟨blk_alloc (heap_alloc_new w _) _⟩
     have HE2 : Aside0 (((w.alloc (.cells #[.string a0_0, .slice A0_1 l0_1.length c0_1, .slice A0_2 l0_2.length c0_2] 42)).alloc (.cells #[.string ⟨#[]⟩, .slice none 0 0, .slice none 0 0] 42)).heap[w.heap.size + 1]? = some (.cells #[.string ⟨#[]⟩, .slice none 0 0, .slice none 0 0] 42 (0, 0))) := ⟨by have := heap_alloc_new (w.alloc (.cells #[.string a0_0, .slice A0_1 l0_1.length c0_1, .slice A0_2 l0_2.length c0_2] 42)) (.cells #[.string ⟨#[]⟩, .slice none 0 0, .slice none 0 0] 42); simpa using this⟩
     go_enter Tryd.func17, Tryd.ntmps17
     go_wp2_with (first | (go_at_call 54; (with_reducible refine (chain_Sizes.calls k a0_0 A0_1 c0_1 l0_1 A0_2 c0_2 l0_2 sz 0 _ (Kd.C_below HR1.out HB2.out) HC1.out (Kd.C_below HR2.out HB2.out) HC2.out (Tabs.below HT.out HB2.out) HZ.out).mono ?_); rintro e w3 ⟨v8, rfl, ho3, hb⟩; have HB3 := am (below_then HB2.out HB2.out.size hb); have HG3 := am (blk_below HG2.out hb); have HE3 := am (blk_below HE2.out hb); have HV3 := am (Kd.R_lower ho3 HB2.out.size); have ca3 : (w3).cell? ⟨w.heap.size, 0, none⟩ = some (.string a0_0) := (blk_cell HG3.out 0).trans rfl; have cb3 : (w3).cell? ⟨w.heap.size, 1, none⟩ = some (.slice A0_1 l0_1.length c0_1) := (blk_cell HG3.out 1).trans rfl; have cc3 : (w3).cell? ⟨w.heap.size, 2, none⟩ = some (.slice A0_2 l0_2.length c0_2) := (blk_cell HG3.out 2).trans rfl; clear hb ho3) | (go_at_call 55; (with_reducible refine (keep_Floor.calls k A0_1 c0_1 l0_1 a2 (a : Int) _ (Kd.C_below HR1.out HB3.out) HC1.out HA.out).mono ?_); rintro e w4 ⟨rfl, m4, rfl⟩; have HB4 := am (pw_below_drewN HB3.out m4); have HG4 : Aside0 ((w3.drewN m4).heap[w.heap.size]? = some (.cells #[.string a0_0, .slice A0_1 l0_1.length c0_1, .slice A0_2 l0_2.length c0_2] 42 (0, 0))) := ⟨HG3.out⟩; have HE4 : Aside0 ((w3.drewN m4).heap[w.heap.size + 1]? = some (.cells #[.string ⟨#[]⟩, .slice none 0 0, .slice none 0 0] 42 (0, 0))) := ⟨HE3.out⟩; have HV4 := am (Kd.R_drewN HV3.out m4); have ca4 : (w3.drewN m4).cell? ⟨w.heap.size, 0, none⟩ = some (.string a0_0) := (blk_cell HG4.out 0).trans rfl; have cb4 : (w3.drewN m4).cell? ⟨w.heap.size, 1, none⟩ = some (.slice A0_1 l0_1.length c0_1) := (blk_cell HG4.out 1).trans rfl; have cc4 : (w3.drewN m4).cell? ⟨w.heap.size, 2, none⟩ = some (.slice A0_2 l0_2.length c0_2) := (blk_cell HG4.out 2).trans rfl) | (go_at_call 27; (with_reducible refine (chain_At.calls k a0_0 A0_1 c0_1 l0_1 A0_2 c0_2 l0_2 (a : Int) b 0 _ (Kd.C_below HR1.out HB4.out) HC1.out (Kd.C_below HR2.out HB4.out) HC2.out (Tabs.below HT.out HB4.out) HAT.out).mono ?_); rintro e w5 ⟨rfl, hb⟩; have HB5 := am (below_then HB4.out HB4.out.size hb); have HG5 := am (blk_below HG4.out hb); have HE5 := am (blk_below HE4.out hb); have HV5 := am (Kd.R_below HV4.out hb); have ca5 : (w5).cell? ⟨w.heap.size, 0, none⟩ = some (.string a0_0) := (blk_cell HG5.out 0).trans rfl; have cb5 : (w5).cell? ⟨w.heap.size, 1, none⟩ = some (.slice A0_1 l0_1.length c0_1) := (blk_cell HG5.out 1).trans rfl; have cc5 : (w5).cell? ⟨w.heap.size, 2, none⟩ = some (.slice A0_2 l0_2.length c0_2) := (blk_cell HG5.out 2).trans rfl; clear hb) | (go_at_call 56; (with_reducible refine (keep_Of.calls k A0_1 c0_1 l0_1 A1 c1 l1 a2 kept _ (Kd.C_below HR1.out HB5.out) HC1.out (Kd.C_below HRS.out HB5.out) HCS.out HK.out).mono ?_); rintro e w6 ⟨v12, rfl, ho6, hb⟩; have HB6 := am (below_then HB5.out HB5.out.size hb); have HG6 := am (blk_below HG5.out hb); have HE6 := am (blk_below HE5.out hb); have HV6 := am (Kd.R_below HV5.out hb); have HW6 := am ho6; have ca6 : (w6).cell? ⟨w.heap.size, 0, none⟩ = some (.string a0_0) := (blk_cell HG6.out 0).trans rfl; have cb6 : (w6).cell? ⟨w.heap.size, 1, none⟩ = some (.slice A0_1 l0_1.length c0_1) := (blk_cell HG6.out 1).trans rfl; have cc6 : (w6).cell? ⟨w.heap.size, 2, none⟩ = some (.slice A0_2 l0_2.length c0_2) := (blk_cell HG6.out 2).trans rfl; obtain ⟨A6, c6, e6⟩ := Kd.R_slice ho6; subst e6; clear hb ho6))
     obtain ⟨m, hm⟩ : ∃ m, kept.length = m + 1 := ⟨kept.length - 1, by have := HK1.out; omega⟩
     have HM := am hm
     have hw1 : wrap64 ((kept.length : Int) - 1) = (m : Int) := by have := HK2.out; unfold wrap64; omega
     have hmk1 := compact_Of.make1 kept.length (by have := HK2.out; omega)
     have hmk2 := compact_Of.make2 m (by have := HK2.out; omega)
     clear hm
     refine compact_Of.gather (fun a gR gS gL => (((((((((a.put (some 44) (.string b)).put (some 45) (.slice A6 kept.length c6)).put (some 46) (.int .i64 (kept.length : Int))).put (some 47) (.slice (some ⟨gR, 0, none⟩) kept.length kept.length)).put (some 48) (.slice A6 kept.length c6)).put (some 49) (.int .i64 (kept.length : Int))).put (some 50) (.int .i64 (wrap64 ((kept.length : Int) - 1)))).put (some 51) (.slice (some ⟨gS, 0, none⟩) m m)).put (some 52) (.agg #[.string b, .slice (some ⟨gR, 0, none⟩) kept.length kept.length, .slice (some ⟨gS, 0, none⟩) m m])).put (some 13) (.pointer (some ⟨gL, 0, none⟩))) (fun W gR gS gL => compact_Of.NS W w6 gR gS gL kept.length m b) ?_ (fun gR gS gL w9 hq9 => ?_)
     ·go_region
      all_goals (first | (obtain ⟨h1, h2, h3, h4, h5⟩ := compact_Of.three w6 (.cells (madeCells #[.int .i64 0] kept.length) 3) (.cells (madeCells #[.slice none 0 0] m) 27) (.cells #[.string b, .slice (some ⟨w6.heap.size, 0, none⟩) kept.length kept.length, .slice (some ⟨w6.heap.size + 1, 0, none⟩) m m] 42); refine ⟨w6.heap.size, w6.heap.size + 1, w6.heap.size + 1 + 1, rfl, ?_, ⟨h1, h2, h3, h4, by omega, by omega, by omega, by omega, by omega, by omega⟩⟩; simp only [Act.put, List.setIfInBounds_toArray, List.set_cons_zero, List.set_cons_succ] <;> rfl) | (obtain ⟨h1, h2, h3, h4, h5⟩ := compact_Of.three w6 (.cells (madeCells #[.int .i64 0] kept.length) 3) (.cells #[.string b, .slice (some ⟨w6.heap.size, 0, none⟩) kept.length kept.length, .slice (some ⟨w6.heap.size + 1 + 1, 0, none⟩) m m] 42) (.cells (madeCells #[.slice none 0 0] m) 27); refine ⟨w6.heap.size, w6.heap.size + 1 + 1, w6.heap.size + 1, rfl, ?_, ⟨h1, h3, h2, h4, by omega, by omega, by omega, by omega, by omega, by omega⟩⟩; simp only [Act.put, List.setIfInBounds_toArray, List.set_cons_zero, List.set_cons_succ] <;> rfl) | (obtain ⟨h1, h2, h3, h4, h5⟩ := compact_Of.three w6 (.cells (madeCells #[.slice none 0 0] m) 27) (.cells (madeCells #[.int .i64 0] kept.length) 3) (.cells #[.string b, .slice (some ⟨w6.heap.size + 1, 0, none⟩) kept.length kept.length, .slice (some ⟨w6.heap.size, 0, none⟩) m m] 42); refine ⟨w6.heap.size + 1, w6.heap.size, w6.heap.size + 1 + 1, rfl, ?_, ⟨h2, h1, h3, h4, by omega, by omega, by omega, by omega, by omega, by omega⟩⟩; simp only [Act.put, List.setIfInBounds_toArray, List.set_cons_zero, List.set_cons_succ] <;> rfl) | (obtain ⟨h1, h2, h3, h4, h5⟩ := compact_Of.three w6 (.cells (madeCells #[.slice none 0 0] m) 27) (.cells #[.string b, .slice (some ⟨w6.heap.size + 1 + 1, 0, none⟩) kept.length kept.length, .slice (some ⟨w6.heap.size, 0, none⟩) m m] 42) (.cells (madeCells #[.int .i64 0] kept.length) 3); refine ⟨w6.heap.size + 1 + 1, w6.heap.size, w6.heap.size + 1, rfl, ?_, ⟨h3, h1, h2, h4, by omega, by omega, by omega, by omega, by omega, by omega⟩⟩; simp only [Act.put, List.setIfInBounds_toArray, List.set_cons_zero, List.set_cons_succ] <;> rfl) | (obtain ⟨h1, h2, h3, h4, h5⟩ := compact_Of.three w6 (.cells #[.string b, .slice (some ⟨w6.heap.size + 1, 0, none⟩) kept.length kept.length, .slice (some ⟨w6.heap.size + 1 + 1, 0, none⟩) m m] 42) (.cells (madeCells #[.int .i64 0] kept.length) 3) (.cells (madeCells #[.slice none 0 0] m) 27); refine ⟨w6.heap.size + 1, w6.heap.size + 1 + 1, w6.heap.size, rfl, ?_, ⟨h2, h3, h1, h4, by omega, by omega, by omega, by omega, by omega, by omega⟩⟩; simp only [Act.put, List.setIfInBounds_toArray, List.set_cons_zero, List.set_cons_succ] <;> rfl) | (obtain ⟨h1, h2, h3, h4, h5⟩ := compact_Of.three w6 (.cells #[.string b, .slice (some ⟨w6.heap.size + 1 + 1, 0, none⟩) kept.length kept.length, .slice (some ⟨w6.heap.size + 1, 0, none⟩) m m] 42) (.cells (madeCells #[.slice none 0 0] m) 27) (.cells (madeCells #[.int .i64 0] kept.length) 3); refine ⟨w6.heap.size + 1 + 1, w6.heap.size + 1, w6.heap.size, rfl, ?_, ⟨h3, h2, h1, h4, by omega, by omega, by omega, by omega, by omega, by omega⟩⟩; simp only [Act.put, List.setIfInBounds_toArray, List.set_cons_zero, List.set_cons_succ] <;> rfl))
     ·have HQ9 := am hq9
      clear hq9
      simp only [Act.put, List.setIfInBounds_toArray, List.set_cons_zero, List.set_cons_succ]
      obtain ⟨ad6, e6, hsrc6⟩ := compact_Of.src (w := w6) (Kd.R_reads' HW6.out).2.2 (by have := HK1.out; omega)
      subst e6
      have HSRC : Aside0 (∀ j v, (kept.map (Value.int .i64))[j]? = some v → w9.cell? (ad6.add j) = some v) := ⟨fun j v hj => (HQ9.out.2.2.2.1.cell (World.block_lt_of_cell? w6 _ (hsrc6 j v hj))).trans (hsrc6 j v hj)⟩
      have cl1 : w9.cell? ⟨gL, 1, none⟩ = some (.slice (some ⟨gR, 0, none⟩) kept.length kept.length) := (blk_cell HQ9.out.2.2.1 1).trans rfl
      have HMF := am (compact_Of.copied HQ9.out)
      have cl2 := (blk_cell HMF.out.2.1 2).trans rfl
      clear hsrc6
      go_wp2_with ((with_reducible refine gate_builtin (b := .copy) (xs := #[.tmp 54, .tmp 55]) rfl ?_); refine wpList_copy_own rfl (.tmp 54) (.tmp 55) 38 38 rfl 3 Tryd.underlying38 compact_Of.sz1 gR 0 kept.length kept.length ad6 kept.length c6 rfl rfl (madeCells #[.int .i64 0] kept.length) 3 HQ9.out.1 (kept.map (Value.int .i64)) (by simp) HSRC.out (by rw [size_madeCells]; simp) (by intro v hv; obtain ⟨x, _, rfl⟩ := List.mem_map.1 hv; rfl) ?_; generalize hw10 : w9.setRow gR _ = w10 at HMF cl2 ⊢; clear hw10)
      obtain ⟨A8, c8, e8⟩ := Kd.R_slice HV6.out
      subst e8
      have HV8 := am (Kd.R_reads' HV6.out).2.2
      have HK6 := am (Kd.R_reads' HW6.out).2.2
      clear cl2 cl1 HSRC
      have HO0 : Aside0 (compact_Of.l k sz l0_1 l0_2 a (kept.drop (0 + 1)) = some o) := HOO
      go_loopw [9, 10, 14, 15, 60] (fun _ v10 _ _ v60 wr => ∃ (i a : Nat) (outs rest : List (List S25)), v60 = .int .i64 i ∧ v10 = .int .i64 a ∧ i ≤ m ∧ Aside0 (compact_Of.l k sz l0_1 l0_2 a (kept.drop (i + 1)) = some rest) ∧ Aside0 (outs ++ rest = o) ∧ Aside0 (outs.length = i) ∧ Aside0 (compact_Of.MF wr w6 gR gS gL m kept b outs)) (fun _ _ _ _ v60 _ => m - (intOf v60).toNat)
      case atStart => exact ⟨0, a, [], o, rfl, rfl, Nat.zero_le _, HO0, ⟨rfl⟩, ⟨rfl⟩, HMF⟩
      case round =>
       clear HO0 HMF HOO
       obtain ⟨i, a, outs, rest, rfl, rfl, hi, HL, HAP, HLN, HMF⟩ := hrel
       by_cases hlt : i < m
       ·have hltb : decide ((i : Int) < (m : Int)) = true := decide_eq_true (by omega)
        have hltc : decide (i < m) = true := decide_eq_true hlt
        have hltd : (i < m) = True := eq_true hlt
        have HLT := am hlt
        obtain ⟨i1, hi1e⟩ : ∃ i1, i + 1 = i1 := ⟨_, rfl⟩
        rw [hi1e] at HL
        have hkd : kept.drop i1 = rd kept (i1 : Int) :: kept.drop (i1 + 1) := by
         have hl : i1 < kept.length := by have := HM.out; omega
         rw [List.drop_eq_getElem_cons hl]
         unfold rd
         rw [Int.toNat_natCast, List.getD_eq_getElem?_getD, List.getElem?_eq_getElem hl]
         rfl
        obtain ⟨y, hy⟩ : ∃ y, rd kept (i1 : Int) = y := ⟨_, rfl⟩
        have h := HL.out
        clear HL
        rw [hkd, hy, compact_Of.l] at h
        obtain ⟨t, ht, h⟩ := Option.bind_eq_some_iff.mp h
        by_cases z1 : t ≤ l0_2.length ∧ a < sz.length
        ·rw [if_pos z1] at h
         obtain ⟨⟨seg, e3⟩, hf, h⟩ := Option.bind_eq_some_iff.mp h
         by_cases z2 : e3 = 0
         ·subst z2
          rw [if_pos rfl] at h
          obtain ⟨rest', hr, h⟩ := Option.bind_eq_some_iff.mp h
          obtain rfl := Option.some.inj h
          obtain ⟨adk, ek, hxk⟩ := Kd.at_int HK6.out (i1 : Int) (by omega) (by have := HM.out; omega)
          cases ek
          rw [Int.toNat_natCast, hy] at hxk
          have HXK := am hxk; have HT1 := am ht; have HZ1 := am z1; have HF := am hf; have HRR := am hr
          obtain ⟨hi1, hi2, hi3', hi4'⟩ := compact_Of.i1w hi1e HM.out HK2.out HLT.out
          have hi3 : (i1 < kept.length) = True := eq_true hi3'
          have hi4 : ((i1 : Int) < (kept.length : Int)) = True := eq_true hi4'
          clear hi3' hi4'
          have HI1 := am hi1e
          clear hlt h hkd hy ht z1 hf hr hxk hi1e
          go_wp2
          have HMF0 := HMF
          go_loopw [15] (fun v15 wi => ∃ (t0 n : Nat), v15 = .int .i64 t0 ∧ a ≤ t0 ∧ wi = wr.drewN n ∧ Aside0 (compact_Of.to y (l0_1.drop t0) t0 = some t)) (fun v15 _ => l0_1.length - (intOf v15).toNat)
          case atStart => exact ⟨a, 0, rfl, Nat.le_refl _, rfl, HT1⟩
          case round =>
           clear HMF HT1
           obtain ⟨t0, n, rfl, hat, rfl, HT0⟩ := hrel
           obtain ⟨ht0, hcase⟩ := compact_Of.to_next y l0_1 t0 t HT0.out
           have HMD := am (compact_Of.MF_drewN HMF0.out (n + 1))
           obtain ⟨adr, er, hxr⟩ := Kd.at_int (Kd.C_below HR1.out (below_then HB6.out HB6.out.size HMD.out.2.2.2.1)) (t0 : Int) (by omega) (by omega)
           subst er
           rw [Int.toNat_natCast] at hxr
           have hxk : (wr.drewN (n + 1)).cell? (ad6.add i1) = some (.int .i64 y) := (HMD.out.2.2.2.1.cell (World.block_lt_of_cell? w6 _ HXK.out)).trans HXK.out
           have hxb : (wr.drewN (n + 1)).cell? ⟨w.heap.size, 1, none⟩ = some (.slice (some adr) l0_1.length c0_1) := (blk_cell (blk_below HG6.out HMD.out.2.2.2.1) 1).trans rfl
           have q1 : (t0 < l0_1.length) = True := eq_true ht0
           have q2 : ((t0 : Int) < (l0_1.length : Int)) = True := eq_true (by omega)
           have hwt : wrap64 ((t0 : Int) + 1) = ((t0 + 1 : Nat) : Int) := by have := HS.out; unfold wrap64; omega
           have HAT2 := am hat; have HT0L := am ht0
           rcases hcase with ⟨hy1, rfl⟩ | ⟨hy1, hto⟩
           ·have hyb : (rd l0_1 (t : Int) != y) = false := by simp [hy1]
            clear hat ht0 HT0
            go_wp2
            go_region
            have HD2 := am (compact_Of.MF_drewN HMF0.out (n + 2))
            obtain ⟨ad8, e8, hx8⟩ := Kd.at_int HV8.out (a : Int) (by omega) (by have := HZ1.out.2; omega)
            subst e8
            rw [Int.toNat_natCast] at hx8
            have hz8 : (wr.drewN (n + 2)).cell? (ad8.add a) = some (.int .i64 (rd sz (a : Int))) := (HD2.out.2.2.2.1.cell (World.block_lt_of_cell? w6 _ hx8)).trans hx8
            have hb2 : (wr.drewN (n + 2)).cell? ⟨w.heap.size, 2, none⟩ = some (.slice A0_2 l0_2.length c0_2) := (blk_cell (blk_below HG6.out HD2.out.2.2.2.1) 2).trans rfl
            have hl2 : (wr.drewN (n + 2)).cell? ⟨gL, 2, none⟩ = some (.slice (some ⟨gS, 0, none⟩) m m) := (blk_cell HD2.out.2.1 2).trans rfl
            have ha1 : (a < sz.length) = True := eq_true HZ1.out.2
            have ha2 : ((a : Int) < (sz.length : Int)) = True := eq_true (by have := HZ1.out.2; omega)
            obtain ⟨q, hq⟩ : ∃ q, (l0_2.take t).drop a = q := ⟨_, rfl⟩
            have hql : t - a = q.length := by rw [← hq, List.length_drop, List.length_take]; have := HZ1.out.1; omega
            obtain ⟨AQ, hAQ⟩ : ∃ A, (if c0_2 = a then A0_2 else A0_2.map (·.add (a * 1))) = A := ⟨_, rfl⟩
            have hcq0 := Kd.C_drop (Kd.C_take (Kd.C_below HR2.out (below_then HB6.out HB6.out.size HD2.out.2.2.2.1)) (m := t) HZ1.out.1) (m := a) (c := c0_2) (by rw [List.length_take]; have := HZ1.out.1; have := HAT2.out; omega) (by rw [List.length_take]; have := HC2.out; omega)
            rw [hq] at hcq0
            have HCQ : Aside0 (Kd.C (Kd.slice 25 k25) (wr.drewN (n + 2)) AQ q.length q) := ⟨by rw [← hAQ]; exact hcq0⟩
            have hcut := compact_Of.cut A0_2 l0_2.length c0_2 a t HAT2.out HZ1.out.1 HC2.out
            rw [hAQ, hql] at hcut
            have HFQ : Aside0 (fuse_Of.f k (rd sz (a : Int)) q = some (seg, 0)) := ⟨by rw [← hq]; exact HF.out⟩
            have HCC : Aside0 (q.length ≤ c0_2 - a) := ⟨by rw [← hql]; have := HC2.out; have := HZ1.out.1; omega⟩
            have HTQ : Aside0 (Tabs (wr.drewN (n + 2))) := ⟨Tabs.below HT.out (below_then HB6.out HB6.out.size HD2.out.2.2.2.1)⟩
            have HLT2 : Aside0 (outs.length < m) := ⟨by rw [HLN.out]; exact HLT.out⟩
            have HX8 := am hx8
            clear hq hql hAQ hcq0 hx8
            go_wp2
            refine wp_region_noPanic ?_
            go_region_law (go_simp; go_at_call 11; (with_reducible refine (fuse_Of.calls k (rd sz (a : Int)) AQ (c0_2 - a) q seg 0 _ HCQ.out HCC.out HTQ.out HFQ.out).mono ?_); rintro e w20 ⟨vf, rfl, hrf, hbf⟩; obtain ⟨Af, cf, ef⟩ := Kd.R_slice hrf; subst ef; have HMP := am (compact_Of.MF_put HD2.out HLT2.out hbf hrf); rw [HLN.out] at HMP; have HB20 := am (below_then HD2.out.2.2.2.1 HD2.out.2.2.2.1.size hbf); have hz8' : w20.cell? (ad8.add a) = some (.int .i64 (rd sz (a : Int))) := (HB20.out.cell (World.block_lt_of_cell? w6 _ HX8.out)).trans HX8.out; have hb2' : w20.cell? ⟨w.heap.size, 2, none⟩ = some (.slice A0_2 l0_2.length c0_2) := (blk_cell (blk_below HG6.out HB20.out) 2).trans rfl; have hl2' : w20.cell? ⟨gL, 2, none⟩ = some (.slice (some ⟨gS, 0, none⟩) m m) := (blk_cell (blk_below HD2.out.2.1 hbf) 2).trans rfl; have hst := compact_Of.store_at HD2.out.2.2.1 HLT2.out hbf; rw [HLN.out] at hst; obtain ⟨hs1, hs2⟩ := hst; clear hrf hbf)
            all_goals (refine NoPanic.normal ?_)
            all_goals go_wp2
            all_goals exact ⟨⟨i1, t, outs ++ [seg], rest', rfl, rfl, compact_Of.i1m HI1.out HLT.out, HRR, ⟨by rw [List.append_assoc]; exact HAP.out⟩, ⟨by rw [List.length_append, HLN.out]; exact HI1.out⟩, HMP⟩, compact_Of.i1l HI1.out HLT.out⟩
           ·have hyb : (rd l0_1 (t0 : Int) != y) = true := by simp [hy1]
            have HTO := am hto
            clear hat ht0 HT0 hto hy1
            go_wp2
            go_region
            go_wp2
            go_roundw
            case rel => exact ⟨t0 + 1, n + 1, by rw [hwt], Nat.le_succ_of_le HAT2.out, rfl, HTO⟩
            case measure => exact op_sum.less HT0L.out hwt
         ·rw [if_neg z2] at h; cases h
        ·rw [if_neg z1] at h; cases h
       ·have hltb : decide ((i : Int) < (m : Int)) = false := decide_eq_false (by omega)
        have hltc : decide (i < m) = false := decide_eq_false hlt
        have hie : i = m := by omega
        subst hie
        have h := HL.out
        clear HL hlt hi
        rw [List.drop_of_length_le (by rw [HM.out]; exact Nat.le_refl _), compact_Of.l] at h
        obtain rfl := Option.some.inj h
        have HOE : Aside0 (outs = o) := ⟨by rw [← HAP.out, List.append_nil]⟩
        have e0 : wr.cell? ⟨gL, 0, none⟩ = some (.string b) := (blk_cell HMF.out.2.1 0).trans rfl
        have e1 : wr.cell? ⟨gL, 1, none⟩ = some (.slice (some ⟨gR, 0, none⟩) kept.length kept.length) := (blk_cell HMF.out.2.1 1).trans rfl
        have e2 : wr.cell? ⟨gL, 2, none⟩ = some (.slice (some ⟨gS, 0, none⟩) i i) := (blk_cell HMF.out.2.1 2).trans rfl
        have HE9 := am (blk_below HE6.out HMF.out.2.2.2.1)
        have k0 : wr.cell? ⟨w.heap.size + 1, 0, none⟩ = some (.string ⟨#[]⟩) := (blk_cell HE9.out 0).trans rfl
        have k1 : wr.cell? ⟨w.heap.size + 1, 1, none⟩ = some (.slice none 0 0) := (blk_cell HE9.out 1).trans rfl
        have k2 : wr.cell? ⟨w.heap.size + 1, 2, none⟩ = some (.slice none 0 0) := (blk_cell HE9.out 2).trans rfl
        have f0 := blk_frozen HE9.out 0
        have f1 := blk_frozen HE9.out 1
        have f2 := blk_frozen HE9.out 2
        clear h
        have HGR : Aside0 (((((wr.setCell ⟨w.heap.size + 1, 0, none⟩ (.string b)).setCell ⟨w.heap.size + 1, 1, none⟩ (.slice (some ⟨gR, 0, none⟩) kept.length kept.length)).setCell ⟨w.heap.size + 1, 2, none⟩ (.slice (some ⟨gS, 0, none⟩) i i))).heap[w.heap.size + 1]? = some (.cells #[.string b, .slice (some ⟨gR, 0, none⟩) kept.length kept.length, .slice (some ⟨gS, 0, none⟩) i i] 42 (0, 0))) := ⟨blk_put (blk_put (blk_put HE9.out 0 _ rfl) 1 _ rfl) 2 _ rfl⟩
        have HFI := am (compact_Of.fin HMF.out HLN.out (w.heap.size + 1) (by have := blk_lt HE6.out; show _ < w6.heap.size; exact this) (.string b) (.slice (some ⟨gR, 0, none⟩) kept.length kept.length) (.slice (some ⟨gS, 0, none⟩) i i) (B := w.heap.size) HB6.out.size (by have := HK2.out; unfold maxLen; omega) (by have := HK2.out; have := HM.out; unfold maxLen; omega))
        have HBF := am ((((below_then HB6.out HB6.out.size HMF.out.2.2.2.1).setCell (p := ⟨w.heap.size + 1, 0, none⟩) (Nat.le_succ _) (.string b)).setCell (p := ⟨w.heap.size + 1, 1, none⟩) (Nat.le_succ _) (.slice (some ⟨gR, 0, none⟩) kept.length kept.length)).setCell (p := ⟨w.heap.size + 1, 2, none⟩) (Nat.le_succ _) (.slice (some ⟨gS, 0, none⟩) i i))
        go_wp2
        refine bodyPost_ret (results_ct rfl _ _ (w.heap.size + 1) 42 _ (0, 0) _ rfl HGR.out Tryd.underlying42 rfl (by kernel_rfl)) rfl ?_
        exact ⟨_, _, rfl, HFI.out.1, HOE.out ▸ HFI.out.2, HBF.out⟩
    ·rw [if_neg z3] at h; cases h
   ·rw [if_neg z2] at h; cases h
  ·rw [if_neg z1] at h; cases h
 ·rw [if_neg hs] at h; cases h
end Go.Proofs.YtegjegihcebimaaDoor.P
end
