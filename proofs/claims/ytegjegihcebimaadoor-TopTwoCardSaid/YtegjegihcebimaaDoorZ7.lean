/- Part 7 of the proof of topTwo_holds: out of the texts that this session's programs wrote, what the theorem reaches. -/
import Derived.Test.YtegjegihcebimaaDoorZ2
import Derived.Test.YtegjegihcebimaaDoorZ3
import Derived.Test.YtegjegihcebimaaDoorZ4
import Derived.Test.YtegjegihcebimaaDoorZ5
import Derived.Test.YtegjegihcebimaaDoorZ6
section
namespace Go.Proofs.YtegjegihcebimaaDoor.P
open Go.RowKit Go.Proofs.YtegjegihcebimaaDoorW.PrintWords Go.Proofs.YtegjegihcebimaaDoorW.PrintLast Go.Proofs.YtegjegihcebimaaDoorW.PrintMore
attribute [local go_sem] max2_int min2_int max_two min_two max_three min_three max_four min_four
set_option linter.unusedVariables false
set_option linter.unusedSimpArgs false
def epitometop_shown.f (k : Nat)  : Option (Bool) := (epitometop_row.f k (⟨#[107, 50, 120, 49, 107, 49]⟩ : ByteArray)).bind fun t140 => ((epitometop_row.f k (⟨#[107, 49, 100, 49, 107, 50]⟩ : ByteArray)).bind fun t143 => ((fuse_Of.f k 3 (([t140, t143] : List (List (S25))))).bind fun bt149 => ((epitometop_row.f k (⟨#[107, 49, 100, 49, 107, 49]⟩ : ByteArray)).bind fun t153 => ((epitometop_row.f k (⟨#[107, 49, 120, 49, 107, 49]⟩ : ByteArray)).bind fun t156 => ((fuse_Of.f k 3 (([t153, t156] : List (List (S25))))).bind fun bt162 => ((epitometop_row.f k (⟨#[107, 49, 121, 49, 107, 50]⟩ : ByteArray)).bind fun t166 => ((over_Of.f k t166 bt149.1).bind fun bt169 => ((epitometop_row.f k (⟨#[107, 49, 121, 49, 107, 50]⟩ : ByteArray)).bind fun t173 => ((over_Of.f k t173 bt162.1).bind fun bt176 => (if bt149.2 = 0 then (if bt162.2 = 0 then (if bt169.2 = 0 then (if bt176.2 = 0 then ((epitometop_row.f k (⟨#[107, 49, 121, 49, 107, 50]⟩ : ByteArray)).bind fun t180 => ((epitomeref04_Same.f k bt169.1 t180).bind fun t183 => (if t183 = true then ((epitometop_row.f k (⟨#[107, 50, 121, 49, 107, 49]⟩ : ByteArray)).bind fun t184 => ((epitomeref04_Same.f k bt176.1 t184).bind fun t187 => (some t187))) else (some false)))) else (some false)) else (some false)) else (some false)) else (some false)))))))))))
theorem epitometop_shown.mono : ∀ k, LeO (epitometop_shown.f k ) (epitometop_shown.f (k + 1) ) := by
 intro  k
 unfold epitometop_shown.f
 repeat' first
   | (with_reducible exact epitomeref04_Same.mono _ _ _)
   | (with_reducible exact epitometop_row.mono _ _)
   | (with_reducible exact fuse_Of.mono _ _ _)
   | (with_reducible exact over_Of.mono _ _ _)
   | (with_reducible exact LeO.refl _)
   | (with_reducible exact LeO.none _)
   | (with_reducible refine LeO.ite ?_ ?_)
   | (with_reducible refine LeO.bind ?_ (fun _ => ?_))
   | exact epitomeref04_Same.mono _ _ _
   | exact epitometop_row.mono _ _
   | exact fuse_Of.mono _ _ _
   | exact over_Of.mono _ _ _
   | exact LeO.none _
   | refine LeO.ite ?_ ?_
   | refine LeO.bind ?_ (fun _ => ?_)
set_option maxHeartbeats 8000000 in
set_option maxRecDepth 100000 in
theorem epitometop_shown.calls (k : Nat)  (r : Bool) (w : World) (hT : Tabs w) (h : epitometop_shown.f k  = some r) (hlaw : r = true) :
  Calls Tryd.prog 8 #[] w fun e w' => e = .returned (.bool r) ∧ Below w.heap.size w w' := by
 have HLAW := am hlaw
 clear hlaw
 have HT := am hT
 clear hT
 have HB := am (Below.refl w.heap.size w)
 have H : ((epitometop_row.f k (⟨#[107, 50, 120, 49, 107, 49]⟩ : ByteArray)).bind fun t140 => ((epitometop_row.f k (⟨#[107, 49, 100, 49, 107, 50]⟩ : ByteArray)).bind fun t143 => ((fuse_Of.f k 3 (([t140, t143] : List (List (S25))))).bind fun bt149 => ((epitometop_row.f k (⟨#[107, 49, 100, 49, 107, 49]⟩ : ByteArray)).bind fun t153 => ((epitometop_row.f k (⟨#[107, 49, 120, 49, 107, 49]⟩ : ByteArray)).bind fun t156 => ((fuse_Of.f k 3 (([t153, t156] : List (List (S25))))).bind fun bt162 => ((epitometop_row.f k (⟨#[107, 49, 121, 49, 107, 50]⟩ : ByteArray)).bind fun t166 => ((over_Of.f k t166 bt149.1).bind fun bt169 => ((epitometop_row.f k (⟨#[107, 49, 121, 49, 107, 50]⟩ : ByteArray)).bind fun t173 => ((over_Of.f k t173 bt162.1).bind fun bt176 => (if bt149.2 = 0 then (if bt162.2 = 0 then (if bt169.2 = 0 then (if bt176.2 = 0 then ((epitometop_row.f k (⟨#[107, 49, 121, 49, 107, 50]⟩ : ByteArray)).bind fun t180 => ((epitomeref04_Same.f k bt169.1 t180).bind fun t183 => (if t183 = true then ((epitometop_row.f k (⟨#[107, 50, 121, 49, 107, 49]⟩ : ByteArray)).bind fun t184 => ((epitomeref04_Same.f k bt176.1 t184).bind fun t187 => (some t187))) else (some false)))) else (some false)) else (some false)) else (some false)) else (some false)))))))))))) = some r := h
 clear h
 replace H := Option.bind_eq_some_iff.mp H
 obtain ⟨t140, A10, H⟩ := H
 try dsimp only at H
 have A1 := am A10
 clear A10
 replace H := Option.bind_eq_some_iff.mp H
 obtain ⟨t143, A20, H⟩ := H
 try dsimp only at H
 have A2 := am A20
 clear A20
 obtain ⟨y146, hy146⟩ : ∃ y_ : List (List (S25)), y_ = (([t140, t143] : List (List (S25)))) := ⟨_, rfl⟩
 replace H : ((fuse_Of.f k 3 y146).bind fun bt149 => ((epitometop_row.f k (⟨#[107, 49, 100, 49, 107, 49]⟩ : ByteArray)).bind fun t153 => ((epitometop_row.f k (⟨#[107, 49, 120, 49, 107, 49]⟩ : ByteArray)).bind fun t156 => ((fuse_Of.f k 3 (([t153, t156] : List (List (S25))))).bind fun bt162 => ((epitometop_row.f k (⟨#[107, 49, 121, 49, 107, 50]⟩ : ByteArray)).bind fun t166 => ((over_Of.f k t166 bt149.1).bind fun bt169 => ((epitometop_row.f k (⟨#[107, 49, 121, 49, 107, 50]⟩ : ByteArray)).bind fun t173 => ((over_Of.f k t173 bt162.1).bind fun bt176 => (if bt149.2 = 0 then (if bt162.2 = 0 then (if bt169.2 = 0 then (if bt176.2 = 0 then ((epitometop_row.f k (⟨#[107, 49, 121, 49, 107, 50]⟩ : ByteArray)).bind fun t180 => ((epitomeref04_Same.f k bt169.1 t180).bind fun t183 => (if t183 = true then ((epitometop_row.f k (⟨#[107, 50, 121, 49, 107, 49]⟩ : ByteArray)).bind fun t184 => ((epitomeref04_Same.f k bt176.1 t184).bind fun t187 => (some t187))) else (some false)))) else (some false)) else (some false)) else (some false)) else (some false)))))))))) = some r := by first | (rw [hy146]; with_reducible exact H) | (have H2_ := (Option.bind_some _ _).symm.trans H; rw [hy146]; with_reducible exact H2_) | (have H2_ := (Option.bind_some _ _).symm.trans H; with_reducible exact H2_) | with_reducible exact H | (rw [hy146]; exact H) | exact H
 have Ny146 := am hy146
 clear hy146
 replace H := Option.bind_eq_some_iff.mp H
 obtain ⟨⟨t149, t150⟩, A30, H⟩ := H
 try dsimp only at H
 have A3 := am A30
 clear A30
 replace H := Option.bind_eq_some_iff.mp H
 obtain ⟨t153, A40, H⟩ := H
 try dsimp only at H
 have A4 := am A40
 clear A40
 replace H := Option.bind_eq_some_iff.mp H
 obtain ⟨t156, A50, H⟩ := H
 try dsimp only at H
 have A5 := am A50
 clear A50
 obtain ⟨y159, hy159⟩ : ∃ y_ : List (List (S25)), y_ = (([t153, t156] : List (List (S25)))) := ⟨_, rfl⟩
 replace H : ((fuse_Of.f k 3 y159).bind fun bt162 => ((epitometop_row.f k (⟨#[107, 49, 121, 49, 107, 50]⟩ : ByteArray)).bind fun t166 => ((over_Of.f k t166 t149).bind fun bt169 => ((epitometop_row.f k (⟨#[107, 49, 121, 49, 107, 50]⟩ : ByteArray)).bind fun t173 => ((over_Of.f k t173 bt162.1).bind fun bt176 => (if t150 = 0 then (if bt162.2 = 0 then (if bt169.2 = 0 then (if bt176.2 = 0 then ((epitometop_row.f k (⟨#[107, 49, 121, 49, 107, 50]⟩ : ByteArray)).bind fun t180 => ((epitomeref04_Same.f k bt169.1 t180).bind fun t183 => (if t183 = true then ((epitometop_row.f k (⟨#[107, 50, 121, 49, 107, 49]⟩ : ByteArray)).bind fun t184 => ((epitomeref04_Same.f k bt176.1 t184).bind fun t187 => (some t187))) else (some false)))) else (some false)) else (some false)) else (some false)) else (some false))))))) = some r := by first | (rw [hy159]; with_reducible exact H) | (have H2_ := (Option.bind_some _ _).symm.trans H; rw [hy159]; with_reducible exact H2_) | (have H2_ := (Option.bind_some _ _).symm.trans H; with_reducible exact H2_) | with_reducible exact H | (rw [hy159]; exact H) | exact H
 have Ny159 := am hy159
 clear hy159
 replace H := Option.bind_eq_some_iff.mp H
 obtain ⟨⟨t162, t163⟩, A60, H⟩ := H
 try dsimp only at H
 have A6 := am A60
 clear A60
 replace H := Option.bind_eq_some_iff.mp H
 obtain ⟨t166, A70, H⟩ := H
 try dsimp only at H
 have A7 := am A70
 clear A70
 replace H := Option.bind_eq_some_iff.mp H
 obtain ⟨⟨t169, t170⟩, A80, H⟩ := H
 try dsimp only at H
 have A8 := am A80
 clear A80
 replace H := Option.bind_eq_some_iff.mp H
 obtain ⟨t173, A90, H⟩ := H
 try dsimp only at H
 have A9 := am A90
 clear A90
 replace H := Option.bind_eq_some_iff.mp H
 obtain ⟨⟨t176, t177⟩, A100, H⟩ := H
 try dsimp only at H
 have A10 := am A100
 clear A100
 by_cases c11 : t150 = 0
 ·rw [if_pos c11] at H
  have c11b0 : (t150 == 0) = true := beq_iff_eq.mpr c11
  have c11b1 : (t150 != 0) = false := bne_eq_false_iff_eq.mpr c11
  clear c11
  by_cases c12 : t163 = 0
  ·rw [if_pos c12] at H
   have c12b0 : (t163 == 0) = true := beq_iff_eq.mpr c12
   have c12b1 : (t163 != 0) = false := bne_eq_false_iff_eq.mpr c12
   clear c12
   by_cases c13 : t170 = 0
   ·rw [if_pos c13] at H
    have c13b0 : (t170 == 0) = true := beq_iff_eq.mpr c13
    have c13b1 : (t170 != 0) = false := bne_eq_false_iff_eq.mpr c13
    clear c13
    by_cases c14 : t177 = 0
    ·rw [if_pos c14] at H
     have c14b0 : (t177 == 0) = true := beq_iff_eq.mpr c14
     have c14b1 : (t177 != 0) = false := bne_eq_false_iff_eq.mpr c14
     clear c14
     replace H := Option.bind_eq_some_iff.mp H
     obtain ⟨t180, A150, H⟩ := H
     replace H : ((epitomeref04_Same.f k t169 t180).bind fun t183 => (if t183 = true then ((epitometop_row.f k (⟨#[107, 50, 121, 49, 107, 49]⟩ : ByteArray)).bind fun t184 => ((epitomeref04_Same.f k t176 t184).bind fun t187 => (some t187))) else (some false))) = some r := H
     have A15 := am A150
     clear A150
     replace H := Option.bind_eq_some_iff.mp H
     obtain ⟨t183, A160, H⟩ := H
     replace H : (if t183 = true then ((epitometop_row.f k (⟨#[107, 50, 121, 49, 107, 49]⟩ : ByteArray)).bind fun t184 => ((epitomeref04_Same.f k t176 t184).bind fun t187 => (some t187))) else (some false)) = some r := H
     have A16 := am A160
     clear A160
     by_cases c17 : t183 = true
     ·subst c17
      have H1 : ((epitometop_row.f k (⟨#[107, 50, 121, 49, 107, 49]⟩ : ByteArray)).bind fun t184 => ((epitomeref04_Same.f k t176 t184).bind fun t187 => (some t187))) = some r := by rw [if_pos rfl] at H; exact H
      clear H
      have H := H1
      clear H1
      replace H := Option.bind_eq_some_iff.mp H
      obtain ⟨t184, A180, H⟩ := H
      replace H : ((epitomeref04_Same.f k t176 t184).bind fun t187 => (some t187)) = some r := H
      have A18 := am A180
      clear A180
      replace H := Option.bind_eq_some_iff.mp H
      obtain ⟨t187, A190, H⟩ := H
      replace H : (some t187) = some r := H
      have A19 := am A190
      clear A190
      obtain rfl := Option.some.inj H
      simp only [Option.some.injEq, Prod.mk.injEq] at H
      obtain ⟨rfl⟩ := H
      go_enter Tryd.func8, Tryd.ntmps8
      go_wp2_with (first | ((with_reducible refine gate_callee (f := 39) rfl ?_); refine goesL_ (some 10) rfl rfl Tryd.func39 (by kernel_rfl) rfl #[.string (⟨#[107, 50, 120, 49, 107, 49]⟩ : ByteArray)] rfl ar ?_; (with_reducible refine (epitometop_row.calls k (⟨#[107, 50, 120, 49, 107, 49]⟩ : ByteArray) t140 _ A1.out).mono ?_); rintro e w20 ⟨v141, rfl, ho0, hb⟩; refine ⟨_, rfl, ?_⟩; have n0_ := am (Kd.R_lower ho0 (below_size bl)); have n1_ := am (below_step bl hb); clear HB; have HO142 := n0_; have HB := n1_; clear n0_ n1_; (try clear hb); (try clear hb2); (try clear hk); (try clear hi); (try clear ho0)) | ((with_reducible refine gate_callee (f := 39) rfl ?_); refine goesL_ (some 11) rfl rfl Tryd.func39 (by kernel_rfl) rfl #[.string (⟨#[107, 49, 100, 49, 107, 50]⟩ : ByteArray)] rfl ar ?_; (with_reducible refine (epitometop_row.calls k (⟨#[107, 49, 100, 49, 107, 50]⟩ : ByteArray) t143 _ A2.out).mono ?_); rintro e w21 ⟨v144, rfl, ho0, hb⟩; refine ⟨_, rfl, ?_⟩; have n0_ := am (Kd.R_elder' (by refine kR ?_; exact HO142.out) (Kd.R_base ho0) hb); have n1_ := am (Kd.R_lower (Kd.R_new' ho0 (Kd.R_lt (by refine kR ?_; exact HO142.out))) (below_size bl)); have n2_ := am (below_step bl hb); clear HO142; clear HB; have HO142 := n0_; have HO145 := n1_; have HB := n2_; clear n0_ n1_ n2_; (try clear hb); (try clear hb2); (try clear hk); (try clear hi); (try clear ho0); obtain ⟨Ao22, co22, eo22⟩ := Kd.R_slice HO142.out; subst eo22; obtain ⟨Ao23, co23, eo23⟩ := Kd.R_slice HO145.out; subst eo23) | ((with_reducible refine gate_dst (N := 12) rfl ?_); refine Kd.N_lit (Kd.slice 25 k25) _ 27 ?hg (N' := 12) ?hd (xs := ([t140, t143] : List (List (S25)))) (inner := [.slice Ao22 t140.length co22, .slice Ao23 t143.length co23]) (ok := (fun _ => True)) (okp := (fun _ => True)) ?hr ?hp (fun _ hk => hk) ((show ∀ k_, w21.heap.size ≤ k_ → (fun _ => True) k_ from fun k_ hk => trivial) _ (Nat.le_refl _)) (Below.refl _ _) (Nat.le_refl _) (by simp) ?_; (case hd => rfl); (case hg => rfl); (case hr => first | (go_simp; done) | (go_simp; rfl)); (case hp => exact (Reps.one (show Kd.FK (Kd.slice 25 k25) _ _ t140 [.slice Ao22 t140.length co22] from (Kd.FK_slice_mk (Kd.R_reads' (Kd.R_mono (ok' := (fun _ => True)) (HO142.out) (fun k_ hk => trivial))).2.1 (Kd.R_F (Kd.R_mono (ok' := (fun _ => True)) (HO142.out) (fun k_ hk => trivial))))) (Reps.one (show Kd.FK (Kd.slice 25 k25) _ _ t143 [.slice Ao23 t143.length co23] from (Kd.FK_slice_mk (Kd.R_reads' (Kd.R_mono (ok' := (fun _ => True)) (HO145.out) (fun k_ hk => trivial))).2.1 (Kd.R_F (Kd.R_mono (ok' := (fun _ => True)) (HO145.out) (fun k_ hk => trivial))))) (Reps.none _ _)))); intro v147 w24 ho25 hb hg_ hnew_; clear hg_ hnew_; (first | rw [← Ny146.out] at ho25 | (simp only [Int.reduceToNat] at ho25; rw [← Ny146.out] at ho25)); have n0_ := am (Kd.N_lower ho25 (below_size bl)); have n1_ := am (below_step bl hb); clear HB; clear HO142; clear HO145; have HO148 := n0_; have HB := n1_; clear n0_ n1_; clear hb ho25; obtain ⟨Ao26, co26, eo26⟩ := Kd.N_slice HO148.out; subst eo26) | ((with_reducible refine gate_callee (f := 11) rfl ?_); refine goesL_ (some 13) rfl rfl Tryd.func11 (by kernel_rfl) rfl #[.int .i64 3, .slice Ao26 y146.length co26] rfl ar ?_; (with_reducible refine (fuse_Of.calls k 3 _ _ y146 t149 t150 _ ?side1 ?side2 ?side3 A3.out).mono ?_); (case side1 => repeat (first | exact (Kd.N_reads' HO148.out).2.2 | (with_reducible refine Kd.C_alloc ?_ _) | (with_reducible refine Kd.C_drewN ?_ _) | (with_reducible refine Kd.C_drew ?_))); (case side2 => exact (Kd.N_reads' HO148.out).2.1); (case side3 => exact Tabs.below HT.out bl); rintro e w27 ⟨v151, rfl, ho0, hb⟩; refine ⟨_, rfl, ?_⟩; have n0_ := am (Kd.N_elder' (by (with_reducible repeat (first | apply Kd.N_alloc | apply Kd.N_drewN | apply Kd.N_drew)); exact HO148.out) (Kd.R_base ho0) hb); have n1_ := am (Kd.R_lower ho0 (below_size bl)); have n2_ := am (below_step bl hb); clear HO148; clear HB; have HO148 := n0_; have HO152 := n1_; have HB := n2_; clear n0_ n1_ n2_; (try clear hb); (try clear hb2); (try clear hk); (try clear hi); (try clear ho0)) | ((with_reducible refine gate_callee (f := 39) rfl ?_); refine goesL_ (some 17) rfl rfl Tryd.func39 (by kernel_rfl) rfl #[.string (⟨#[107, 49, 100, 49, 107, 49]⟩ : ByteArray)] rfl ar ?_; (with_reducible refine (epitometop_row.calls k (⟨#[107, 49, 100, 49, 107, 49]⟩ : ByteArray) t153 _ A4.out).mono ?_); rintro e w28 ⟨v154, rfl, ho0, hb⟩; refine ⟨_, rfl, ?_⟩; have n0_ := am (Kd.N_elder' (by (with_reducible repeat (first | apply Kd.N_alloc | apply Kd.N_drewN | apply Kd.N_drew)); exact HO148.out) (Kd.R_base ho0) hb); have n1_ := am (Kd.R_elder' (by refine kR ?_; exact HO152.out) (Kd.R_base ho0) hb); have n2_ := am (Kd.R_lower (Kd.R_new' ho0 (Kd.R_lt (by refine kR ?_; exact HO152.out))) (below_size bl)); have n3_ := am (below_step bl hb); clear HO148; clear HO152; clear HB; have HO148 := n0_; have HO152 := n1_; have HO155 := n2_; have HB := n3_; clear n0_ n1_ n2_ n3_; (try clear hb); (try clear hb2); (try clear hk); (try clear hi); (try clear ho0)) | ((with_reducible refine gate_callee (f := 39) rfl ?_); refine goesL_ (some 18) rfl rfl Tryd.func39 (by kernel_rfl) rfl #[.string (⟨#[107, 49, 120, 49, 107, 49]⟩ : ByteArray)] rfl ar ?_; (with_reducible refine (epitometop_row.calls k (⟨#[107, 49, 120, 49, 107, 49]⟩ : ByteArray) t156 _ A5.out).mono ?_); rintro e w29 ⟨v157, rfl, ho0, hb⟩; refine ⟨_, rfl, ?_⟩; have n0_ := am (Kd.N_elder' (by (with_reducible repeat (first | apply Kd.N_alloc | apply Kd.N_drewN | apply Kd.N_drew)); exact HO148.out) (Kd.R_base ho0) hb); have n1_ := am (Kd.R_elder' (by refine kR ?_; exact HO152.out) (Kd.R_base ho0) hb); have n2_ := am (Kd.R_elder' (by refine kR ?_; exact HO155.out) (Kd.R_base ho0) hb); have n3_ := am (Kd.R_lower (Kd.R_new' (Kd.R_new' ho0 (Kd.R_lt (by refine kR ?_; exact HO152.out))) (Kd.R_lt (by refine kR ?_; exact HO155.out))) (below_size bl)); have n4_ := am (below_step bl hb); clear HO148; clear HO152; clear HO155; clear HB; have HO148 := n0_; have HO152 := n1_; have HO155 := n2_; have HO158 := n3_; have HB := n4_; clear n0_ n1_ n2_ n3_ n4_; (try clear hb); (try clear hb2); (try clear hk); (try clear hi); (try clear ho0); obtain ⟨Ao30, co30, eo30⟩ := Kd.R_slice HO155.out; subst eo30; obtain ⟨Ao31, co31, eo31⟩ := Kd.R_slice HO158.out; subst eo31) | ((with_reducible refine gate_dst (N := 19) rfl ?_); refine Kd.N_lit (Kd.slice 25 k25) _ 27 ?hg (N' := 19) ?hd (xs := ([t153, t156] : List (List (S25)))) (inner := [.slice Ao30 t153.length co30, .slice Ao31 t156.length co31]) (ok := (fun k_ => some k_ ≠ (.slice Ao26 y146.length co26 : Value).ownBlock ∧ some k_ ≠ (v151 : Value).ownBlock)) (okp := (fun k_ => some k_ ≠ (.slice Ao26 y146.length co26 : Value).ownBlock ∧ some k_ ≠ (v151 : Value).ownBlock)) ?hr ?hp (fun _ hk => hk) ((show ∀ k_, w29.heap.size ≤ k_ → (fun k_ => some k_ ≠ (.slice Ao26 y146.length co26 : Value).ownBlock ∧ some k_ ≠ (v151 : Value).ownBlock) k_ from fun k_ hk => ⟨Kd.fresh' (Kd.N_lt (by (with_reducible repeat (first | apply Kd.N_alloc | apply Kd.N_drewN | apply Kd.N_drew)); exact HO148.out)) k_ hk, Kd.fresh' (Kd.R_lt (by refine kR ?_; exact HO152.out)) k_ hk⟩) _ (Nat.le_refl _)) (Below.refl _ _) (Nat.le_refl _) (by simp) ?_; (case hd => rfl); (case hg => rfl); (case hr => first | (go_simp; done) | (go_simp; rfl)); (case hp => exact (Reps.one (show Kd.FK (Kd.slice 25 k25) _ _ t153 [.slice Ao30 t153.length co30] from (Kd.FK_slice_mk (Kd.R_reads' (Kd.R_mono (ok' := (fun k_ => some k_ ≠ (.slice Ao26 y146.length co26 : Value).ownBlock ∧ some k_ ≠ (v151 : Value).ownBlock)) (Kd.R_apart' (HO155.out) (Kd.N_typed HO148.out) (by decide)) (fun k_ hk => ⟨hk.2, hk.1.1.2⟩))).2.1 (Kd.R_F (Kd.R_mono (ok' := (fun k_ => some k_ ≠ (.slice Ao26 y146.length co26 : Value).ownBlock ∧ some k_ ≠ (v151 : Value).ownBlock)) (Kd.R_apart' (HO155.out) (Kd.N_typed HO148.out) (by decide)) (fun k_ hk => ⟨hk.2, hk.1.1.2⟩))))) (Reps.one (show Kd.FK (Kd.slice 25 k25) _ _ t156 [.slice Ao31 t156.length co31] from (Kd.FK_slice_mk (Kd.R_reads' (Kd.R_mono (ok' := (fun k_ => some k_ ≠ (.slice Ao26 y146.length co26 : Value).ownBlock ∧ some k_ ≠ (v151 : Value).ownBlock)) (Kd.R_apart' (HO158.out) (Kd.N_typed HO148.out) (by decide)) (fun k_ hk => ⟨hk.2, hk.1.1.2⟩))).2.1 (Kd.R_F (Kd.R_mono (ok' := (fun k_ => some k_ ≠ (.slice Ao26 y146.length co26 : Value).ownBlock ∧ some k_ ≠ (v151 : Value).ownBlock)) (Kd.R_apart' (HO158.out) (Kd.N_typed HO148.out) (by decide)) (fun k_ hk => ⟨hk.2, hk.1.1.2⟩))))) (Reps.none _ _)))); intro v160 w32 ho33 hb hg_ hnew_; clear hg_ hnew_; (first | rw [← Ny159.out] at ho33 | (simp only [Int.reduceToNat] at ho33; rw [← Ny159.out] at ho33)); have n0_ := am (Kd.N_elder' (by (with_reducible repeat (first | apply Kd.N_alloc | apply Kd.N_drewN | apply Kd.N_drew)); exact HO148.out) (Kd.N_base ho33) hb); have n1_ := am (Kd.R_below (by refine kR ?_; exact HO152.out) hb); have n2_ := am (Kd.N_lower ho33 (below_size bl)); have n3_ := am (below_step bl hb); clear HO148; clear HO152; clear HB; clear HO155; clear HO158; have HO148 := n0_; have HO152 := n1_; have HO161 := n2_; have HB := n3_; clear n0_ n1_ n2_ n3_; clear hb ho33; obtain ⟨Ao34, co34, eo34⟩ := Kd.N_slice HO161.out; subst eo34) | ((with_reducible refine gate_callee (f := 11) rfl ?_); refine goesL_ (some 20) rfl rfl Tryd.func11 (by kernel_rfl) rfl #[.int .i64 3, .slice Ao34 y159.length co34] rfl ar ?_; (with_reducible refine (fuse_Of.calls k 3 _ _ y159 t162 t163 _ ?side1 ?side2 ?side3 A6.out).mono ?_); (case side1 => repeat (first | exact (Kd.N_reads' HO161.out).2.2 | (with_reducible refine Kd.C_alloc ?_ _) | (with_reducible refine Kd.C_drewN ?_ _) | (with_reducible refine Kd.C_drew ?_))); (case side2 => exact (Kd.N_reads' HO161.out).2.1); (case side3 => exact Tabs.below HT.out bl); rintro e w35 ⟨v164, rfl, ho0, hb⟩; refine ⟨_, rfl, ?_⟩; have n0_ := am (Kd.N_elder' (by (with_reducible repeat (first | apply Kd.N_alloc | apply Kd.N_drewN | apply Kd.N_drew)); exact HO148.out) (Kd.R_base ho0) hb); have n1_ := am (Kd.R_elder' (by refine kR ?_; exact HO152.out) (Kd.R_base ho0) hb); have n2_ := am (Kd.N_elder' (by (with_reducible repeat (first | apply Kd.N_alloc | apply Kd.N_drewN | apply Kd.N_drew)); exact HO161.out) (Kd.R_base ho0) hb); have n3_ := am (Kd.R_lower (Kd.R_new' ho0 (Kd.R_lt (by refine kR ?_; exact HO152.out))) (below_size bl)); have n4_ := am (below_step bl hb); clear HO148; clear HO152; clear HO161; clear HB; have HO148 := n0_; have HO152 := n1_; have HO161 := n2_; have HO165 := n3_; have HB := n4_; clear n0_ n1_ n2_ n3_ n4_; (try clear hb); (try clear hb2); (try clear hk); (try clear hi); (try clear ho0)) | ((with_reducible refine gate_callee (f := 39) rfl ?_); refine goesL_ (some 24) rfl rfl Tryd.func39 (by kernel_rfl) rfl #[.string (⟨#[107, 49, 121, 49, 107, 50]⟩ : ByteArray)] rfl ar ?_; (with_reducible refine (epitometop_row.calls k (⟨#[107, 49, 121, 49, 107, 50]⟩ : ByteArray) t166 _ A7.out).mono ?_); rintro e w36 ⟨v167, rfl, ho0, hb⟩; refine ⟨_, rfl, ?_⟩; have n0_ := am (Kd.N_elder' (by (with_reducible repeat (first | apply Kd.N_alloc | apply Kd.N_drewN | apply Kd.N_drew)); exact HO148.out) (Kd.R_base ho0) hb); have n1_ := am (Kd.R_elder' (by refine kR ?_; exact HO152.out) (Kd.R_base ho0) hb); have n2_ := am (Kd.N_elder' (by (with_reducible repeat (first | apply Kd.N_alloc | apply Kd.N_drewN | apply Kd.N_drew)); exact HO161.out) (Kd.R_base ho0) hb); have n3_ := am (Kd.R_elder' (by refine kR ?_; exact HO165.out) (Kd.R_base ho0) hb); have n4_ := am (Kd.R_lower (Kd.R_new' (Kd.R_new' ho0 (Kd.R_lt (by refine kR ?_; exact HO152.out))) (Kd.R_lt (by refine kR ?_; exact HO165.out))) (below_size bl)); have n5_ := am (below_step bl hb); clear HO148; clear HO152; clear HO161; clear HO165; clear HB; have HO148 := n0_; have HO152 := n1_; have HO161 := n2_; have HO165 := n3_; have HO168 := n4_; have HB := n5_; clear n0_ n1_ n2_ n3_ n4_ n5_; (try clear hb); (try clear hb2); (try clear hk); (try clear hi); (try clear ho0); obtain ⟨Ao37, co37, eo37⟩ := Kd.R_slice HO168.out; subst eo37; obtain ⟨Ao38, co38, eo38⟩ := Kd.R_slice HO152.out; subst eo38) | ((with_reducible refine gate_callee (f := 13) rfl ?_); refine goesL_ (some 26) rfl rfl Tryd.func13 (by kernel_rfl) rfl #[.slice Ao37 t166.length co37, .slice Ao38 t149.length co38] rfl ar ?_; (with_reducible refine (over_Of.calls k _ _ t166 _ _ t149 t169 t170 _ ?side1 ?side2 ?side3 ?side4 ?side5 A8.out).mono ?_); (case side1 => repeat (first | exact (Kd.R_reads' HO168.out).2.2 | (with_reducible refine Kd.C_alloc ?_ _) | (with_reducible refine Kd.C_drewN ?_ _) | (with_reducible refine Kd.C_drew ?_))); (case side2 => exact (Kd.R_reads' HO168.out).2.1); (case side3 => repeat (first | exact (Kd.R_reads' HO152.out).2.2 | (with_reducible refine Kd.C_alloc ?_ _) | (with_reducible refine Kd.C_drewN ?_ _) | (with_reducible refine Kd.C_drew ?_))); (case side4 => exact (Kd.R_reads' HO152.out).2.1); (case side5 => exact Tabs.below HT.out bl); rintro e w39 ⟨v171, rfl, ho0, hb⟩; refine ⟨_, rfl, ?_⟩; have n0_ := am (Kd.N_elder' (by (with_reducible repeat (first | apply Kd.N_alloc | apply Kd.N_drewN | apply Kd.N_drew)); exact HO148.out) (Kd.R_base ho0) hb); have n1_ := am (Kd.R_elder' (by refine kR ?_; exact HO152.out) (Kd.R_base ho0) hb); have n2_ := am (Kd.N_elder' (by (with_reducible repeat (first | apply Kd.N_alloc | apply Kd.N_drewN | apply Kd.N_drew)); exact HO161.out) (Kd.R_base ho0) hb); have n3_ := am (Kd.R_elder' (by refine kR ?_; exact HO165.out) (Kd.R_base ho0) hb); have n4_ := am (Kd.R_elder' (by refine kR ?_; exact HO168.out) (Kd.R_base ho0) hb); have n5_ := am (Kd.R_lower (Kd.R_new' (Kd.R_new' (Kd.R_new' ho0 (Kd.R_lt (by refine kR ?_; exact HO152.out))) (Kd.R_lt (by refine kR ?_; exact HO165.out))) (Kd.R_lt (by refine kR ?_; exact HO168.out))) (below_size bl)); have n6_ := am (below_step bl hb); clear HO148; clear HO152; clear HO161; clear HO165; clear HO168; clear HB; have HO148 := n0_; have HO152 := n1_; have HO161 := n2_; have HO165 := n3_; have HO168 := n4_; have HO172 := n5_; have HB := n6_; clear n0_ n1_ n2_ n3_ n4_ n5_ n6_; (try clear hb); (try clear hb2); (try clear hk); (try clear hi); (try clear ho0)) | ((with_reducible refine gate_callee (f := 39) rfl ?_); refine goesL_ (some 30) rfl rfl Tryd.func39 (by kernel_rfl) rfl #[.string (⟨#[107, 49, 121, 49, 107, 50]⟩ : ByteArray)] rfl ar ?_; (with_reducible refine (epitometop_row.calls k (⟨#[107, 49, 121, 49, 107, 50]⟩ : ByteArray) t173 _ A9.out).mono ?_); rintro e w40 ⟨v174, rfl, ho0, hb⟩; refine ⟨_, rfl, ?_⟩; have n0_ := am (Kd.N_elder' (by (with_reducible repeat (first | apply Kd.N_alloc | apply Kd.N_drewN | apply Kd.N_drew)); exact HO148.out) (Kd.R_base ho0) hb); have n1_ := am (Kd.R_elder' (by refine kR ?_; exact HO152.out) (Kd.R_base ho0) hb); have n2_ := am (Kd.N_elder' (by (with_reducible repeat (first | apply Kd.N_alloc | apply Kd.N_drewN | apply Kd.N_drew)); exact HO161.out) (Kd.R_base ho0) hb); have n3_ := am (Kd.R_elder' (by refine kR ?_; exact HO165.out) (Kd.R_base ho0) hb); have n4_ := am (Kd.R_elder' (by refine kR ?_; exact HO168.out) (Kd.R_base ho0) hb); have n5_ := am (Kd.R_elder' (by refine kR ?_; exact HO172.out) (Kd.R_base ho0) hb); have n6_ := am (Kd.R_lower (Kd.R_new' (Kd.R_new' (Kd.R_new' (Kd.R_new' ho0 (Kd.R_lt (by refine kR ?_; exact HO152.out))) (Kd.R_lt (by refine kR ?_; exact HO165.out))) (Kd.R_lt (by refine kR ?_; exact HO168.out))) (Kd.R_lt (by refine kR ?_; exact HO172.out))) (below_size bl)); have n7_ := am (below_step bl hb); clear HO148; clear HO152; clear HO161; clear HO165; clear HO168; clear HO172; clear HB; have HO148 := n0_; have HO152 := n1_; have HO161 := n2_; have HO165 := n3_; have HO168 := n4_; have HO172 := n5_; have HO175 := n6_; have HB := n7_; clear n0_ n1_ n2_ n3_ n4_ n5_ n6_ n7_; (try clear hb); (try clear hb2); (try clear hk); (try clear hi); (try clear ho0); obtain ⟨Ao41, co41, eo41⟩ := Kd.R_slice HO175.out; subst eo41; obtain ⟨Ao42, co42, eo42⟩ := Kd.R_slice HO165.out; subst eo42) | ((with_reducible refine gate_callee (f := 13) rfl ?_); refine goesL_ (some 32) rfl rfl Tryd.func13 (by kernel_rfl) rfl #[.slice Ao41 t173.length co41, .slice Ao42 t162.length co42] rfl ar ?_; (with_reducible refine (over_Of.calls k _ _ t173 _ _ t162 t176 t177 _ ?side1 ?side2 ?side3 ?side4 ?side5 A10.out).mono ?_); (case side1 => repeat (first | exact (Kd.R_reads' HO175.out).2.2 | (with_reducible refine Kd.C_alloc ?_ _) | (with_reducible refine Kd.C_drewN ?_ _) | (with_reducible refine Kd.C_drew ?_))); (case side2 => exact (Kd.R_reads' HO175.out).2.1); (case side3 => repeat (first | exact (Kd.R_reads' HO165.out).2.2 | (with_reducible refine Kd.C_alloc ?_ _) | (with_reducible refine Kd.C_drewN ?_ _) | (with_reducible refine Kd.C_drew ?_))); (case side4 => exact (Kd.R_reads' HO165.out).2.1); (case side5 => exact Tabs.below HT.out bl); rintro e w43 ⟨v178, rfl, ho0, hb⟩; refine ⟨_, rfl, ?_⟩; have n0_ := am (Kd.N_elder' (by (with_reducible repeat (first | apply Kd.N_alloc | apply Kd.N_drewN | apply Kd.N_drew)); exact HO148.out) (Kd.R_base ho0) hb); have n1_ := am (Kd.R_elder' (by refine kR ?_; exact HO152.out) (Kd.R_base ho0) hb); have n2_ := am (Kd.N_elder' (by (with_reducible repeat (first | apply Kd.N_alloc | apply Kd.N_drewN | apply Kd.N_drew)); exact HO161.out) (Kd.R_base ho0) hb); have n3_ := am (Kd.R_elder' (by refine kR ?_; exact HO165.out) (Kd.R_base ho0) hb); have n4_ := am (Kd.R_elder' (by refine kR ?_; exact HO168.out) (Kd.R_base ho0) hb); have n5_ := am (Kd.R_elder' (by refine kR ?_; exact HO172.out) (Kd.R_base ho0) hb); have n6_ := am (Kd.R_elder' (by refine kR ?_; exact HO175.out) (Kd.R_base ho0) hb); have n7_ := am (Kd.R_lower (Kd.R_new' (Kd.R_new' (Kd.R_new' (Kd.R_new' (Kd.R_new' ho0 (Kd.R_lt (by refine kR ?_; exact HO152.out))) (Kd.R_lt (by refine kR ?_; exact HO165.out))) (Kd.R_lt (by refine kR ?_; exact HO168.out))) (Kd.R_lt (by refine kR ?_; exact HO172.out))) (Kd.R_lt (by refine kR ?_; exact HO175.out))) (below_size bl)); have n8_ := am (below_step bl hb); clear HO148; clear HO152; clear HO161; clear HO165; clear HO168; clear HO172; clear HO175; clear HB; have HO148 := n0_; have HO152 := n1_; have HO161 := n2_; have HO165 := n3_; have HO168 := n4_; have HO172 := n5_; have HO175 := n6_; have HO179 := n7_; have HB := n8_; clear n0_ n1_ n2_ n3_ n4_ n5_ n6_ n7_ n8_; (try clear hb); (try clear hb2); (try clear hk); (try clear hi); (try clear ho0)) | (go_at_call 39; (with_reducible refine (epitometop_row.calls k (⟨#[107, 49, 121, 49, 107, 50]⟩ : ByteArray) t180 _ A15.out).mono ?_); rintro e w44 ⟨v181, rfl, ho0, hb⟩; have n0_ := am (Kd.N_elder' (by (with_reducible repeat (first | apply Kd.N_alloc | apply Kd.N_drewN | apply Kd.N_drew)); exact HO148.out) (Kd.R_base ho0) hb); have n1_ := am (Kd.R_elder' (by refine kR ?_; exact HO152.out) (Kd.R_base ho0) hb); have n2_ := am (Kd.N_elder' (by (with_reducible repeat (first | apply Kd.N_alloc | apply Kd.N_drewN | apply Kd.N_drew)); exact HO161.out) (Kd.R_base ho0) hb); have n3_ := am (Kd.R_elder' (by refine kR ?_; exact HO165.out) (Kd.R_base ho0) hb); have n4_ := am (Kd.R_elder' (by refine kR ?_; exact HO168.out) (Kd.R_base ho0) hb); have n5_ := am (Kd.R_elder' (by refine kR ?_; exact HO172.out) (Kd.R_base ho0) hb); have n6_ := am (Kd.R_elder' (by refine kR ?_; exact HO175.out) (Kd.R_base ho0) hb); have n7_ := am (Kd.R_elder' (by refine kR ?_; exact HO179.out) (Kd.R_base ho0) hb); have n8_ := am (Kd.R_lower (Kd.R_new' (Kd.R_new' (Kd.R_new' (Kd.R_new' (Kd.R_new' (Kd.R_new' ho0 (Kd.R_lt (by refine kR ?_; exact HO152.out))) (Kd.R_lt (by refine kR ?_; exact HO165.out))) (Kd.R_lt (by refine kR ?_; exact HO168.out))) (Kd.R_lt (by refine kR ?_; exact HO172.out))) (Kd.R_lt (by refine kR ?_; exact HO175.out))) (Kd.R_lt (by refine kR ?_; exact HO179.out))) (below_size bl)); have n9_ := am (below_step bl hb); clear HO148; clear HO152; clear HO161; clear HO165; clear HO168; clear HO172; clear HO175; clear HO179; clear HB; have HO148 := n0_; have HO152 := n1_; have HO161 := n2_; have HO165 := n3_; have HO168 := n4_; have HO172 := n5_; have HO175 := n6_; have HO179 := n7_; have HO182 := n8_; have HB := n9_; clear n0_ n1_ n2_ n3_ n4_ n5_ n6_ n7_ n8_ n9_; (try clear hb); (try clear hb2); (try clear hk); (try clear hi); (try clear ho0); obtain ⟨Ao45, co45, eo45⟩ := Kd.R_slice HO172.out; subst eo45; obtain ⟨Ao46, co46, eo46⟩ := Kd.R_slice HO182.out; subst eo46) | (go_at_call 15; (with_reducible refine (epitomeref04_Same.calls k _ _ t169 _ _ t180 true _ ?side1 ?side2 ?side3 ?side4 A16.out).mono ?_); (case side1 => repeat (first | exact (Kd.R_reads' HO172.out).2.2 | (with_reducible refine Kd.C_alloc ?_ _) | (with_reducible refine Kd.C_drewN ?_ _) | (with_reducible refine Kd.C_drew ?_))); (case side2 => exact (Kd.R_reads' HO172.out).2.1); (case side3 => repeat (first | exact (Kd.R_reads' HO182.out).2.2 | (with_reducible refine Kd.C_alloc ?_ _) | (with_reducible refine Kd.C_drewN ?_ _) | (with_reducible refine Kd.C_drew ?_))); (case side4 => exact (Kd.R_reads' HO182.out).2.1); rintro e w' ⟨rfl, ⟨nd, rfl⟩⟩) | (go_at_call 39; (with_reducible refine (epitometop_row.calls k (⟨#[107, 50, 121, 49, 107, 49]⟩ : ByteArray) t184 _ A18.out).mono ?_); rintro e w47 ⟨v185, rfl, ho0, hb⟩; have n0_ := am (Kd.N_elder' (by (with_reducible repeat (first | apply Kd.N_alloc | apply Kd.N_drewN | apply Kd.N_drew)); exact HO148.out) (Kd.R_base ho0) hb); have n1_ := am (Kd.R_elder' (by refine kR ?_; exact HO152.out) (Kd.R_base ho0) hb); have n2_ := am (Kd.N_elder' (by (with_reducible repeat (first | apply Kd.N_alloc | apply Kd.N_drewN | apply Kd.N_drew)); exact HO161.out) (Kd.R_base ho0) hb); have n3_ := am (Kd.R_elder' (by refine kR ?_; exact HO165.out) (Kd.R_base ho0) hb); have n4_ := am (Kd.R_elder' (by refine kR ?_; exact HO168.out) (Kd.R_base ho0) hb); have n5_ := am (Kd.R_elder' (by refine kR ?_; exact HO172.out) (Kd.R_base ho0) hb); have n6_ := am (Kd.R_elder' (by refine kR ?_; exact HO175.out) (Kd.R_base ho0) hb); have n7_ := am (Kd.R_elder' (by refine kR ?_; exact HO179.out) (Kd.R_base ho0) hb); have n8_ := am (Kd.R_elder' (by refine kR ?_; exact HO182.out) (Kd.R_base ho0) hb); have n9_ := am (Kd.R_lower (Kd.R_new' (Kd.R_new' (Kd.R_new' (Kd.R_new' (Kd.R_new' (Kd.R_new' (Kd.R_new' ho0 (Kd.R_lt (by refine kR ?_; exact HO152.out))) (Kd.R_lt (by refine kR ?_; exact HO165.out))) (Kd.R_lt (by refine kR ?_; exact HO168.out))) (Kd.R_lt (by refine kR ?_; exact HO172.out))) (Kd.R_lt (by refine kR ?_; exact HO175.out))) (Kd.R_lt (by refine kR ?_; exact HO179.out))) (Kd.R_lt (by refine kR ?_; exact HO182.out))) (below_size bl)); have n10_ := am (below_step bl hb); clear HO148; clear HO152; clear HO161; clear HO165; clear HO168; clear HO172; clear HO175; clear HO179; clear HO182; clear HB; have HO148 := n0_; have HO152 := n1_; have HO161 := n2_; have HO165 := n3_; have HO168 := n4_; have HO172 := n5_; have HO175 := n6_; have HO179 := n7_; have HO182 := n8_; have HO186 := n9_; have HB := n10_; clear n0_ n1_ n2_ n3_ n4_ n5_ n6_ n7_ n8_ n9_ n10_; (try clear hb); (try clear hb2); (try clear hk); (try clear hi); (try clear ho0); obtain ⟨Ao48, co48, eo48⟩ := Kd.R_slice HO179.out; subst eo48; obtain ⟨Ao49, co49, eo49⟩ := Kd.R_slice HO186.out; subst eo49) | (go_at_call 15; (with_reducible refine (epitomeref04_Same.calls k _ _ t176 _ _ t184 t187 _ ?side1 ?side2 ?side3 ?side4 A19.out).mono ?_); (case side1 => repeat (first | exact (Kd.R_reads' HO179.out).2.2 | (with_reducible refine Kd.C_alloc ?_ _) | (with_reducible refine Kd.C_drewN ?_ _) | (with_reducible refine Kd.C_drew ?_))); (case side2 => exact (Kd.R_reads' HO179.out).2.1); (case side3 => repeat (first | exact (Kd.R_reads' HO186.out).2.2 | (with_reducible refine Kd.C_alloc ?_ _) | (with_reducible refine Kd.C_drewN ?_ _) | (with_reducible refine Kd.C_drew ?_))); (case side4 => exact (Kd.R_reads' HO186.out).2.1); rintro e w' ⟨rfl, ⟨nd, rfl⟩⟩))
      go_ret
      exact ⟨by first | rfl | (simp [errW_none, errW_some] <;> rfl) | (simp [*, errW_none, errW_some] <;> rfl), bl⟩
     ·replace c17 := Bool.eq_false_iff.mpr c17
      subst c17
      have H1 : (some false) = some r := by rw [if_neg (show ¬ (false = true) by decide)] at H; exact H
      clear H
      have H := H1
      clear H1
      obtain rfl := Option.some.inj H
      exact absurd HLAW.out (by decide)
    ·rw [if_neg c14] at H
     have c14b0 : (t177 == 0) = false := beq_eq_false_iff_ne.mpr c14
     have c14b1 : (t177 != 0) = true := bne_iff_ne.mpr c14
     obtain rfl := Option.some.inj H
     exact absurd HLAW.out (by decide)
   ·rw [if_neg c13] at H
    have c13b0 : (t170 == 0) = false := beq_eq_false_iff_ne.mpr c13
    have c13b1 : (t170 != 0) = true := bne_iff_ne.mpr c13
    obtain rfl := Option.some.inj H
    exact absurd HLAW.out (by decide)
  ·rw [if_neg c12] at H
   have c12b0 : (t163 == 0) = false := beq_eq_false_iff_ne.mpr c12
   have c12b1 : (t163 != 0) = true := bne_iff_ne.mpr c12
   obtain rfl := Option.some.inj H
   exact absurd HLAW.out (by decide)
 ·rw [if_neg c11] at H
  have c11b0 : (t150 == 0) = false := beq_eq_false_iff_ne.mpr c11
  have c11b1 : (t150 != 0) = true := bne_iff_ne.mpr c11
  obtain rfl := Option.some.inj H
  exact absurd HLAW.out (by decide)
def fuse_next.f (k : Nat) (a0 : Int) (l1 : List (S25)) : Option (Int × Int) := (op_May.f k l1).bind fun t188 => (if t188 = 0 then ((op_In.f l1).bind fun t189 => (if t189 = a0 then ((op_Out.f l1).bind fun t190 => (some (t190, 0))) else (some (0, 5)))) else (some (0, t188)))
set_option maxHeartbeats 8000000 in
set_option maxRecDepth 100000 in
theorem fuse_next.calls (k : Nat) (a0 : Int) (A1 : Option Addr) (c1 : Nat) (l1 : List (S25)) (r1 : Int) (r2 : Int) (w : World) (hr1 : Kd.C k25 w A1 l1.length l1) (hc1 : l1.length ≤ c1) (hT : Tabs w) (h : fuse_next.f k a0 l1 = some (r1, r2)) :
  Calls Tryd.prog 94 #[.int .i64 a0, .slice A1 l1.length c1] w fun e w' => e = .returned (.tuple #[.int .i64 r1, .int .i64 r2]) ∧ Below w.heap.size w w' := by
 have HT := am hT
 clear hT
 have HR1 := am hr1
 have HC1 := am hc1
 clear hr1 hc1
 have HB := am (Below.refl w.heap.size w)
 have H : ((op_May.f k l1).bind fun t188 => (if t188 = 0 then ((op_In.f l1).bind fun t189 => (if t189 = a0 then ((op_Out.f l1).bind fun t190 => (some (t190, 0))) else (some (0, 5)))) else (some (0, t188)))) = some (r1, r2) := h
 clear h
 replace H := Option.bind_eq_some_iff.mp H
 obtain ⟨t188, A30, H⟩ := H
 replace H : (if t188 = 0 then ((op_In.f l1).bind fun t189 => (if t189 = a0 then ((op_Out.f l1).bind fun t190 => (some (t190, 0))) else (some (0, 5)))) else (some (0, t188))) = some (r1, r2) := H
 have A3 := am A30
 clear A30
 by_cases c4 : t188 = 0
 ·rw [if_pos c4] at H
  have c4b0 : (t188 == 0) = true := beq_iff_eq.mpr c4
  have c4b1 : (t188 != 0) = false := bne_eq_false_iff_eq.mpr c4
  clear c4
  replace H := Option.bind_eq_some_iff.mp H
  obtain ⟨t189, A50, H⟩ := H
  replace H : (if t189 = a0 then ((op_Out.f l1).bind fun t190 => (some (t190, 0))) else (some (0, 5))) = some (r1, r2) := H
  have A5 := am A50
  clear A50
  by_cases c6 : t189 = a0
  ·rw [if_pos c6] at H
   have c6b0 : (t189 == a0) = true := beq_iff_eq.mpr c6
   have c6b1 : (t189 != a0) = false := bne_eq_false_iff_eq.mpr c6
   clear c6
   replace H := Option.bind_eq_some_iff.mp H
   obtain ⟨t190, A70, H⟩ := H
   replace H : (some (t190, 0)) = some (r1, r2) := H
   have A7 := am A70
   clear A70
   simp only [Option.some.injEq, Prod.mk.injEq] at H
   obtain ⟨rfl, rfl⟩ := H
   go_enter Tryd.func94, Tryd.ntmps94
   go_wp2_with (first | ((with_reducible refine gate_callee (f := 46) rfl ?_); refine goesL_ (some 8) rfl rfl Tryd.func46 (by kernel_rfl) rfl #[.slice A1 l1.length c1] rfl ar ?_; (with_reducible refine (op_May.calls k _ _ l1 t188 _ ?side1 ?side2 ?side3 A3.out).mono ?_); (case side1 => repeat (first | exact HR1.out | (with_reducible refine Kd.C_alloc ?_ _) | (with_reducible refine Kd.C_drewN ?_ _) | (with_reducible refine Kd.C_drew ?_))); (case side2 => exact HC1.out); (case side3 => exact Tabs.below HT.out bl); rintro e w8 ⟨rfl, hb⟩; refine ⟨_, rfl, ?_⟩; have n0_ := am (below_step bl hb); clear HB; have HB := n0_; clear n0_; (try clear hb); (try clear hb2); (try clear hk); (try clear hi)) | ((with_reducible refine gate_callee (f := 20) rfl ?_); refine goesL_ (some 15) rfl rfl Tryd.func20 (by kernel_rfl) rfl #[.slice A1 l1.length c1] rfl ar ?_; (with_reducible refine (op_In.calls _ _ l1 t189 _ ?side1 ?side2 ?side3 A5.out).mono ?_); (case side1 => repeat (first | exact (Kd.C_below HR1.out HB.out) | (with_reducible refine Kd.C_alloc ?_ _) | (with_reducible refine Kd.C_drewN ?_ _) | (with_reducible refine Kd.C_drew ?_))); (case side2 => exact HC1.out); (case side3 => exact Tabs.below HT.out bl); rintro e w9 ⟨rfl, hb⟩; refine ⟨_, rfl, ?_⟩; have n0_ := am (below_step bl hb); clear HB; have HB := n0_; clear n0_; (try clear hb); (try clear hb2); (try clear hk); (try clear hi)) | ((with_reducible refine gate_callee (f := 62) rfl ?_); refine goesL_ (some 19) rfl rfl Tryd.func62 (by kernel_rfl) rfl #[.slice A1 l1.length c1] rfl ar ?_; (with_reducible refine (op_Out.calls _ _ l1 t190 _ ?side1 ?side2 ?side3 A7.out).mono ?_); (case side1 => repeat (first | exact (Kd.C_below HR1.out HB.out) | (with_reducible refine Kd.C_alloc ?_ _) | (with_reducible refine Kd.C_drewN ?_ _) | (with_reducible refine Kd.C_drew ?_))); (case side2 => exact HC1.out); (case side3 => exact Tabs.below HT.out bl); rintro e w10 ⟨rfl, hb⟩; refine ⟨_, rfl, ?_⟩; have n0_ := am (below_step bl hb); clear HB; have HB := n0_; clear n0_; (try clear hb); (try clear hb2); (try clear hk); (try clear hi)))
   go_ret2
   exact ⟨by first | rfl | (simp [errW_none, errW_some] <;> rfl) | (simp [*, errW_none, errW_some] <;> rfl), bl⟩
  ·rw [if_neg c6] at H
   have c6b0 : (t189 == a0) = false := beq_eq_false_iff_ne.mpr c6
   have c6b1 : (t189 != a0) = true := bne_iff_ne.mpr c6
   simp only [Option.some.injEq, Prod.mk.injEq] at H
   obtain ⟨rfl, rfl⟩ := H
   go_enter Tryd.func94, Tryd.ntmps94
   go_wp2_with (first | ((with_reducible refine gate_callee (f := 46) rfl ?_); refine goesL_ (some 8) rfl rfl Tryd.func46 (by kernel_rfl) rfl #[.slice A1 l1.length c1] rfl ar ?_; (with_reducible refine (op_May.calls k _ _ l1 t188 _ ?side1 ?side2 ?side3 A3.out).mono ?_); (case side1 => repeat (first | exact HR1.out | (with_reducible refine Kd.C_alloc ?_ _) | (with_reducible refine Kd.C_drewN ?_ _) | (with_reducible refine Kd.C_drew ?_))); (case side2 => exact HC1.out); (case side3 => exact Tabs.below HT.out bl); rintro e w11 ⟨rfl, hb⟩; refine ⟨_, rfl, ?_⟩; have n0_ := am (below_step bl hb); clear HB; have HB := n0_; clear n0_; (try clear hb); (try clear hb2); (try clear hk); (try clear hi)) | ((with_reducible refine gate_callee (f := 20) rfl ?_); refine goesL_ (some 15) rfl rfl Tryd.func20 (by kernel_rfl) rfl #[.slice A1 l1.length c1] rfl ar ?_; (with_reducible refine (op_In.calls _ _ l1 t189 _ ?side1 ?side2 ?side3 A5.out).mono ?_); (case side1 => repeat (first | exact (Kd.C_below HR1.out HB.out) | (with_reducible refine Kd.C_alloc ?_ _) | (with_reducible refine Kd.C_drewN ?_ _) | (with_reducible refine Kd.C_drew ?_))); (case side2 => exact HC1.out); (case side3 => exact Tabs.below HT.out bl); rintro e w12 ⟨rfl, hb⟩; refine ⟨_, rfl, ?_⟩; have n0_ := am (below_step bl hb); clear HB; have HB := n0_; clear n0_; (try clear hb); (try clear hb2); (try clear hk); (try clear hi)))
   go_ret2
   exact ⟨by first | rfl | (simp [errW_none, errW_some] <;> rfl) | (simp [*, errW_none, errW_some] <;> rfl), bl⟩
 ·rw [if_neg c4] at H
  have c4b0 : (t188 == 0) = false := beq_eq_false_iff_ne.mpr c4
  have c4b1 : (t188 != 0) = true := bne_iff_ne.mpr c4
  simp only [Option.some.injEq, Prod.mk.injEq] at H
  obtain ⟨rfl, rfl⟩ := H
  go_enter Tryd.func94, Tryd.ntmps94
  go_wp2_with (first | ((with_reducible refine gate_callee (f := 46) rfl ?_); refine goesL_ (some 8) rfl rfl Tryd.func46 (by kernel_rfl) rfl #[.slice A1 l1.length c1] rfl ar ?_; (with_reducible refine (op_May.calls k _ _ l1 t188 _ ?side1 ?side2 ?side3 A3.out).mono ?_); (case side1 => repeat (first | exact HR1.out | (with_reducible refine Kd.C_alloc ?_ _) | (with_reducible refine Kd.C_drewN ?_ _) | (with_reducible refine Kd.C_drew ?_))); (case side2 => exact HC1.out); (case side3 => exact Tabs.below HT.out bl); rintro e w13 ⟨rfl, hb⟩; refine ⟨_, rfl, ?_⟩; have n0_ := am (below_step bl hb); clear HB; have HB := n0_; clear n0_; (try clear hb); (try clear hb2); (try clear hk); (try clear hi)))
  go_ret2
  exact ⟨by first | rfl | (simp [errW_none, errW_some] <;> rfl) | (simp [*, errW_none, errW_some] <;> rfl), bl⟩
mutual
def epitomeref04_Fit.l0 : Nat → List (S25) → Int → List (S25) → Int → Option ((List (S25)))
 | 0, _, _, _, _ => none
 | k + 1, x0, x1, x5, x6 => if x6 < (x0.length : Int) then (epitomeref04_Fit.j1 k x0 x1 x5 x6 (decide (x6 < 12))) else (epitomeref04_Fit.j1 k x0 x1 x5 x6 false)
def epitomeref04_Fit.j1 : Nat → List (S25) → Int → List (S25) → Int → Bool → Option ((List (S25)))
 | 0, _, _, _, _, _ => none
 | k + 1, x0, x1, x5, x6, x16 => if x16 = true then (if 0 ≤ x6 then (if x6 < (x0.length : Int) then (if (wrap64 (1 + (Int.tmod (wrap64 ((Int.tmod ((rd_T25 x0 x6).f0) 3) + 3)) 3))) = 2 then (if 0 ≤ (mn (((rd_T25 x0 x6).f2).size : Int) 6) then (if (mn (((rd_T25 x0 x6).f2).size : Int) 6) ≤ (((rd_T25 x0 x6).f2).size : Int) then ((epitomeref01_Fit.f k (((rd_T25 x0 x6).f2).extract 0 ((mn (((rd_T25 x0 x6).f2).size : Int) 6) : Int).toNat)).bind fun t228 => (if x5.length < 4398046511104 then (epitomeref04_Fit.l0 k x0 x1 (x5 ++ [(⟨wrap64 (1 + (Int.tmod (wrap64 ((Int.tmod ((rd_T25 x0 x6).f0) 3) + 3)) 3)), 0, t228⟩ : S25)]) (wrap64 (x6 + 1))) else (none))) else (none)) else (none)) else (if x5.length < 4398046511104 then (epitomeref04_Fit.l0 k x0 (wrap64 (x1 - (mn (Int.tmod (wrap64 ((Int.tmod ((rd_T25 x0 x6).f1) 7) + 7)) 7) x1))) (x5 ++ [(⟨wrap64 (1 + (Int.tmod (wrap64 ((Int.tmod ((rd_T25 x0 x6).f0) 3) + 3)) 3)), mn (Int.tmod (wrap64 ((Int.tmod ((rd_T25 x0 x6).f1) 7) + 7)) 7) x1, (⟨#[]⟩ : ByteArray)⟩ : S25)]) (wrap64 (x6 + 1))) else (none))) else (none)) else (none)) else (if x1 > 0 then (if x5.length < 4398046511104 then (some (x5 ++ [(⟨1, x1, (⟨#[]⟩ : ByteArray)⟩ : S25)])) else (none)) else (some x5))
end
def epitomeref04_Fit.f (k : Nat) (l0 : List (S25)) (a1 : Int) : Option ((List (S25))) := epitomeref04_Fit.l0 k l0 a1 (([] : List (S25))) 0
def epitomeref04_Fit.T7 : Bool × List (List Nat × List Nat) := (true, [([], []), ([], []), ([0, 1], [0, 1]), ([2], [2]), ([3], [3]), ([], []), ([], []), ([5, 6], [5, 6]), ([7], [7]), ([8], [8]), ([9], [9]), ([10], [10]), ([4, 11], [4, 11]), ([12], [12]), ([0, 1, 2, 3, 4, 5, 6, 7, 8, 9, 10, 11, 12, 13], []), ([14, 13, 13, 0, 1, 2, 3, 4, 5, 6, 7, 8, 9, 10, 11, 12, 13], [13, 14])])
def epitomeref04_Fit.B7 : List Nat := [0, 0, 3, 7, 15, 0, 0, 96, 224, 480, 992, 2016, 4095, 8191, 16383, 32767]
theorem epitomeref04_Fit.tab7 : rtab .any (opsOf Tryd.f28 7) = epitomeref04_Fit.T7 := by kernel_rfl
theorem epitomeref04_Fit.bits7 : waitsOk epitomeref04_Fit.T7.2 epitomeref04_Fit.B7 = true := by kernel_rfl
set_option maxHeartbeats 8000000 in
set_option maxRecDepth 100000 in
theorem epitomeref04_Fit.calls (k : Nat) (A0 : Option Addr) (c0 : Nat) (l0 : List (S25)) (a1 : Int) (r : List (S25)) (w : World) (hr0 : Kd.C k25 w A0 l0.length l0) (hc0 : l0.length ≤ c0) (h : epitomeref04_Fit.f k l0 a1 = some r) :
  Calls Tryd.prog 28 #[.slice A0 l0.length c0, .int .i64 a1] w fun e w' => ∃ v0_ : Value, e = .returned (v0_) ∧ Kd.R k25 25 w' w.heap.size (fun _ => True) v0_ r ∧ Below w.heap.size w w' := by
 have hu25 := Tryd.underlying25
 have HR0 := am hr0
 have HC0 := am hc0
 clear hr0 hc0
 have HB := am (Below.refl w.heap.size w)
 have H : (epitomeref04_Fit.l0 k l0 a1 (([] : List (S25))) 0) = some r := h
 clear h
 obtain ⟨y221, hy221⟩ : ∃ y_ : List (S25), y_ = (([] : List (S25))) := ⟨_, rfl⟩
 replace H : (epitomeref04_Fit.l0 k l0 a1 y221 0) = some r := by first | (rw [hy221]; with_reducible exact H) | (have H2_ := (Option.bind_some _ _).symm.trans H; rw [hy221]; with_reducible exact H2_) | (have H2_ := (Option.bind_some _ _).symm.trans H; with_reducible exact H2_) | with_reducible exact H | (rw [hy221]; exact H) | exact H
 have Ny221 := am hy221
 clear hy221
 have H' := am H
 clear H
 go_enter Tryd.func28, Tryd.ntmps28
 go_wp2_with (first | ((with_reducible refine gate_dst (N := 8) rfl ?_); refine Kd.R_lit k25 _ 25 ?hg (N := 8) ?hd (xs := ([] : List (S25))) (inner := []) (ok := fun _ => True) (okp := fun _ => True) ?hr ?hp (fun _ hk => hk) trivial (Below.refl _ _) (Nat.le_refl _) (by simp) ?_; (case hd => rfl); (case hg => rfl); (case hr => first | (go_simp; done) | (go_simp; rfl)); (case hp => exact (Reps.none _ _)); intro v222 w3 ho4 hb hg_ hnew_; clear hg_ hnew_; (first | rw [← Ny221.out] at ho4 | (simp only [Int.reduceToNat] at ho4; rw [← Ny221.out] at ho4)); have n0_ := am (Kd.R_lower ho4 (below_size bl)); have n1_ := am (below_step bl hb); clear HB; have HO223 := n0_; have HB := n1_; clear n0_ n1_; clear hb ho4))
 go_loopg [1, 5, 6] k (fun kq v1 v5 v6 w' => ∃ (x1_1 : Int) (x5_1 : List (S25)) (x6_1 : Int), v1 = .int .i64 x1_1 ∧ v6 = .int .i64 x6_1 ∧ Aside0 (epitomeref04_Fit.l0 kq l0 x1_1 x5_1 x6_1 = some r) ∧ Aside0 (kq ≤ k) ∧ Aside0 (Kd.R k25 25 w' w.heap.size (fun _ => True) v5 x5_1) ∧ Aside0 (Below w.heap.size w w'))
 case atStart => exact ⟨(a1), (y221), (0), pj, pj, H', ⟨Nat.le_refl _⟩, ⟨by refine kR ?_; exact HO223.out⟩, ⟨bl⟩⟩
 case round =>
  clear H'
  try clear c2
  try clear p2
  obtain ⟨x1_1, x5_1, x6_1, rfl, rfl, HA, HK1, HO_5, HB⟩ := hrel
  cases gk with
  | zero => exact absurd HA.out (by simp [epitomeref04_Fit.l0])
  | succ k1 =>
   have H := HA.out
   clear HA
   simp only [epitomeref04_Fit.l0] at H
   have HC5 := am H
   clear H
   go_upto_region 3 with (fail)
   go_cut [16] (fun v16 wc => ∃ (kq : Nat) (x16_4 : Bool), v16 = .bool x16_4 ∧ Aside0 (epitomeref04_Fit.j1 kq l0 x1_1 x5_1 x6_1 x16_4 = some r) ∧ Aside0 (kq ≤ k1) ∧ Aside0 (Kd.R k25 25 wc w.heap.size (fun _ => True) u5 x5_1) ∧ Aside0 (Below w.heap.size w wc))
   case first =>
    have H := HC5.out
    clear HC5
    by_cases c6 : x6_1 < (l0.length : Int)
    ·rw [if_pos c6] at H
     have c6b0 : decide (x6_1 < (l0.length : Int)) = true := decide_eq_true c6
     clear c6
     (first | rw [c6b0] | (simp only [i64_w, i32_w]; rw [c6b0]) | skip)
     have H' := am H
     clear H
     go_wp2
     go_meet
     case rel => exact ⟨_, (decide (x6_1 < 12)), pj, H', ⟨by have := HK1.out; first | omega | exact Nat.le_refl _⟩, ⟨by refine kR ?_; exact HO_5.out⟩, ⟨bl⟩⟩
    ·rw [if_neg c6] at H
     have c6b0 : decide (x6_1 < (l0.length : Int)) = false := decide_eq_false c6
     clear c6
     (first | rw [c6b0] | (simp only [i64_w, i32_w]; rw [c6b0]) | skip)
     have H' := am H
     clear H
     go_wp2
     go_meet
     case rel => exact ⟨_, (false), pj, H', ⟨by have := HK1.out; first | omega | exact Nat.le_refl _⟩, ⟨by refine kR ?_; exact HO_5.out⟩, ⟨bl⟩⟩
   case rest =>
    clear HC5
    try clear c2
    try clear p2
    try clear c6
    try clear c6b0
    try clear p2
    obtain ⟨kq, x16_4, rfl, HA, HJ4, HO_5, HB⟩ := hcut
    cases kq with
    | zero => exact absurd HA.out (by simp [epitomeref04_Fit.j1])
    | succ kj4 =>
     have H := HA.out
     clear HA
     simp only [epitomeref04_Fit.j1] at H
     by_cases c7 : x16_4 = true
     ·subst c7
      have H1 : (if 0 ≤ x6_1 then (if x6_1 < (l0.length : Int) then (if (wrap64 (1 + (Int.tmod (wrap64 ((Int.tmod ((rd_T25 l0 x6_1).f0) 3) + 3)) 3))) = 2 then (if 0 ≤ (mn (((rd_T25 l0 x6_1).f2).size : Int) 6) then (if (mn (((rd_T25 l0 x6_1).f2).size : Int) 6) ≤ (((rd_T25 l0 x6_1).f2).size : Int) then ((epitomeref01_Fit.f kj4 (((rd_T25 l0 x6_1).f2).extract 0 ((mn (((rd_T25 l0 x6_1).f2).size : Int) 6) : Int).toNat)).bind fun t228 => (if x5_1.length < 4398046511104 then (epitomeref04_Fit.l0 kj4 l0 x1_1 (x5_1 ++ [(⟨wrap64 (1 + (Int.tmod (wrap64 ((Int.tmod ((rd_T25 l0 x6_1).f0) 3) + 3)) 3)), 0, t228⟩ : S25)]) (wrap64 (x6_1 + 1))) else (none))) else (none)) else (none)) else (if x5_1.length < 4398046511104 then (epitomeref04_Fit.l0 kj4 l0 (wrap64 (x1_1 - (mn (Int.tmod (wrap64 ((Int.tmod ((rd_T25 l0 x6_1).f1) 7) + 7)) 7) x1_1))) (x5_1 ++ [(⟨wrap64 (1 + (Int.tmod (wrap64 ((Int.tmod ((rd_T25 l0 x6_1).f0) 3) + 3)) 3)), mn (Int.tmod (wrap64 ((Int.tmod ((rd_T25 l0 x6_1).f1) 7) + 7)) 7) x1_1, (⟨#[]⟩ : ByteArray)⟩ : S25)]) (wrap64 (x6_1 + 1))) else (none))) else (none)) else (none)) = some r := by rw [if_pos rfl] at H; exact H
      clear H
      have H := H1
      clear H1
      by_cases c8 : 0 ≤ x6_1
      ·rw [if_pos c8] at H
       have c8b0 : decide (0 ≤ x6_1) = true := decide_eq_true c8
       clear c8
       by_cases c9 : x6_1 < (l0.length : Int)
       ·rw [if_pos c9] at H
        have c9b0 : decide (x6_1 < (l0.length : Int)) = true := decide_eq_true c9
        clear c9
        by_cases c10 : (wrap64 (1 + (Int.tmod (wrap64 ((Int.tmod ((rd_T25 l0 x6_1).f0) 3) + 3)) 3))) = 2
        ·rw [if_pos c10] at H
         have c10b0 : ((wrap64 (1 + (Int.tmod (wrap64 ((Int.tmod ((rd_T25 l0 x6_1).f0) 3) + 3)) 3))) == 2) = true := beq_iff_eq.mpr c10
         have c10b1 : ((wrap64 (1 + (Int.tmod (wrap64 ((Int.tmod ((rd_T25 l0 x6_1).f0) 3) + 3)) 3))) != 2) = false := bne_eq_false_iff_eq.mpr c10
         clear c10
         obtain ⟨ji11, hji11⟩ : ∃ j_ : Int, (mn (((rd_T25 l0 x6_1).f2).size : Int) 6) = j_ := ⟨_, rfl⟩
         replace H : (if 0 ≤ (ji11) then (if (ji11) ≤ (((rd_T25 l0 x6_1).f2).size : Int) then ((epitomeref01_Fit.f kj4 (((rd_T25 l0 x6_1).f2).extract 0 ((ji11) : Int).toNat)).bind fun t228 => (if x5_1.length < 4398046511104 then (epitomeref04_Fit.l0 kj4 l0 x1_1 (x5_1 ++ [(⟨wrap64 (1 + (Int.tmod (wrap64 ((Int.tmod ((rd_T25 l0 x6_1).f0) 3) + 3)) 3)), 0, t228⟩ : S25)]) (wrap64 (x6_1 + 1))) else (none))) else (none)) else (none)) = some r := by first | (rw [hji11] at H; exact H) | (simp only [hji11] at H ⊢; exact H)
         have hji11_ : (if 6 < (((rd_T25 l0 x6_1).f2).size : Int) then 6 else (((rd_T25 l0 x6_1).f2).size : Int)) = ji11 := hji11
         by_cases c12 : 0 ≤ (ji11)
         ·rw [if_pos c12] at H
          have c12b0 := eq_true c12
          have c12b1 : decide (0 ≤ (ji11)) = true := decide_eq_true c12
          clear c12
          by_cases c13 : (ji11) ≤ (((rd_T25 l0 x6_1).f2).size : Int)
          ·rw [if_pos c13] at H
           have c13b0 := eq_true c13
           have c13b1 : decide ((ji11) ≤ (((rd_T25 l0 x6_1).f2).size : Int)) = true := decide_eq_true c13
           clear c13
           replace H := Option.bind_eq_some_iff.mp H
           obtain ⟨t228, A140, H⟩ := H
           replace H : (if x5_1.length < 4398046511104 then (epitomeref04_Fit.l0 kj4 l0 x1_1 (x5_1 ++ [(⟨wrap64 (1 + (Int.tmod (wrap64 ((Int.tmod ((rd_T25 l0 x6_1).f0) 3) + 3)) 3)), 0, t228⟩ : S25)]) (wrap64 (x6_1 + 1))) else (none)) = some r := H
           have A14 := am A140
           clear A140
           by_cases c15 : x5_1.length < 4398046511104
           ·rw [if_pos c15] at H
            have LMc15 := am c15
            clear c15
            obtain ⟨y229, hy229⟩ : ∃ y_ : List (S25), y_ = (x5_1 ++ [(⟨wrap64 (1 + (Int.tmod (wrap64 ((Int.tmod ((rd_T25 l0 x6_1).f0) 3) + 3)) 3)), 0, t228⟩ : S25)]) := ⟨_, rfl⟩
            replace H : (epitomeref04_Fit.l0 kj4 l0 x1_1 y229 (wrap64 (x6_1 + 1))) = some r := by first | (rw [hy229]; with_reducible exact H) | (have H2_ := (Option.bind_some _ _).symm.trans H; rw [hy229]; with_reducible exact H2_) | (have H2_ := (Option.bind_some _ _).symm.trans H; with_reducible exact H2_) | with_reducible exact H | (rw [hy229]; exact H) | exact H
            have Ny229 := am hy229
            clear hy229
            have H' := am H
            clear H
            have p224 : 0 ≤ (x6_1 : Int) := of_decide_eq_true as0
            have q224 : x6_1 < (l0.length : Int) := of_decide_eq_true as0
            obtain ⟨ad224, e224, hx224_0, hx224_1, hx224_2⟩ := at_T25 HR0.out x6_1 p224 q224
            cases e224
            replace hx224_0 := (HB.out.cell (World.block_lt_of_cell? w _ hx224_0)).trans hx224_0
            replace hx224_1 := (HB.out.cell (World.block_lt_of_cell? w _ hx224_1)).trans hx224_1
            replace hx224_2 := (HB.out.cell (World.block_lt_of_cell? w _ hx224_2)).trans hx224_2
            replace p224 := eq_true p224
            replace q224 := eq_true q224
            try go_wp2_with (first | ((with_reducible refine gate_dst (N := 7) rfl ?_); refine box_event ?hg (N := 7) ?hd (cs := #[.int .i64 0, .int .i64 0, .string (⟨#[]⟩ : ByteArray)]) (t := 25) ?hr ?_; (case hd => rfl); (case hg => rfl); (case hr => first | (go_simp; done) | (go_simp; rfl)); intro gb225 hg w16 hbox hb; have n0_ := am (Kd.R_below (Kd.R_elderB (by refine kR ?_; exact HO_5.out) gb225 (Nat.le_of_eq hg.symm)) hb); have n1_ := am (below_step bl hb); have n2_ := am (hbox); have n3_ := am ((gs : w.heap.size ≤ gb225)); have n4_ := am ((gs : w.heap.size ≤ gb225)); clear HO_5; clear HB; have HO_5 := n0_; have HB := n1_; have BK225 := n2_; have GW225 := n3_; have GE225 := n4_; clear n0_ n1_ n2_ n3_ n4_; clear hb hbox hg; have hcz17_0 : w16.cell? ⟨gb225, 0, none⟩ = some (.int .i64 0) := (blk_cell BK225.out 0).trans rfl; have hcz17_1 : w16.cell? ⟨gb225, 1, none⟩ = some (.int .i64 0) := (blk_cell BK225.out 1).trans rfl; have hcz17_2 : w16.cell? ⟨gb225, 2, none⟩ = some (.string (⟨#[]⟩ : ByteArray)) := (blk_cell BK225.out 2).trans rfl; have hfz17_0 := blk_frozen BK225.out 0; have hfz17_1 := blk_frozen BK225.out 1; have hfz17_2 := blk_frozen BK225.out 2))
            have n0_ : Aside0 (Kd.R k25 25 (((w16.setCell ⟨gb225, 0, none⟩ (.int .i64 (wrap64 (1 + (Int.tmod (wrap64 ((Int.tmod ((rd_T25 l0 x6_1).f0) 3) + 3)) 3))))).setCell ⟨gb225, 1, none⟩ (.int .i64 0)).setCell ⟨gb225, 2, none⟩ (.string (⟨#[]⟩ : ByteArray))) w.heap.size (fun k_ => k_ ≠ gb225) u5 x5_1) := ⟨by refine kR ?_; exact Kd.R_mono (Kd.R_far (p := ⟨gb225, 2, none⟩) (Kd.R_far (p := ⟨gb225, 1, none⟩) (Kd.R_far (p := ⟨gb225, 0, none⟩) (Kd.R_mono HO_5.out (fun k_ hk => (⟨hk, hk.2⟩ : _ ∧ k_ ≠ gb225))) (fun _ hk => hk.2) (.int .i64 (wrap64 (1 + (Int.tmod (wrap64 ((Int.tmod ((rd_T25 l0 x6_1).f0) 3) + 3)) 3))))) (fun _ hk => hk.2) (.int .i64 0)) (fun _ hk => hk.2) (.string (⟨#[]⟩ : ByteArray))) (fun _ hk => hk.1.2)⟩
            have n1_ : Aside0 ((((w16.setCell ⟨gb225, 0, none⟩ (.int .i64 (wrap64 (1 + (Int.tmod (wrap64 ((Int.tmod ((rd_T25 l0 x6_1).f0) 3) + 3)) 3))))).setCell ⟨gb225, 1, none⟩ (.int .i64 0)).setCell ⟨gb225, 2, none⟩ (.string (⟨#[]⟩ : ByteArray))).heap[gb225]? = some (.cells #[.int .i64 (wrap64 (1 + (Int.tmod (wrap64 ((Int.tmod ((rd_T25 l0 x6_1).f0) 3) + 3)) 3))), .int .i64 0, .string (⟨#[]⟩ : ByteArray)] 25 (0, 0))) := ⟨by refine bk ?_; refine blk_put (cs := #[.int .i64 (wrap64 (1 + (Int.tmod (wrap64 ((Int.tmod ((rd_T25 l0 x6_1).f0) 3) + 3)) 3))), .int .i64 0, .string (⟨#[]⟩ : ByteArray)]) ?_ 2 _ rfl; refine bk ?_; refine blk_put (cs := #[.int .i64 (wrap64 (1 + (Int.tmod (wrap64 ((Int.tmod ((rd_T25 l0 x6_1).f0) 3) + 3)) 3))), .int .i64 0, .string (⟨#[]⟩ : ByteArray)]) ?_ 1 _ rfl; refine bk ?_; refine blk_put (cs := #[.int .i64 0, .int .i64 0, .string (⟨#[]⟩ : ByteArray)]) ?_ 0 _ rfl; refine bk ?_; exact BK225.out⟩
            have n2_ : Aside0 (Below w.heap.size w (((w16.setCell ⟨gb225, 0, none⟩ (.int .i64 (wrap64 (1 + (Int.tmod (wrap64 ((Int.tmod ((rd_T25 l0 x6_1).f0) 3) + 3)) 3))))).setCell ⟨gb225, 1, none⟩ (.int .i64 0)).setCell ⟨gb225, 2, none⟩ (.string (⟨#[]⟩ : ByteArray)))) := ⟨bl⟩
            (try clear HO_5)
            (try clear BK225)
            (try clear HB)
            generalize (((w16.setCell ⟨gb225, 0, none⟩ (.int .i64 (wrap64 (1 + (Int.tmod (wrap64 ((Int.tmod ((rd_T25 l0 x6_1).f0) 3) + 3)) 3))))).setCell ⟨gb225, 1, none⟩ (.int .i64 0)).setCell ⟨gb225, 2, none⟩ (.string (⟨#[]⟩ : ByteArray))) = w18 at n0_ n1_ n2_ ⊢
            have HO_5 := n0_
            have BK225 := n1_
            have HB := n2_
            clear n0_ n1_ n2_
            have n0_ := am (Kd.R_drew HO_5.out)
            have n1_ := am (blk_drew BK225.out)
            have n2_ := am (below_drew1 HB.out)
            clear HO_5
            clear BK225
            clear HB
            have HO_5 := n0_
            have BK225 := n1_
            have HB := n2_
            clear n0_ n1_ n2_
            have p226 : 0 ≤ (x6_1 : Int) := of_decide_eq_true as0
            have q226 : x6_1 < (l0.length : Int) := of_decide_eq_true as0
            obtain ⟨ad226, e226, hx226_0, hx226_1, hx226_2⟩ := at_T25 HR0.out x6_1 p226 q226
            have hw226_2 := hx226_2
            have hw226_1 := hx226_1
            have hw226_0 := hx226_0
            obtain rfl : ad224 = ad226 := (by injection e226)
            replace hx226_0 := (HB.out.cell (World.block_lt_of_cell? w _ hx226_0)).trans hx226_0
            replace hx226_1 := (HB.out.cell (World.block_lt_of_cell? w _ hx226_1)).trans hx226_1
            replace hx226_2 := (HB.out.cell (World.block_lt_of_cell? w _ hx226_2)).trans hx226_2
            replace p226 := eq_true p226
            replace q226 := eq_true q226
            have p227 : 0 ≤ (x6_1 : Int) := of_decide_eq_true as0
            have q227 : x6_1 < (l0.length : Int) := of_decide_eq_true as0
            obtain ⟨ad227, e227, hx227_0, hx227_1, hx227_2⟩ := at_T25 HR0.out x6_1 p227 q227
            have hw227_2 := hx227_2
            have hw227_1 := hx227_1
            have hw227_0 := hx227_0
            obtain rfl : ad224 = ad227 := (by injection e227)
            replace hx227_0 := (HB.out.cell (World.block_lt_of_cell? w _ hx227_0)).trans hx227_0
            replace hx227_1 := (HB.out.cell (World.block_lt_of_cell? w _ hx227_1)).trans hx227_1
            replace hx227_2 := (HB.out.cell (World.block_lt_of_cell? w _ hx227_2)).trans hx227_2
            replace p227 := eq_true p227
            replace q227 := eq_true q227
            refine start_ (n := 16) (S := fun w' => w'.cell? (ad224.add ((x6_1).toNat * 3)) = some (.int .i64 ((rd_T25 l0 x6_1).f0)) ∧ w'.cell? ⟨(ad224.add ((x6_1).toNat * 3)).block, (ad224.add ((x6_1).toNat * 3)).off + 1, none⟩ = some (.int .i64 ((rd_T25 l0 x6_1).f1)) ∧ w'.cell? ⟨(ad224.add ((x6_1).toNat * 3)).block, (ad224.add ((x6_1).toNat * 3)).off + 2, none⟩ = some (.string ((rd_T25 l0 x6_1).f2)) ∧ w'.cell? (ad224.add ((x6_1).toNat * 3)) = some (.int .i64 ((rd_T25 l0 x6_1).f0)) ∧ w'.cell? ⟨(ad224.add ((x6_1).toNat * 3)).block, (ad224.add ((x6_1).toNat * 3)).off + 1, none⟩ = some (.int .i64 ((rd_T25 l0 x6_1).f1)) ∧ w'.cell? ⟨(ad224.add ((x6_1).toNat * 3)).block, (ad224.add ((x6_1).toNat * 3)).off + 2, none⟩ = some (.string ((rd_T25 l0 x6_1).f2))) (ds := []) #[false, false, false, false, false, false, false, false, false, false, false, false, false, false, false, false] (by kernel_rfl) rfl rfl ⟨((HB.out.cell (World.block_lt_of_cell? w _ hw226_0)).trans hw226_0), ((HB.out.cell (World.block_lt_of_cell? w _ hw226_1)).trans hw226_1), ((HB.out.cell (World.block_lt_of_cell? w _ hw226_2)).trans hw226_2), ((HB.out.cell (World.block_lt_of_cell? w _ hw227_0)).trans hw227_0), ((HB.out.cell (World.block_lt_of_cell? w _ hw227_1)).trans hw227_1), ((HB.out.cell (World.block_lt_of_cell? w _ hw227_2)).trans hw227_2)⟩ (fun hHeld => ?_); refine with_tabW epitomeref04_Fit.tab7 epitomeref04_Fit.bits7 (fun HT_ HW_ => ?_)
            generalize w18.drew = w19 at HO_5 BK225 HB hx226_0 hx226_1 hx226_2 hx227_0 hx227_1 hx227_2 hHeld ⊢
            refine pure_ (i := 0) (N := some 32) #[true, false, false, false, false, false, false, false, false, false, false, false, false, false, false, false] rfl rfl (aT HT_.out) (fun _ _ _ h => h) (Or.inl ⟨rfl, rn⟩) ap ?_
            refine pure_ (i := 1) (N := some 33) #[true, true, false, false, false, false, false, false, false, false, false, false, false, false, false, false] rfl rfl (aT HT_.out) (fun _ _ _ h => h) (Or.inl ⟨rfl, rn⟩) ap ?_
            refine pure_ (i := 2) (N := some 34) #[true, true, true, false, false, false, false, false, false, false, false, false, false, false, false, false] rfl rfl (aT HT_.out) (fun _ _ _ h => h) (Or.inl ⟨rfl, rn⟩) ap ?_
            refine pure_ (i := 3) (N := some 35) #[true, true, true, true, false, false, false, false, false, false, false, false, false, false, false, false] rfl rfl (aT HT_.out) (fun _ _ _ h => h) (Or.inl ⟨rfl, rn⟩) ap ?_
            refine pure_ (i := 5) (N := some 37) #[true, true, true, true, false, true, false, false, false, false, false, false, false, false, false, false] rfl rfl (aT HT_.out) (fun _ _ _ h => h) (Or.inl ⟨rfl, rn⟩) ap ?_
            refine pure_ (i := 6) (N := some 38) #[true, true, true, true, false, true, true, false, false, false, false, false, false, false, false, false] rfl rfl (aT HT_.out) (fun _ _ _ h => h) (Or.inl ⟨rfl, rn⟩) ap ?_
            refine pure_ (i := 7) (N := some 39) #[true, true, true, true, false, true, true, true, false, false, false, false, false, false, false, false] rfl rfl (aT HT_.out) (fun _ _ _ h => h) (Or.inl ⟨rfl, rn⟩) ap ?_
            refine pure_ (i := 8) (N := some 40) #[true, true, true, true, false, true, true, true, true, false, false, false, false, false, false, false] rfl rfl (aT HT_.out) (fun _ _ _ h => h) (Or.inl ⟨rfl, rn⟩) ap ?_
            refine take_ (i := 4) (N := some 36) (v := ?_) (a' := ?_) #[true, true, true, true, true, true, true, true, true, false, false, false, false, false, false, false] rfl rfl (take_ofW HT_.out HW_.out (by kernel_rfl)) (fun _ _ _ h => h) (Or.inl ⟨by rfl, ?_⟩) hHeld ?_ ?_
            rotate_left
            ·rintro w' ⟨s0, s1, s2, s3, s4, s5⟩
             go_simp
             with_reducible rfl
            rotate_left
            ·exact ap
            refine take_ (i := 9) (N := some 41) (v := ?_) (a' := ?_) #[true, true, true, true, true, true, true, true, true, true, false, false, false, false, false, false] rfl rfl (take_ofW HT_.out HW_.out (by kernel_rfl)) (fun _ _ _ h => h) (Or.inl ⟨by rfl, ?_⟩) hHeld ?_ ?_
            rotate_left
            ·rintro w' ⟨s0, s1, s2, s3, s4, s5⟩
             go_simp
             with_reducible rfl
            rotate_left
            ·exact ap
            refine pure_ (i := 10) (N := some 42) #[true, true, true, true, true, true, true, true, true, true, true, false, false, false, false, false] rfl rfl (aT HT_.out) (fun _ _ _ h => h) (Or.inl ⟨rfl, rn⟩) ap ?_
            refine pure_ (i := 11) (N := some 43) #[true, true, true, true, true, true, true, true, true, true, true, true, false, false, false, false] rfl rfl (aT HT_.out) (fun _ _ _ h => h) (Or.inl ⟨rfl, rn⟩) ap ?_
            refine pure_ (i := 12) (N := some 44) #[true, true, true, true, true, true, true, true, true, true, true, true, true, false, false, false] rfl rfl (aT HT_.out) (fun _ _ _ h => h) (Or.inl ⟨rfl, rn⟩) ap ?_
            refine one_ (i := 13) (N := some 45) #[true, true, true, true, true, true, true, true, true, true, true, true, true, true, false, false] rfl rfl (one_of HT_.out (by kernel_rfl)) (by decide) (fun K hK => ?_)
            refine goes_ Tryd.func9 (by kernel_rfl) rfl #[.string (((rd_T25 l0 x6_1).f2).extract 0 ((ji11) : Int).toNat)] (by rfl) rfl rfl (by (try simp only [List.map_toArray, List.map_cons, List.map_nil]); first | done | (simp only [hji11]; rfl) | rfl | (simp only [List.length_drop, List.length_take]; rfl)) ?_
            with_reducible refine (epitomeref01_Fit.calls kj4 (((rd_T25 l0 x6_1).f2).extract 0 ((ji11) : Int).toNat) t228 _ A14.out).mono ?_
            rintro e w20 ⟨rfl, hb⟩
            refine ⟨_, rfl, ?_⟩
            have n0_ := am (Kd.R_below (by refine kR ?_; exact HO_5.out) hb)
            have n1_ := am (blk_below (g := gb225) (o := .cells #[.int .i64 (wrap64 (1 + (Int.tmod (wrap64 ((Int.tmod ((rd_T25 l0 x6_1).f0) 3) + 3)) 3))), .int .i64 0, .string (⟨#[]⟩ : ByteArray)] 25 (0, 0)) (by refine bk ?_; exact BK225.out) hb)
            have n2_ := am (below_step bl hb)
            clear HO_5
            clear BK225
            clear HB
            have HO_5 := n0_
            have BK225 := n1_
            have HB := n2_
            clear n0_ n1_ n2_
            (try clear hb)
            (try clear hb2)
            (try clear hk)
            (try clear hi)
            refine hK.out _ _ ⟨((HB.out.cell (World.block_lt_of_cell? w _ hw226_0)).trans hw226_0), ((HB.out.cell (World.block_lt_of_cell? w _ hw226_1)).trans hw226_1), ((HB.out.cell (World.block_lt_of_cell? w _ hw226_2)).trans hw226_2), ((HB.out.cell (World.block_lt_of_cell? w _ hw227_0)).trans hw227_0), ((HB.out.cell (World.block_lt_of_cell? w _ hw227_1)).trans hw227_1), ((HB.out.cell (World.block_lt_of_cell? w _ hw227_2)).trans hw227_2)⟩ (fun hHeld => ?_)
            clear hK K
            refine norm_ (a' := ?_) ?_ ?_
            rotate_left
            ·show Act.put _ (some 45) _ = _
             simp only [Act.put, List.setIfInBounds_toArray, List.set_cons_zero, List.set_cons_succ, i64_w, i32_w]
             rfl
            refine pure_ (i := 14) (N := some 46) #[true, true, true, true, true, true, true, true, true, true, true, true, true, true, true, false] rfl rfl (aT HT_.out) (fun _ _ _ h => h) (Or.inl ⟨rfl, rn⟩) ap ?_
            refine one_ (i := 15) (N := none) #[true, true, true, true, true, true, true, true, true, true, true, true, true, true, true, true] rfl rfl (one_of HT_.out (by kernel_rfl)) (by decide) (fun K hK => ?_)
            have hs21 : w20.cell? ⟨gb225, 2, none⟩ = some (.string (⟨#[]⟩ : ByteArray)) := (blk_cell BK225.out 2).trans rfl
            have hfs21 := blk_frozen BK225.out 2
            refine skip_ (w1 := ?_) (by rfl) rfl ?_ ?_
            rotate_left
            ·go_simp
             rfl
            refine hK.out _ _ ⟨((cell_far (p := ⟨gb225, _, none⟩) (by first | exact Nat.ne_of_lt (Nat.lt_of_lt_of_le (by have := World.block_lt_of_cell? _ _ hw226_0; first | rwa [add_block] at this | exact this) GW225.out) | (rw [add_block]; exact Nat.ne_of_lt (Nat.lt_of_lt_of_le (by have := World.block_lt_of_cell? _ _ hw226_0; first | rwa [add_block] at this | exact this) GW225.out)) | (show (Addr.add _ _).block ≠ _; rw [add_block]; exact Nat.ne_of_lt (Nat.lt_of_lt_of_le (by have := World.block_lt_of_cell? _ _ hw226_0; first | rwa [add_block] at this | exact this) GW225.out)) | (dsimp only; exact Nat.ne_of_lt (Nat.lt_of_lt_of_le (by have := World.block_lt_of_cell? _ _ hw226_0; first | rwa [add_block] at this | exact this) GW225.out))) _).trans (hHeld.1)), ((cell_far (p := ⟨gb225, _, none⟩) (by first | exact Nat.ne_of_lt (Nat.lt_of_lt_of_le (by have := World.block_lt_of_cell? _ _ hw226_1; first | rwa [add_block] at this | exact this) GW225.out) | (rw [add_block]; exact Nat.ne_of_lt (Nat.lt_of_lt_of_le (by have := World.block_lt_of_cell? _ _ hw226_1; first | rwa [add_block] at this | exact this) GW225.out)) | (show (Addr.add _ _).block ≠ _; rw [add_block]; exact Nat.ne_of_lt (Nat.lt_of_lt_of_le (by have := World.block_lt_of_cell? _ _ hw226_1; first | rwa [add_block] at this | exact this) GW225.out)) | (dsimp only; exact Nat.ne_of_lt (Nat.lt_of_lt_of_le (by have := World.block_lt_of_cell? _ _ hw226_1; first | rwa [add_block] at this | exact this) GW225.out))) _).trans (hHeld.2.1)), ((cell_far (p := ⟨gb225, _, none⟩) (by first | exact Nat.ne_of_lt (Nat.lt_of_lt_of_le (by have := World.block_lt_of_cell? _ _ hw226_2; first | rwa [add_block] at this | exact this) GW225.out) | (rw [add_block]; exact Nat.ne_of_lt (Nat.lt_of_lt_of_le (by have := World.block_lt_of_cell? _ _ hw226_2; first | rwa [add_block] at this | exact this) GW225.out)) | (show (Addr.add _ _).block ≠ _; rw [add_block]; exact Nat.ne_of_lt (Nat.lt_of_lt_of_le (by have := World.block_lt_of_cell? _ _ hw226_2; first | rwa [add_block] at this | exact this) GW225.out)) | (dsimp only; exact Nat.ne_of_lt (Nat.lt_of_lt_of_le (by have := World.block_lt_of_cell? _ _ hw226_2; first | rwa [add_block] at this | exact this) GW225.out))) _).trans (hHeld.2.2.1)), ((cell_far (p := ⟨gb225, _, none⟩) (by first | exact Nat.ne_of_lt (Nat.lt_of_lt_of_le (by have := World.block_lt_of_cell? _ _ hw227_0; first | rwa [add_block] at this | exact this) GW225.out) | (rw [add_block]; exact Nat.ne_of_lt (Nat.lt_of_lt_of_le (by have := World.block_lt_of_cell? _ _ hw227_0; first | rwa [add_block] at this | exact this) GW225.out)) | (show (Addr.add _ _).block ≠ _; rw [add_block]; exact Nat.ne_of_lt (Nat.lt_of_lt_of_le (by have := World.block_lt_of_cell? _ _ hw227_0; first | rwa [add_block] at this | exact this) GW225.out)) | (dsimp only; exact Nat.ne_of_lt (Nat.lt_of_lt_of_le (by have := World.block_lt_of_cell? _ _ hw227_0; first | rwa [add_block] at this | exact this) GW225.out))) _).trans (hHeld.2.2.2.1)), ((cell_far (p := ⟨gb225, _, none⟩) (by first | exact Nat.ne_of_lt (Nat.lt_of_lt_of_le (by have := World.block_lt_of_cell? _ _ hw227_1; first | rwa [add_block] at this | exact this) GW225.out) | (rw [add_block]; exact Nat.ne_of_lt (Nat.lt_of_lt_of_le (by have := World.block_lt_of_cell? _ _ hw227_1; first | rwa [add_block] at this | exact this) GW225.out)) | (show (Addr.add _ _).block ≠ _; rw [add_block]; exact Nat.ne_of_lt (Nat.lt_of_lt_of_le (by have := World.block_lt_of_cell? _ _ hw227_1; first | rwa [add_block] at this | exact this) GW225.out)) | (dsimp only; exact Nat.ne_of_lt (Nat.lt_of_lt_of_le (by have := World.block_lt_of_cell? _ _ hw227_1; first | rwa [add_block] at this | exact this) GW225.out))) _).trans (hHeld.2.2.2.2.1)), ((cell_far (p := ⟨gb225, _, none⟩) (by first | exact Nat.ne_of_lt (Nat.lt_of_lt_of_le (by have := World.block_lt_of_cell? _ _ hw227_2; first | rwa [add_block] at this | exact this) GW225.out) | (rw [add_block]; exact Nat.ne_of_lt (Nat.lt_of_lt_of_le (by have := World.block_lt_of_cell? _ _ hw227_2; first | rwa [add_block] at this | exact this) GW225.out)) | (show (Addr.add _ _).block ≠ _; rw [add_block]; exact Nat.ne_of_lt (Nat.lt_of_lt_of_le (by have := World.block_lt_of_cell? _ _ hw227_2; first | rwa [add_block] at this | exact this) GW225.out)) | (dsimp only; exact Nat.ne_of_lt (Nat.lt_of_lt_of_le (by have := World.block_lt_of_cell? _ _ hw227_2; first | rwa [add_block] at this | exact this) GW225.out))) _).trans (hHeld.2.2.2.2.2))⟩ (fun hHeld => ?_)
            clear hK K
            refine done_ (done_of HT_.out (by kernel_rfl)) ?_
            have hcz22_0 : w20.cell? ⟨gb225, 0, none⟩ = some (.int .i64 (wrap64 (1 + (Int.tmod (wrap64 ((Int.tmod ((rd_T25 l0 x6_1).f0) 3) + 3)) 3)))) := (blk_cell BK225.out 0).trans rfl
            have hcz22_1 : w20.cell? ⟨gb225, 1, none⟩ = some (.int .i64 0) := (blk_cell BK225.out 1).trans rfl
            have hcz22_2 : w20.cell? ⟨gb225, 2, none⟩ = some (.string (⟨#[]⟩ : ByteArray)) := (blk_cell BK225.out 2).trans rfl
            have hfz22_0 := blk_frozen BK225.out 0
            have hfz22_1 := blk_frozen BK225.out 1
            have hfz22_2 := blk_frozen BK225.out 2
            try go_wp2_with (first | ((with_reducible refine gate_builtin (b := .append) (xs := #[.tmp 62, .tmp 64]) rfl ?_); at_builtin; refine Kd.R_append k25 (w0 := w) w.heap.size rfl (.tmp 62) (.tmp 64) 27 25 (.agg #[(.int .i64 0), (.int .i64 0), (.string ⟨#[]⟩)]) 32 rfl Tryd.underlying27 info25 rfl (by decide) (by omega) u5 x5_1 (⟨wrap64 (1 + (Int.tmod (wrap64 ((Int.tmod ((rd_T25 l0 x6_1).f0) 3) + 3)) 3)), 0, t228⟩ : S25) [.int .i64 (wrap64 (1 + (Int.tmod (wrap64 ((Int.tmod ((rd_T25 l0 x6_1).f0) 3) + 3)) 3))), .int .i64 0, .string t228] (fun k_ => k_ ≠ gb225) (fun _ => False) rfl (by first | (go_simp; done) | (go_simp; rfl)) ?aP (fun _ hk => hk.elim) ?aF ?aO ?aB ?aS ?aL ?_; (case aP => exact k25_mkM _ _ _ (⟨wrap64 (1 + (Int.tmod (wrap64 ((Int.tmod ((rd_T25 l0 x6_1).f0) 3) + 3)) 3)), 0, t228⟩ : S25)); (case aB => exact bl); (case aF => exact (fun k_ hk => Kd.freshB (g := gb225) (o := .cells #[.int .i64 (wrap64 (1 + (Int.tmod (wrap64 ((Int.tmod ((rd_T25 l0 x6_1).f0) 3) + 3)) 3))), .int .i64 0, .string t228] 25 (0, 0)) (by refine bk ?_; refine blk_put (cs := #[.int .i64 (wrap64 (1 + (Int.tmod (wrap64 ((Int.tmod ((rd_T25 l0 x6_1).f0) 3) + 3)) 3))), .int .i64 0, .string (⟨#[]⟩ : ByteArray)]) ?_ 2 _ rfl; refine bk ?_; exact BK225.out) k_ hk)); (case aO => exact (by refine kR ?_; exact Kd.R_mono (Kd.R_far (p := ⟨gb225, 2, none⟩) (Kd.R_mono HO_5.out (fun k_ hk => (⟨hk, hk⟩ : _ ∧ k_ ≠ gb225))) (fun _ hk => hk.2) (.string t228)) (fun _ hk => hk.1))); (case aS => exact (below_size bl)); (case aL => have := LMc15.out; omega); intro v230 w23 ho hb hg hat; rw [← Ny229.out] at ho; have n0_ := am (blk_grown (g := gb225) (o := .cells #[.int .i64 (wrap64 (1 + (Int.tmod (wrap64 ((Int.tmod ((rd_T25 l0 x6_1).f0) 3) + 3)) 3))), .int .i64 0, .string t228] 25 (0, 0)) (by refine bk ?_; refine blk_put (cs := #[.int .i64 (wrap64 (1 + (Int.tmod (wrap64 ((Int.tmod ((rd_T25 l0 x6_1).f0) 3) + 3)) 3))), .int .i64 0, .string (⟨#[]⟩ : ByteArray)]) ?_ 2 _ rfl; refine bk ?_; exact BK225.out) hg (Kd.R_away HO_5.out (fun _ hk => hk))); have n1_ := am (hb); have n2_ := am (ho); clear BK225; clear HB; clear HO_5; have BK225 := n0_; have HB := n1_; have HO231 := n2_; clear n0_ n1_ n2_; clear ho hb hg hat))
            go_roundg kj4
            case measure => have := HK1.out; have := HJ4.out; omega
            case rel => exact ⟨(x1_1), (y229), (wrap64 (x6_1 + 1)), pj, pj, H', ⟨by have := HK1.out; have := HJ4.out; omega⟩, ⟨by refine kR ?_; exact Kd.R_mono HO231.out (fun _ hk => trivial)⟩, ⟨bl⟩⟩
           ·rw [if_neg c15] at H
            exact absurd H (by simp)
          ·rw [if_neg c13] at H
           exact absurd H (by simp)
         ·rw [if_neg c12] at H
          exact absurd H (by simp)
        ·rw [if_neg c10] at H
         have c10b0 : ((wrap64 (1 + (Int.tmod (wrap64 ((Int.tmod ((rd_T25 l0 x6_1).f0) 3) + 3)) 3))) == 2) = false := beq_eq_false_iff_ne.mpr c10
         have c10b1 : ((wrap64 (1 + (Int.tmod (wrap64 ((Int.tmod ((rd_T25 l0 x6_1).f0) 3) + 3)) 3))) != 2) = true := bne_iff_ne.mpr c10
         obtain ⟨ji24, hji24⟩ : ∃ j_ : Int, (mn (Int.tmod (wrap64 ((Int.tmod ((rd_T25 l0 x6_1).f1) 7) + 7)) 7) x1_1) = j_ := ⟨_, rfl⟩
         replace H : (if x5_1.length < 4398046511104 then (epitomeref04_Fit.l0 kj4 l0 (wrap64 (x1_1 - (ji24))) (x5_1 ++ [(⟨wrap64 (1 + (Int.tmod (wrap64 ((Int.tmod ((rd_T25 l0 x6_1).f0) 3) + 3)) 3)), ji24, (⟨#[]⟩ : ByteArray)⟩ : S25)]) (wrap64 (x6_1 + 1))) else (none)) = some r := by first | (rw [hji24] at H; exact H) | (simp only [hji24] at H ⊢; exact H)
         have hji24_ : (if x1_1 < (Int.tmod (wrap64 ((Int.tmod ((rd_T25 l0 x6_1).f1) 7) + 7)) 7) then x1_1 else (Int.tmod (wrap64 ((Int.tmod ((rd_T25 l0 x6_1).f1) 7) + 7)) 7)) = ji24 := hji24
         by_cases c25 : x5_1.length < 4398046511104
         ·rw [if_pos c25] at H
          have LMc25 := am c25
          clear c25
          obtain ⟨y233, hy233⟩ : ∃ y_ : List (S25), y_ = (x5_1 ++ [(⟨wrap64 (1 + (Int.tmod (wrap64 ((Int.tmod ((rd_T25 l0 x6_1).f0) 3) + 3)) 3)), ji24, (⟨#[]⟩ : ByteArray)⟩ : S25)]) := ⟨_, rfl⟩
          replace H : (epitomeref04_Fit.l0 kj4 l0 (wrap64 (x1_1 - (ji24))) y233 (wrap64 (x6_1 + 1))) = some r := by first | (rw [hy233]; with_reducible exact H) | (have H2_ := (Option.bind_some _ _).symm.trans H; rw [hy233]; with_reducible exact H2_) | (have H2_ := (Option.bind_some _ _).symm.trans H; with_reducible exact H2_) | with_reducible exact H | (rw [hy233]; exact H) | exact H
          have Ny233 := am hy233
          clear hy233
          have H' := am H
          clear H
          have p224 : 0 ≤ (x6_1 : Int) := of_decide_eq_true as0
          have q224 : x6_1 < (l0.length : Int) := of_decide_eq_true as0
          obtain ⟨ad224, e224, hx224_0, hx224_1, hx224_2⟩ := at_T25 HR0.out x6_1 p224 q224
          cases e224
          replace hx224_0 := (HB.out.cell (World.block_lt_of_cell? w _ hx224_0)).trans hx224_0
          replace hx224_1 := (HB.out.cell (World.block_lt_of_cell? w _ hx224_1)).trans hx224_1
          replace hx224_2 := (HB.out.cell (World.block_lt_of_cell? w _ hx224_2)).trans hx224_2
          replace p224 := eq_true p224
          replace q224 := eq_true q224
          go_wp2_with (first | ((with_reducible refine gate_dst (N := 7) rfl ?_); refine box_event ?hg (N := 7) ?hd (cs := #[.int .i64 0, .int .i64 0, .string (⟨#[]⟩ : ByteArray)]) (t := 25) ?hr ?_; (case hd => rfl); (case hg => rfl); (case hr => first | (go_simp; done) | (go_simp; rfl)); intro gb225 hg w26 hbox hb; have n0_ := am (Kd.R_below (Kd.R_elderB (by refine kR ?_; exact HO_5.out) gb225 (Nat.le_of_eq hg.symm)) hb); have n1_ := am (below_step bl hb); have n2_ := am (hbox); have n3_ := am ((gs : w.heap.size ≤ gb225)); have n4_ := am ((gs : w.heap.size ≤ gb225)); clear HO_5; clear HB; have HO_5 := n0_; have HB := n1_; have BK225 := n2_; have GW225 := n3_; have GE225 := n4_; clear n0_ n1_ n2_ n3_ n4_; clear hb hbox hg; have hcz27_0 : w26.cell? ⟨gb225, 0, none⟩ = some (.int .i64 0) := (blk_cell BK225.out 0).trans rfl; have hcz27_1 : w26.cell? ⟨gb225, 1, none⟩ = some (.int .i64 0) := (blk_cell BK225.out 1).trans rfl; have hcz27_2 : w26.cell? ⟨gb225, 2, none⟩ = some (.string (⟨#[]⟩ : ByteArray)) := (blk_cell BK225.out 2).trans rfl; have hfz27_0 := blk_frozen BK225.out 0; have hfz27_1 := blk_frozen BK225.out 1; have hfz27_2 := blk_frozen BK225.out 2; have hcw_ : ((((w26.setCell ⟨gb225, 0, none⟩ (.int .i64 (wrap64 (1 + (Int.tmod (wrap64 ((Int.tmod ((rd_T25 l0 x6_1).f0) 3) + 3)) 3))))).setCell ⟨gb225, 1, none⟩ (.int .i64 0)).setCell ⟨gb225, 2, none⟩ (.string (⟨#[]⟩ : ByteArray))).setCell ⟨gb225, 1, none⟩ (.int .i64 ji24)).cell? ⟨gb225, 1, none⟩ = some (.int .i64 ji24) := (blk_cell (blk_put (blk_put (blk_put (blk_put BK225.out 0 _ rfl) 1 _ rfl) 2 _ rfl) 1 _ rfl) 1).trans rfl; have p232 : 0 ≤ (x6_1 : Int) := of_decide_eq_true as0; have q232 : x6_1 < (l0.length : Int) := of_decide_eq_true as0; obtain ⟨ad232, e232, hx232_0, hx232_1, hx232_2⟩ := at_T25 HR0.out x6_1 p232 q232; obtain rfl : ad224 = ad232 := (by injection e232); have hn232_0 : ad224.block ≠ gb225 := Nat.ne_of_lt (Nat.lt_of_lt_of_le (by have := World.block_lt_of_cell? _ _ hx232_0; first | rwa [add_block] at this | exact this) GW225.out); have hn232_1 : ad224.block ≠ gb225 := Nat.ne_of_lt (Nat.lt_of_lt_of_le (by have := World.block_lt_of_cell? _ _ hx232_0; first | rwa [add_block] at this | exact this) GW225.out); have hn232_2 : ad224.block ≠ gb225 := Nat.ne_of_lt (Nat.lt_of_lt_of_le (by have := World.block_lt_of_cell? _ _ hx232_0; first | rwa [add_block] at this | exact this) GW225.out); replace hx232_0 := (HB.out.cell (World.block_lt_of_cell? w _ hx232_0)).trans hx232_0; replace hx232_1 := (HB.out.cell (World.block_lt_of_cell? w _ hx232_1)).trans hx232_1; replace hx232_2 := (HB.out.cell (World.block_lt_of_cell? w _ hx232_2)).trans hx232_2; replace hx232_0 := (cell_far (p := ⟨gb225, 0, none⟩) (by first | (rw [add_block]; exact hn232_0) | (show (Addr.add _ _).block ≠ _; rw [add_block]; exact hn232_0) | exact hn232_0) (.int .i64 (wrap64 (1 + (Int.tmod (wrap64 ((Int.tmod ((rd_T25 l0 x6_1).f0) 3) + 3)) 3))))).trans hx232_0; replace hx232_1 := (cell_far (p := ⟨gb225, 0, none⟩) (by first | (rw [add_block]; exact hn232_0) | (show (Addr.add _ _).block ≠ _; rw [add_block]; exact hn232_0) | exact hn232_0) (.int .i64 (wrap64 (1 + (Int.tmod (wrap64 ((Int.tmod ((rd_T25 l0 x6_1).f0) 3) + 3)) 3))))).trans hx232_1; replace hx232_2 := (cell_far (p := ⟨gb225, 0, none⟩) (by first | (rw [add_block]; exact hn232_0) | (show (Addr.add _ _).block ≠ _; rw [add_block]; exact hn232_0) | exact hn232_0) (.int .i64 (wrap64 (1 + (Int.tmod (wrap64 ((Int.tmod ((rd_T25 l0 x6_1).f0) 3) + 3)) 3))))).trans hx232_2; replace hx232_0 := (cell_far (p := ⟨gb225, 1, none⟩) (by first | (rw [add_block]; exact hn232_1) | (show (Addr.add _ _).block ≠ _; rw [add_block]; exact hn232_1) | exact hn232_1) (.int .i64 0)).trans hx232_0; replace hx232_1 := (cell_far (p := ⟨gb225, 1, none⟩) (by first | (rw [add_block]; exact hn232_1) | (show (Addr.add _ _).block ≠ _; rw [add_block]; exact hn232_1) | exact hn232_1) (.int .i64 0)).trans hx232_1; replace hx232_2 := (cell_far (p := ⟨gb225, 1, none⟩) (by first | (rw [add_block]; exact hn232_1) | (show (Addr.add _ _).block ≠ _; rw [add_block]; exact hn232_1) | exact hn232_1) (.int .i64 0)).trans hx232_2; replace hx232_0 := (cell_far (p := ⟨gb225, 2, none⟩) (by first | (rw [add_block]; exact hn232_2) | (show (Addr.add _ _).block ≠ _; rw [add_block]; exact hn232_2) | exact hn232_2) (.string (⟨#[]⟩ : ByteArray))).trans hx232_0; replace hx232_1 := (cell_far (p := ⟨gb225, 2, none⟩) (by first | (rw [add_block]; exact hn232_2) | (show (Addr.add _ _).block ≠ _; rw [add_block]; exact hn232_2) | exact hn232_2) (.string (⟨#[]⟩ : ByteArray))).trans hx232_1; replace hx232_2 := (cell_far (p := ⟨gb225, 2, none⟩) (by first | (rw [add_block]; exact hn232_2) | (show (Addr.add _ _).block ≠ _; rw [add_block]; exact hn232_2) | exact hn232_2) (.string (⟨#[]⟩ : ByteArray))).trans hx232_2; clear hn232_0; clear hn232_1; clear hn232_2; replace p232 := eq_true p232; replace q232 := eq_true q232) | ((with_reducible refine gate_builtin (b := .append) (xs := #[.tmp 62, .tmp 64]) rfl ?_); at_builtin; refine Kd.R_append k25 (w0 := w) w.heap.size rfl (.tmp 62) (.tmp 64) 27 25 (.agg #[(.int .i64 0), (.int .i64 0), (.string ⟨#[]⟩)]) 32 rfl Tryd.underlying27 info25 rfl (by decide) (by omega) u5 x5_1 (⟨wrap64 (1 + (Int.tmod (wrap64 ((Int.tmod ((rd_T25 l0 x6_1).f0) 3) + 3)) 3)), ji24, (⟨#[]⟩ : ByteArray)⟩ : S25) [.int .i64 (wrap64 (1 + (Int.tmod (wrap64 ((Int.tmod ((rd_T25 l0 x6_1).f0) 3) + 3)) 3))), .int .i64 ji24, .string (⟨#[]⟩ : ByteArray)] (fun k_ => k_ ≠ gb225) (fun _ => False) rfl (by first | (go_simp; done) | (go_simp; rfl)) ?aP (fun _ hk => hk.elim) ?aF ?aO ?aB ?aS ?aL ?_; (case aP => exact k25_mkM _ _ _ (⟨wrap64 (1 + (Int.tmod (wrap64 ((Int.tmod ((rd_T25 l0 x6_1).f0) 3) + 3)) 3)), ji24, (⟨#[]⟩ : ByteArray)⟩ : S25)); (case aB => exact bl); (case aF => exact (fun k_ hk => Kd.freshB (g := gb225) (o := .cells #[.int .i64 (wrap64 (1 + (Int.tmod (wrap64 ((Int.tmod ((rd_T25 l0 x6_1).f0) 3) + 3)) 3))), .int .i64 ji24, .string (⟨#[]⟩ : ByteArray)] 25 (0, 0)) (by refine bk ?_; refine blk_put (cs := #[.int .i64 (wrap64 (1 + (Int.tmod (wrap64 ((Int.tmod ((rd_T25 l0 x6_1).f0) 3) + 3)) 3))), .int .i64 0, .string (⟨#[]⟩ : ByteArray)]) ?_ 1 _ rfl; refine bk ?_; refine blk_put (cs := #[.int .i64 (wrap64 (1 + (Int.tmod (wrap64 ((Int.tmod ((rd_T25 l0 x6_1).f0) 3) + 3)) 3))), .int .i64 0, .string (⟨#[]⟩ : ByteArray)]) ?_ 2 _ rfl; refine bk ?_; refine blk_put (cs := #[.int .i64 (wrap64 (1 + (Int.tmod (wrap64 ((Int.tmod ((rd_T25 l0 x6_1).f0) 3) + 3)) 3))), .int .i64 0, .string (⟨#[]⟩ : ByteArray)]) ?_ 1 _ rfl; refine bk ?_; refine blk_put (cs := #[.int .i64 0, .int .i64 0, .string (⟨#[]⟩ : ByteArray)]) ?_ 0 _ rfl; refine bk ?_; exact BK225.out) k_ hk)); (case aO => exact (by refine kR ?_; exact Kd.R_mono (Kd.R_far (p := ⟨gb225, 1, none⟩) (Kd.R_far (p := ⟨gb225, 2, none⟩) (Kd.R_far (p := ⟨gb225, 1, none⟩) (Kd.R_far (p := ⟨gb225, 0, none⟩) (Kd.R_mono HO_5.out (fun k_ hk => (⟨hk, hk.2⟩ : _ ∧ k_ ≠ gb225))) (fun _ hk => hk.2) (.int .i64 (wrap64 (1 + (Int.tmod (wrap64 ((Int.tmod ((rd_T25 l0 x6_1).f0) 3) + 3)) 3))))) (fun _ hk => hk.2) (.int .i64 0)) (fun _ hk => hk.2) (.string (⟨#[]⟩ : ByteArray))) (fun _ hk => hk.2) (.int .i64 ji24)) (fun _ hk => hk.1.2))); (case aS => exact (below_size bl)); (case aL => have := LMc25.out; omega); intro v234 w28 ho hb hg hat; rw [← Ny233.out] at ho; have n0_ := am (blk_grown (g := gb225) (o := .cells #[.int .i64 (wrap64 (1 + (Int.tmod (wrap64 ((Int.tmod ((rd_T25 l0 x6_1).f0) 3) + 3)) 3))), .int .i64 ji24, .string (⟨#[]⟩ : ByteArray)] 25 (0, 0)) (by refine bk ?_; refine blk_put (cs := #[.int .i64 (wrap64 (1 + (Int.tmod (wrap64 ((Int.tmod ((rd_T25 l0 x6_1).f0) 3) + 3)) 3))), .int .i64 0, .string (⟨#[]⟩ : ByteArray)]) ?_ 1 _ rfl; refine bk ?_; refine blk_put (cs := #[.int .i64 (wrap64 (1 + (Int.tmod (wrap64 ((Int.tmod ((rd_T25 l0 x6_1).f0) 3) + 3)) 3))), .int .i64 0, .string (⟨#[]⟩ : ByteArray)]) ?_ 2 _ rfl; refine bk ?_; refine blk_put (cs := #[.int .i64 (wrap64 (1 + (Int.tmod (wrap64 ((Int.tmod ((rd_T25 l0 x6_1).f0) 3) + 3)) 3))), .int .i64 0, .string (⟨#[]⟩ : ByteArray)]) ?_ 1 _ rfl; refine bk ?_; refine blk_put (cs := #[.int .i64 0, .int .i64 0, .string (⟨#[]⟩ : ByteArray)]) ?_ 0 _ rfl; refine bk ?_; exact BK225.out) hg (Kd.R_away HO_5.out (fun _ hk => hk.2))); have n1_ := am (hb); have n2_ := am (ho); clear BK225; clear HB; clear HO_5; have BK225 := n0_; have HB := n1_; have HO235 := n2_; clear n0_ n1_ n2_; clear ho hb hg hat))
          go_roundg kj4
          case measure => have := HK1.out; have := HJ4.out; omega
          case rel => exact ⟨(wrap64 (x1_1 - (ji24))), (y233), (wrap64 (x6_1 + 1)), (by first | rfl | (simp; done) | (simp only [← hji24] <;> (first | rfl | simp)) | (simp [*]; done)), pj, H', ⟨by have := HK1.out; have := HJ4.out; omega⟩, ⟨by refine kR ?_; exact Kd.R_mono HO235.out (fun _ hk => trivial)⟩, ⟨bl⟩⟩
         ·rw [if_neg c25] at H
          exact absurd H (by simp)
       ·rw [if_neg c9] at H
        exact absurd H (by simp)
      ·rw [if_neg c8] at H
       exact absurd H (by simp)
     ·replace c7 := Bool.eq_false_iff.mpr c7
      subst c7
      have H1 : (if x1_1 > 0 then (if x5_1.length < 4398046511104 then (some (x5_1 ++ [(⟨1, x1_1, (⟨#[]⟩ : ByteArray)⟩ : S25)])) else (none)) else (some x5_1)) = some r := by rw [if_neg (show ¬ (false = true) by decide)] at H; exact H
      clear H
      have H := H1
      clear H1
      by_cases c29 : x1_1 > 0
      ·rw [if_pos c29] at H
       have c29b0 : decide (0 < x1_1) = true := decide_eq_true c29
       clear c29
       by_cases c30 : x5_1.length < 4398046511104
       ·rw [if_pos c30] at H
        have LMc30 := am c30
        clear c30
        obtain ⟨y236, hy236⟩ : ∃ y_ : List (S25), y_ = (x5_1 ++ [(⟨1, x1_1, (⟨#[]⟩ : ByteArray)⟩ : S25)]) := ⟨_, rfl⟩
        replace H : (some y236) = some r := by first | (rw [hy236]; with_reducible exact H) | (have H2_ := (Option.bind_some _ _).symm.trans H; rw [hy236]; with_reducible exact H2_) | (have H2_ := (Option.bind_some _ _).symm.trans H; with_reducible exact H2_) | with_reducible exact H | (rw [hy236]; exact H) | exact H
        have Ny236 := am hy236
        clear hy236
        obtain rfl := Option.some.inj H
        simp only [Option.some.injEq, Prod.mk.injEq] at H
        obtain ⟨rfl⟩ := H
        go_wp2_with (first | ((with_reducible refine gate_builtin (b := .append) (xs := #[.tmp 68, .tmp 71]) rfl ?_); at_builtin; refine Kd.R_append k25 (w0 := w) w.heap.size rfl (.tmp 68) (.tmp 71) 27 25 (.agg #[(.int .i64 0), (.int .i64 0), (.string ⟨#[]⟩)]) 32 rfl Tryd.underlying27 info25 rfl (by decide) (by omega) u5 x5_1 (⟨1, x1_1, (⟨#[]⟩ : ByteArray)⟩ : S25) [.int .i64 1, .int .i64 x1_1, .string (⟨#[]⟩ : ByteArray)] (fun _ => True) (fun _ => False) rfl rfl ?aP (fun _ hk => hk.elim) ?aF ?aO ?aB ?aS ?aL ?_; (case aP => exact k25_mkM _ _ _ (⟨1, x1_1, (⟨#[]⟩ : ByteArray)⟩ : S25)); (case aB => exact bl); (case aF => exact (fun _ _ => trivial)); (case aO => exact (by refine kR ?_; exact HO_5.out)); (case aS => exact (below_size bl)); (case aL => have := LMc30.out; omega); intro v237 w31 ho hb hg hat; rw [← Ny236.out] at ho; have n0_ := am (hb); have n1_ := am (ho); clear HB; clear HO_5; have HB := n0_; have HO238 := n1_; clear n0_ n1_; clear ho hb hg hat))
        go_ret
        exact ⟨_, by first | rfl | (simp [errW_none, errW_some] <;> rfl) | (simp [*, errW_none, errW_some] <;> rfl), by refine kR ?_; exact HO238.out, bl⟩
       ·rw [if_neg c30] at H
        exact absurd H (by simp)
      ·rw [if_neg c29] at H
       have c29b0 : decide (0 < x1_1) = false := decide_eq_false c29
       clear c29
       obtain rfl := Option.some.inj H
       simp only [Option.some.injEq, Prod.mk.injEq] at H
       obtain ⟨rfl⟩ := H
       go_wp2
       go_ret
       exact ⟨_, by first | rfl | (simp [errW_none, errW_some] <;> rfl) | (simp [*, errW_none, errW_some] <;> rfl), by refine kR ?_; exact HO_5.out, bl⟩
end Go.Proofs.YtegjegihcebimaaDoor.P
end
