/- Part 2 of the proof of topLeast_holds: out of the texts that this session's programs wrote, what the theorem reaches. -/
import Derived.Test.YtegjegihcebimaaDoorZ0
import Derived.Test.YtegjegihcebimaaDoorZ1
section
namespace Go.Proofs.YtegjegihcebimaaDoor.P
open Go.RowKit Go.Proofs.YtegjegihcebimaaDoorW.PrintWords Go.Proofs.YtegjegihcebimaaDoorW.PrintLast Go.Proofs.YtegjegihcebimaaDoorW.PrintMore
attribute [local go_sem] max2_int min2_int max_two min_two max_three min_three max_four min_four
set_option linter.unusedVariables false
set_option linter.unusedSimpArgs false
def epitometop_shown.f (k : Nat)  : Option (Bool) := (epitometop_row.f k (⟨#[107, 50, 120, 49, 107, 49]⟩ : ByteArray)).bind fun t140 => ((epitometop_row.f k (⟨#[107, 49, 100, 49, 107, 50]⟩ : ByteArray)).bind fun t143 => ((fuse_Of.f k 3 (([t140, t143] : List (List (S25))))).bind fun bt149 => ((epitometop_row.f k (⟨#[107, 49, 100, 49, 107, 49]⟩ : ByteArray)).bind fun t153 => ((epitometop_row.f k (⟨#[107, 49, 120, 49, 107, 49]⟩ : ByteArray)).bind fun t156 => ((fuse_Of.f k 3 (([t153, t156] : List (List (S25))))).bind fun bt162 => ((epitometop_row.f k (⟨#[107, 49, 121, 49, 107, 50]⟩ : ByteArray)).bind fun t166 => ((over_Of.f k t166 bt149.1).bind fun bt169 => ((epitometop_row.f k (⟨#[107, 49, 121, 49, 107, 50]⟩ : ByteArray)).bind fun t173 => ((over_Of.f k t173 bt162.1).bind fun bt176 => (if bt149.2 = 0 then (if bt162.2 = 0 then (if bt169.2 = 0 then (if bt176.2 = 0 then ((epitometop_row.f k (⟨#[107, 49, 121, 49, 107, 50]⟩ : ByteArray)).bind fun t180 => ((epitomeref04_Same.f k bt169.1 t180).bind fun t183 => (if t183 = true then ((epitometop_row.f k (⟨#[107, 50, 121, 49, 107, 49]⟩ : ByteArray)).bind fun t184 => ((epitomeref04_Same.f k bt176.1 t184).bind fun t187 => (some t187))) else (some false)))) else (some false)) else (some false)) else (some false)) else (some false)))))))))))
theorem epitometop_shown.mono : ∀ k, LeO (epitometop_shown.f k ) (epitometop_shown.f (k + 1) ) := by
 intro  k
 unfold epitometop_shown.f
 repeat' first
   | (with_reducible exact epitomeref04_Same.mono _ _ _)
   | (with_reducible exact epitometop_row.mono _ _)
   | (with_reducible exact fuse_Of.mono _ _ _)
   | (with_reducible exact over_Of.mono _ _ _)
   | (with_reducible exact LeO.refl _)
   | (with_reducible exact LeO.none _)
   | (with_reducible refine LeO.ite ?_ ?_)
   | (with_reducible refine LeO.bind ?_ (fun _ => ?_))
   | exact epitomeref04_Same.mono _ _ _
   | exact epitometop_row.mono _ _
   | exact fuse_Of.mono _ _ _
   | exact over_Of.mono _ _ _
   | exact LeO.none _
   | refine LeO.ite ?_ ?_
   | refine LeO.bind ?_ (fun _ => ?_)
set_option maxHeartbeats 8000000 in
set_option maxRecDepth 100000 in
theorem epitometop_shown.calls (k : Nat)  (r : Bool) (w : World) (hT : Tabs w) (h : epitometop_shown.f k  = some r) (hlaw : r = true) :
  Calls Tryd.prog 8 #[] w fun e w' => e = .returned (.bool r) ∧ Below w.heap.size w w' := by
 have HLAW := am hlaw
 clear hlaw
 have HT := am hT
 clear hT
 have HB := am (Below.refl w.heap.size w)
 have H : ((epitometop_row.f k (⟨#[107, 50, 120, 49, 107, 49]⟩ : ByteArray)).bind fun t140 => ((epitometop_row.f k (⟨#[107, 49, 100, 49, 107, 50]⟩ : ByteArray)).bind fun t143 => ((fuse_Of.f k 3 (([t140, t143] : List (List (S25))))).bind fun bt149 => ((epitometop_row.f k (⟨#[107, 49, 100, 49, 107, 49]⟩ : ByteArray)).bind fun t153 => ((epitometop_row.f k (⟨#[107, 49, 120, 49, 107, 49]⟩ : ByteArray)).bind fun t156 => ((fuse_Of.f k 3 (([t153, t156] : List (List (S25))))).bind fun bt162 => ((epitometop_row.f k (⟨#[107, 49, 121, 49, 107, 50]⟩ : ByteArray)).bind fun t166 => ((over_Of.f k t166 bt149.1).bind fun bt169 => ((epitometop_row.f k (⟨#[107, 49, 121, 49, 107, 50]⟩ : ByteArray)).bind fun t173 => ((over_Of.f k t173 bt162.1).bind fun bt176 => (if bt149.2 = 0 then (if bt162.2 = 0 then (if bt169.2 = 0 then (if bt176.2 = 0 then ((epitometop_row.f k (⟨#[107, 49, 121, 49, 107, 50]⟩ : ByteArray)).bind fun t180 => ((epitomeref04_Same.f k bt169.1 t180).bind fun t183 => (if t183 = true then ((epitometop_row.f k (⟨#[107, 50, 121, 49, 107, 49]⟩ : ByteArray)).bind fun t184 => ((epitomeref04_Same.f k bt176.1 t184).bind fun t187 => (some t187))) else (some false)))) else (some false)) else (some false)) else (some false)) else (some false)))))))))))) = some r := h
 clear h
 replace H := Option.bind_eq_some_iff.mp H
 obtain ⟨t140, A10, H⟩ := H
 try dsimp only at H
 have A1 := am A10
 clear A10
 replace H := Option.bind_eq_some_iff.mp H
 obtain ⟨t143, A20, H⟩ := H
 try dsimp only at H
 have A2 := am A20
 clear A20
 obtain ⟨y146, hy146⟩ : ∃ y_ : List (List (S25)), y_ = (([t140, t143] : List (List (S25)))) := ⟨_, rfl⟩
 replace H : ((fuse_Of.f k 3 y146).bind fun bt149 => ((epitometop_row.f k (⟨#[107, 49, 100, 49, 107, 49]⟩ : ByteArray)).bind fun t153 => ((epitometop_row.f k (⟨#[107, 49, 120, 49, 107, 49]⟩ : ByteArray)).bind fun t156 => ((fuse_Of.f k 3 (([t153, t156] : List (List (S25))))).bind fun bt162 => ((epitometop_row.f k (⟨#[107, 49, 121, 49, 107, 50]⟩ : ByteArray)).bind fun t166 => ((over_Of.f k t166 bt149.1).bind fun bt169 => ((epitometop_row.f k (⟨#[107, 49, 121, 49, 107, 50]⟩ : ByteArray)).bind fun t173 => ((over_Of.f k t173 bt162.1).bind fun bt176 => (if bt149.2 = 0 then (if bt162.2 = 0 then (if bt169.2 = 0 then (if bt176.2 = 0 then ((epitometop_row.f k (⟨#[107, 49, 121, 49, 107, 50]⟩ : ByteArray)).bind fun t180 => ((epitomeref04_Same.f k bt169.1 t180).bind fun t183 => (if t183 = true then ((epitometop_row.f k (⟨#[107, 50, 121, 49, 107, 49]⟩ : ByteArray)).bind fun t184 => ((epitomeref04_Same.f k bt176.1 t184).bind fun t187 => (some t187))) else (some false)))) else (some false)) else (some false)) else (some false)) else (some false)))))))))) = some r := by first | (rw [hy146]; with_reducible exact H) | (have H2_ := (Option.bind_some _ _).symm.trans H; rw [hy146]; with_reducible exact H2_) | (have H2_ := (Option.bind_some _ _).symm.trans H; with_reducible exact H2_) | with_reducible exact H | (rw [hy146]; exact H) | exact H
 have Ny146 := am hy146
 clear hy146
 replace H := Option.bind_eq_some_iff.mp H
 obtain ⟨⟨t149, t150⟩, A30, H⟩ := H
 try dsimp only at H
 have A3 := am A30
 clear A30
 replace H := Option.bind_eq_some_iff.mp H
 obtain ⟨t153, A40, H⟩ := H
 try dsimp only at H
 have A4 := am A40
 clear A40
 replace H := Option.bind_eq_some_iff.mp H
 obtain ⟨t156, A50, H⟩ := H
 try dsimp only at H
 have A5 := am A50
 clear A50
 obtain ⟨y159, hy159⟩ : ∃ y_ : List (List (S25)), y_ = (([t153, t156] : List (List (S25)))) := ⟨_, rfl⟩
 replace H : ((fuse_Of.f k 3 y159).bind fun bt162 => ((epitometop_row.f k (⟨#[107, 49, 121, 49, 107, 50]⟩ : ByteArray)).bind fun t166 => ((over_Of.f k t166 t149).bind fun bt169 => ((epitometop_row.f k (⟨#[107, 49, 121, 49, 107, 50]⟩ : ByteArray)).bind fun t173 => ((over_Of.f k t173 bt162.1).bind fun bt176 => (if t150 = 0 then (if bt162.2 = 0 then (if bt169.2 = 0 then (if bt176.2 = 0 then ((epitometop_row.f k (⟨#[107, 49, 121, 49, 107, 50]⟩ : ByteArray)).bind fun t180 => ((epitomeref04_Same.f k bt169.1 t180).bind fun t183 => (if t183 = true then ((epitometop_row.f k (⟨#[107, 50, 121, 49, 107, 49]⟩ : ByteArray)).bind fun t184 => ((epitomeref04_Same.f k bt176.1 t184).bind fun t187 => (some t187))) else (some false)))) else (some false)) else (some false)) else (some false)) else (some false))))))) = some r := by first | (rw [hy159]; with_reducible exact H) | (have H2_ := (Option.bind_some _ _).symm.trans H; rw [hy159]; with_reducible exact H2_) | (have H2_ := (Option.bind_some _ _).symm.trans H; with_reducible exact H2_) | with_reducible exact H | (rw [hy159]; exact H) | exact H
 have Ny159 := am hy159
 clear hy159
 replace H := Option.bind_eq_some_iff.mp H
 obtain ⟨⟨t162, t163⟩, A60, H⟩ := H
 try dsimp only at H
 have A6 := am A60
 clear A60
 replace H := Option.bind_eq_some_iff.mp H
 obtain ⟨t166, A70, H⟩ := H
 try dsimp only at H
 have A7 := am A70
 clear A70
 replace H := Option.bind_eq_some_iff.mp H
 obtain ⟨⟨t169, t170⟩, A80, H⟩ := H
 try dsimp only at H
 have A8 := am A80
 clear A80
 replace H := Option.bind_eq_some_iff.mp H
 obtain ⟨t173, A90, H⟩ := H
 try dsimp only at H
 have A9 := am A90
 clear A90
 replace H := Option.bind_eq_some_iff.mp H
 obtain ⟨⟨t176, t177⟩, A100, H⟩ := H
 try dsimp only at H
 have A10 := am A100
 clear A100
 by_cases c11 : t150 = 0
 ·rw [if_pos c11] at H
  have c11b0 : (t150 == 0) = true := beq_iff_eq.mpr c11
  have c11b1 : (t150 != 0) = false := bne_eq_false_iff_eq.mpr c11
  clear c11
  by_cases c12 : t163 = 0
  ·rw [if_pos c12] at H
   have c12b0 : (t163 == 0) = true := beq_iff_eq.mpr c12
   have c12b1 : (t163 != 0) = false := bne_eq_false_iff_eq.mpr c12
   clear c12
   by_cases c13 : t170 = 0
   ·rw [if_pos c13] at H
    have c13b0 : (t170 == 0) = true := beq_iff_eq.mpr c13
    have c13b1 : (t170 != 0) = false := bne_eq_false_iff_eq.mpr c13
    clear c13
    by_cases c14 : t177 = 0
    ·rw [if_pos c14] at H
     have c14b0 : (t177 == 0) = true := beq_iff_eq.mpr c14
     have c14b1 : (t177 != 0) = false := bne_eq_false_iff_eq.mpr c14
     clear c14
     replace H := Option.bind_eq_some_iff.mp H
     obtain ⟨t180, A150, H⟩ := H
     replace H : ((epitomeref04_Same.f k t169 t180).bind fun t183 => (if t183 = true then ((epitometop_row.f k (⟨#[107, 50, 121, 49, 107, 49]⟩ : ByteArray)).bind fun t184 => ((epitomeref04_Same.f k t176 t184).bind fun t187 => (some t187))) else (some false))) = some r := H
     have A15 := am A150
     clear A150
     replace H := Option.bind_eq_some_iff.mp H
     obtain ⟨t183, A160, H⟩ := H
     replace H : (if t183 = true then ((epitometop_row.f k (⟨#[107, 50, 121, 49, 107, 49]⟩ : ByteArray)).bind fun t184 => ((epitomeref04_Same.f k t176 t184).bind fun t187 => (some t187))) else (some false)) = some r := H
     have A16 := am A160
     clear A160
     by_cases c17 : t183 = true
     ·subst c17
      have H1 : ((epitometop_row.f k (⟨#[107, 50, 121, 49, 107, 49]⟩ : ByteArray)).bind fun t184 => ((epitomeref04_Same.f k t176 t184).bind fun t187 => (some t187))) = some r := by rw [if_pos rfl] at H; exact H
      clear H
      have H := H1
      clear H1
      replace H := Option.bind_eq_some_iff.mp H
      obtain ⟨t184, A180, H⟩ := H
      replace H : ((epitomeref04_Same.f k t176 t184).bind fun t187 => (some t187)) = some r := H
      have A18 := am A180
      clear A180
      replace H := Option.bind_eq_some_iff.mp H
      obtain ⟨t187, A190, H⟩ := H
      replace H : (some t187) = some r := H
      have A19 := am A190
      clear A190
      obtain rfl := Option.some.inj H
      simp only [Option.some.injEq, Prod.mk.injEq] at H
      obtain ⟨rfl⟩ := H
      go_enter Tryd.func8, Tryd.ntmps8
      go_wp2_with (first | ((with_reducible refine gate_callee (f := 39) rfl ?_); refine goesL_ (some 10) rfl rfl Tryd.func39 (by kernel_rfl) rfl #[.string (⟨#[107, 50, 120, 49, 107, 49]⟩ : ByteArray)] rfl ar ?_; (with_reducible refine (epitometop_row.calls k (⟨#[107, 50, 120, 49, 107, 49]⟩ : ByteArray) t140 _ A1.out).mono ?_); rintro e w20 ⟨v141, rfl, ho0, hb⟩; refine ⟨_, rfl, ?_⟩; have n0_ := am (Kd.R_lower ho0 (below_size bl)); have n1_ := am (below_step bl hb); clear HB; have HO142 := n0_; have HB := n1_; clear n0_ n1_; (try clear hb); (try clear hb2); (try clear hk); (try clear hi); (try clear ho0)) | ((with_reducible refine gate_callee (f := 39) rfl ?_); refine goesL_ (some 11) rfl rfl Tryd.func39 (by kernel_rfl) rfl #[.string (⟨#[107, 49, 100, 49, 107, 50]⟩ : ByteArray)] rfl ar ?_; (with_reducible refine (epitometop_row.calls k (⟨#[107, 49, 100, 49, 107, 50]⟩ : ByteArray) t143 _ A2.out).mono ?_); rintro e w21 ⟨v144, rfl, ho0, hb⟩; refine ⟨_, rfl, ?_⟩; have n0_ := am (Kd.R_elder' (by refine kR ?_; exact HO142.out) (Kd.R_base ho0) hb); have n1_ := am (Kd.R_lower (Kd.R_new' ho0 (Kd.R_lt (by refine kR ?_; exact HO142.out))) (below_size bl)); have n2_ := am (below_step bl hb); clear HO142; clear HB; have HO142 := n0_; have HO145 := n1_; have HB := n2_; clear n0_ n1_ n2_; (try clear hb); (try clear hb2); (try clear hk); (try clear hi); (try clear ho0); obtain ⟨Ao22, co22, eo22⟩ := Kd.R_slice HO142.out; subst eo22; obtain ⟨Ao23, co23, eo23⟩ := Kd.R_slice HO145.out; subst eo23) | ((with_reducible refine gate_dst (N := 12) rfl ?_); refine Kd.N_lit (Kd.slice 25 k25) _ 27 ?hg (N' := 12) ?hd (xs := ([t140, t143] : List (List (S25)))) (inner := [.slice Ao22 t140.length co22, .slice Ao23 t143.length co23]) (ok := (fun _ => True)) (okp := (fun _ => True)) ?hr ?hp (fun _ hk => hk) ((show ∀ k_, w21.heap.size ≤ k_ → (fun _ => True) k_ from fun k_ hk => trivial) _ (Nat.le_refl _)) (Below.refl _ _) (Nat.le_refl _) (by simp) ?_; (case hd => rfl); (case hg => rfl); (case hr => first | (go_simp; done) | (go_simp; rfl)); (case hp => exact (Reps.one (show Kd.FK (Kd.slice 25 k25) _ _ t140 [.slice Ao22 t140.length co22] from (Kd.FK_slice_mk (Kd.R_reads' (Kd.R_mono (ok' := (fun _ => True)) (HO142.out) (fun k_ hk => trivial))).2.1 (Kd.R_F (Kd.R_mono (ok' := (fun _ => True)) (HO142.out) (fun k_ hk => trivial))))) (Reps.one (show Kd.FK (Kd.slice 25 k25) _ _ t143 [.slice Ao23 t143.length co23] from (Kd.FK_slice_mk (Kd.R_reads' (Kd.R_mono (ok' := (fun _ => True)) (HO145.out) (fun k_ hk => trivial))).2.1 (Kd.R_F (Kd.R_mono (ok' := (fun _ => True)) (HO145.out) (fun k_ hk => trivial))))) (Reps.none _ _)))); intro v147 w24 ho25 hb hg_ hnew_; clear hg_ hnew_; (first | rw [← Ny146.out] at ho25 | (simp only [Int.reduceToNat] at ho25; rw [← Ny146.out] at ho25)); have n0_ := am (Kd.N_lower ho25 (below_size bl)); have n1_ := am (below_step bl hb); clear HB; clear HO142; clear HO145; have HO148 := n0_; have HB := n1_; clear n0_ n1_; clear hb ho25; obtain ⟨Ao26, co26, eo26⟩ := Kd.N_slice HO148.out; subst eo26) | ((with_reducible refine gate_callee (f := 11) rfl ?_); refine goesL_ (some 13) rfl rfl Tryd.func11 (by kernel_rfl) rfl #[.int .i64 3, .slice Ao26 y146.length co26] rfl ar ?_; (with_reducible refine (fuse_Of.calls k 3 _ _ y146 t149 t150 _ ?side1 ?side2 ?side3 A3.out).mono ?_); (case side1 => repeat (first | exact (Kd.N_reads' HO148.out).2.2 | (with_reducible refine Kd.C_alloc ?_ _) | (with_reducible refine Kd.C_drewN ?_ _) | (with_reducible refine Kd.C_drew ?_))); (case side2 => exact (Kd.N_reads' HO148.out).2.1); (case side3 => exact Tabs.below HT.out bl); rintro e w27 ⟨v151, rfl, ho0, hb⟩; refine ⟨_, rfl, ?_⟩; have n0_ := am (Kd.N_elder' (by (with_reducible repeat (first | apply Kd.N_alloc | apply Kd.N_drewN | apply Kd.N_drew)); exact HO148.out) (Kd.R_base ho0) hb); have n1_ := am (Kd.R_lower ho0 (below_size bl)); have n2_ := am (below_step bl hb); clear HO148; clear HB; have HO148 := n0_; have HO152 := n1_; have HB := n2_; clear n0_ n1_ n2_; (try clear hb); (try clear hb2); (try clear hk); (try clear hi); (try clear ho0)) | ((with_reducible refine gate_callee (f := 39) rfl ?_); refine goesL_ (some 17) rfl rfl Tryd.func39 (by kernel_rfl) rfl #[.string (⟨#[107, 49, 100, 49, 107, 49]⟩ : ByteArray)] rfl ar ?_; (with_reducible refine (epitometop_row.calls k (⟨#[107, 49, 100, 49, 107, 49]⟩ : ByteArray) t153 _ A4.out).mono ?_); rintro e w28 ⟨v154, rfl, ho0, hb⟩; refine ⟨_, rfl, ?_⟩; have n0_ := am (Kd.N_elder' (by (with_reducible repeat (first | apply Kd.N_alloc | apply Kd.N_drewN | apply Kd.N_drew)); exact HO148.out) (Kd.R_base ho0) hb); have n1_ := am (Kd.R_elder' (by refine kR ?_; exact HO152.out) (Kd.R_base ho0) hb); have n2_ := am (Kd.R_lower (Kd.R_new' ho0 (Kd.R_lt (by refine kR ?_; exact HO152.out))) (below_size bl)); have n3_ := am (below_step bl hb); clear HO148; clear HO152; clear HB; have HO148 := n0_; have HO152 := n1_; have HO155 := n2_; have HB := n3_; clear n0_ n1_ n2_ n3_; (try clear hb); (try clear hb2); (try clear hk); (try clear hi); (try clear ho0)) | ((with_reducible refine gate_callee (f := 39) rfl ?_); refine goesL_ (some 18) rfl rfl Tryd.func39 (by kernel_rfl) rfl #[.string (⟨#[107, 49, 120, 49, 107, 49]⟩ : ByteArray)] rfl ar ?_; (with_reducible refine (epitometop_row.calls k (⟨#[107, 49, 120, 49, 107, 49]⟩ : ByteArray) t156 _ A5.out).mono ?_); rintro e w29 ⟨v157, rfl, ho0, hb⟩; refine ⟨_, rfl, ?_⟩; have n0_ := am (Kd.N_elder' (by (with_reducible repeat (first | apply Kd.N_alloc | apply Kd.N_drewN | apply Kd.N_drew)); exact HO148.out) (Kd.R_base ho0) hb); have n1_ := am (Kd.R_elder' (by refine kR ?_; exact HO152.out) (Kd.R_base ho0) hb); have n2_ := am (Kd.R_elder' (by refine kR ?_; exact HO155.out) (Kd.R_base ho0) hb); have n3_ := am (Kd.R_lower (Kd.R_new' (Kd.R_new' ho0 (Kd.R_lt (by refine kR ?_; exact HO152.out))) (Kd.R_lt (by refine kR ?_; exact HO155.out))) (below_size bl)); have n4_ := am (below_step bl hb); clear HO148; clear HO152; clear HO155; clear HB; have HO148 := n0_; have HO152 := n1_; have HO155 := n2_; have HO158 := n3_; have HB := n4_; clear n0_ n1_ n2_ n3_ n4_; (try clear hb); (try clear hb2); (try clear hk); (try clear hi); (try clear ho0); obtain ⟨Ao30, co30, eo30⟩ := Kd.R_slice HO155.out; subst eo30; obtain ⟨Ao31, co31, eo31⟩ := Kd.R_slice HO158.out; subst eo31) | ((with_reducible refine gate_dst (N := 19) rfl ?_); refine Kd.N_lit (Kd.slice 25 k25) _ 27 ?hg (N' := 19) ?hd (xs := ([t153, t156] : List (List (S25)))) (inner := [.slice Ao30 t153.length co30, .slice Ao31 t156.length co31]) (ok := (fun k_ => some k_ ≠ (.slice Ao26 y146.length co26 : Value).ownBlock ∧ some k_ ≠ (v151 : Value).ownBlock)) (okp := (fun k_ => some k_ ≠ (.slice Ao26 y146.length co26 : Value).ownBlock ∧ some k_ ≠ (v151 : Value).ownBlock)) ?hr ?hp (fun _ hk => hk) ((show ∀ k_, w29.heap.size ≤ k_ → (fun k_ => some k_ ≠ (.slice Ao26 y146.length co26 : Value).ownBlock ∧ some k_ ≠ (v151 : Value).ownBlock) k_ from fun k_ hk => ⟨Kd.fresh' (Kd.N_lt (by (with_reducible repeat (first | apply Kd.N_alloc | apply Kd.N_drewN | apply Kd.N_drew)); exact HO148.out)) k_ hk, Kd.fresh' (Kd.R_lt (by refine kR ?_; exact HO152.out)) k_ hk⟩) _ (Nat.le_refl _)) (Below.refl _ _) (Nat.le_refl _) (by simp) ?_; (case hd => rfl); (case hg => rfl); (case hr => first | (go_simp; done) | (go_simp; rfl)); (case hp => exact (Reps.one (show Kd.FK (Kd.slice 25 k25) _ _ t153 [.slice Ao30 t153.length co30] from (Kd.FK_slice_mk (Kd.R_reads' (Kd.R_mono (ok' := (fun k_ => some k_ ≠ (.slice Ao26 y146.length co26 : Value).ownBlock ∧ some k_ ≠ (v151 : Value).ownBlock)) (Kd.R_apart' (HO155.out) (Kd.N_typed HO148.out) (by decide)) (fun k_ hk => ⟨hk.2, hk.1.1.2⟩))).2.1 (Kd.R_F (Kd.R_mono (ok' := (fun k_ => some k_ ≠ (.slice Ao26 y146.length co26 : Value).ownBlock ∧ some k_ ≠ (v151 : Value).ownBlock)) (Kd.R_apart' (HO155.out) (Kd.N_typed HO148.out) (by decide)) (fun k_ hk => ⟨hk.2, hk.1.1.2⟩))))) (Reps.one (show Kd.FK (Kd.slice 25 k25) _ _ t156 [.slice Ao31 t156.length co31] from (Kd.FK_slice_mk (Kd.R_reads' (Kd.R_mono (ok' := (fun k_ => some k_ ≠ (.slice Ao26 y146.length co26 : Value).ownBlock ∧ some k_ ≠ (v151 : Value).ownBlock)) (Kd.R_apart' (HO158.out) (Kd.N_typed HO148.out) (by decide)) (fun k_ hk => ⟨hk.2, hk.1.1.2⟩))).2.1 (Kd.R_F (Kd.R_mono (ok' := (fun k_ => some k_ ≠ (.slice Ao26 y146.length co26 : Value).ownBlock ∧ some k_ ≠ (v151 : Value).ownBlock)) (Kd.R_apart' (HO158.out) (Kd.N_typed HO148.out) (by decide)) (fun k_ hk => ⟨hk.2, hk.1.1.2⟩))))) (Reps.none _ _)))); intro v160 w32 ho33 hb hg_ hnew_; clear hg_ hnew_; (first | rw [← Ny159.out] at ho33 | (simp only [Int.reduceToNat] at ho33; rw [← Ny159.out] at ho33)); have n0_ := am (Kd.N_elder' (by (with_reducible repeat (first | apply Kd.N_alloc | apply Kd.N_drewN | apply Kd.N_drew)); exact HO148.out) (Kd.N_base ho33) hb); have n1_ := am (Kd.R_below (by refine kR ?_; exact HO152.out) hb); have n2_ := am (Kd.N_lower ho33 (below_size bl)); have n3_ := am (below_step bl hb); clear HO148; clear HO152; clear HB; clear HO155; clear HO158; have HO148 := n0_; have HO152 := n1_; have HO161 := n2_; have HB := n3_; clear n0_ n1_ n2_ n3_; clear hb ho33; obtain ⟨Ao34, co34, eo34⟩ := Kd.N_slice HO161.out; subst eo34) | ((with_reducible refine gate_callee (f := 11) rfl ?_); refine goesL_ (some 20) rfl rfl Tryd.func11 (by kernel_rfl) rfl #[.int .i64 3, .slice Ao34 y159.length co34] rfl ar ?_; (with_reducible refine (fuse_Of.calls k 3 _ _ y159 t162 t163 _ ?side1 ?side2 ?side3 A6.out).mono ?_); (case side1 => repeat (first | exact (Kd.N_reads' HO161.out).2.2 | (with_reducible refine Kd.C_alloc ?_ _) | (with_reducible refine Kd.C_drewN ?_ _) | (with_reducible refine Kd.C_drew ?_))); (case side2 => exact (Kd.N_reads' HO161.out).2.1); (case side3 => exact Tabs.below HT.out bl); rintro e w35 ⟨v164, rfl, ho0, hb⟩; refine ⟨_, rfl, ?_⟩; have n0_ := am (Kd.N_elder' (by (with_reducible repeat (first | apply Kd.N_alloc | apply Kd.N_drewN | apply Kd.N_drew)); exact HO148.out) (Kd.R_base ho0) hb); have n1_ := am (Kd.R_elder' (by refine kR ?_; exact HO152.out) (Kd.R_base ho0) hb); have n2_ := am (Kd.N_elder' (by (with_reducible repeat (first | apply Kd.N_alloc | apply Kd.N_drewN | apply Kd.N_drew)); exact HO161.out) (Kd.R_base ho0) hb); have n3_ := am (Kd.R_lower (Kd.R_new' ho0 (Kd.R_lt (by refine kR ?_; exact HO152.out))) (below_size bl)); have n4_ := am (below_step bl hb); clear HO148; clear HO152; clear HO161; clear HB; have HO148 := n0_; have HO152 := n1_; have HO161 := n2_; have HO165 := n3_; have HB := n4_; clear n0_ n1_ n2_ n3_ n4_; (try clear hb); (try clear hb2); (try clear hk); (try clear hi); (try clear ho0)) | ((with_reducible refine gate_callee (f := 39) rfl ?_); refine goesL_ (some 24) rfl rfl Tryd.func39 (by kernel_rfl) rfl #[.string (⟨#[107, 49, 121, 49, 107, 50]⟩ : ByteArray)] rfl ar ?_; (with_reducible refine (epitometop_row.calls k (⟨#[107, 49, 121, 49, 107, 50]⟩ : ByteArray) t166 _ A7.out).mono ?_); rintro e w36 ⟨v167, rfl, ho0, hb⟩; refine ⟨_, rfl, ?_⟩; have n0_ := am (Kd.N_elder' (by (with_reducible repeat (first | apply Kd.N_alloc | apply Kd.N_drewN | apply Kd.N_drew)); exact HO148.out) (Kd.R_base ho0) hb); have n1_ := am (Kd.R_elder' (by refine kR ?_; exact HO152.out) (Kd.R_base ho0) hb); have n2_ := am (Kd.N_elder' (by (with_reducible repeat (first | apply Kd.N_alloc | apply Kd.N_drewN | apply Kd.N_drew)); exact HO161.out) (Kd.R_base ho0) hb); have n3_ := am (Kd.R_elder' (by refine kR ?_; exact HO165.out) (Kd.R_base ho0) hb); have n4_ := am (Kd.R_lower (Kd.R_new' (Kd.R_new' ho0 (Kd.R_lt (by refine kR ?_; exact HO152.out))) (Kd.R_lt (by refine kR ?_; exact HO165.out))) (below_size bl)); have n5_ := am (below_step bl hb); clear HO148; clear HO152; clear HO161; clear HO165; clear HB; have HO148 := n0_; have HO152 := n1_; have HO161 := n2_; have HO165 := n3_; have HO168 := n4_; have HB := n5_; clear n0_ n1_ n2_ n3_ n4_ n5_; (try clear hb); (try clear hb2); (try clear hk); (try clear hi); (try clear ho0); obtain ⟨Ao37, co37, eo37⟩ := Kd.R_slice HO168.out; subst eo37; obtain ⟨Ao38, co38, eo38⟩ := Kd.R_slice HO152.out; subst eo38) | ((with_reducible refine gate_callee (f := 13) rfl ?_); refine goesL_ (some 26) rfl rfl Tryd.func13 (by kernel_rfl) rfl #[.slice Ao37 t166.length co37, .slice Ao38 t149.length co38] rfl ar ?_; (with_reducible refine (over_Of.calls k _ _ t166 _ _ t149 t169 t170 _ ?side1 ?side2 ?side3 ?side4 ?side5 A8.out).mono ?_); (case side1 => repeat (first | exact (Kd.R_reads' HO168.out).2.2 | (with_reducible refine Kd.C_alloc ?_ _) | (with_reducible refine Kd.C_drewN ?_ _) | (with_reducible refine Kd.C_drew ?_))); (case side2 => exact (Kd.R_reads' HO168.out).2.1); (case side3 => repeat (first | exact (Kd.R_reads' HO152.out).2.2 | (with_reducible refine Kd.C_alloc ?_ _) | (with_reducible refine Kd.C_drewN ?_ _) | (with_reducible refine Kd.C_drew ?_))); (case side4 => exact (Kd.R_reads' HO152.out).2.1); (case side5 => exact Tabs.below HT.out bl); rintro e w39 ⟨v171, rfl, ho0, hb⟩; refine ⟨_, rfl, ?_⟩; have n0_ := am (Kd.N_elder' (by (with_reducible repeat (first | apply Kd.N_alloc | apply Kd.N_drewN | apply Kd.N_drew)); exact HO148.out) (Kd.R_base ho0) hb); have n1_ := am (Kd.R_elder' (by refine kR ?_; exact HO152.out) (Kd.R_base ho0) hb); have n2_ := am (Kd.N_elder' (by (with_reducible repeat (first | apply Kd.N_alloc | apply Kd.N_drewN | apply Kd.N_drew)); exact HO161.out) (Kd.R_base ho0) hb); have n3_ := am (Kd.R_elder' (by refine kR ?_; exact HO165.out) (Kd.R_base ho0) hb); have n4_ := am (Kd.R_elder' (by refine kR ?_; exact HO168.out) (Kd.R_base ho0) hb); have n5_ := am (Kd.R_lower (Kd.R_new' (Kd.R_new' (Kd.R_new' ho0 (Kd.R_lt (by refine kR ?_; exact HO152.out))) (Kd.R_lt (by refine kR ?_; exact HO165.out))) (Kd.R_lt (by refine kR ?_; exact HO168.out))) (below_size bl)); have n6_ := am (below_step bl hb); clear HO148; clear HO152; clear HO161; clear HO165; clear HO168; clear HB; have HO148 := n0_; have HO152 := n1_; have HO161 := n2_; have HO165 := n3_; have HO168 := n4_; have HO172 := n5_; have HB := n6_; clear n0_ n1_ n2_ n3_ n4_ n5_ n6_; (try clear hb); (try clear hb2); (try clear hk); (try clear hi); (try clear ho0)) | ((with_reducible refine gate_callee (f := 39) rfl ?_); refine goesL_ (some 30) rfl rfl Tryd.func39 (by kernel_rfl) rfl #[.string (⟨#[107, 49, 121, 49, 107, 50]⟩ : ByteArray)] rfl ar ?_; (with_reducible refine (epitometop_row.calls k (⟨#[107, 49, 121, 49, 107, 50]⟩ : ByteArray) t173 _ A9.out).mono ?_); rintro e w40 ⟨v174, rfl, ho0, hb⟩; refine ⟨_, rfl, ?_⟩; have n0_ := am (Kd.N_elder' (by (with_reducible repeat (first | apply Kd.N_alloc | apply Kd.N_drewN | apply Kd.N_drew)); exact HO148.out) (Kd.R_base ho0) hb); have n1_ := am (Kd.R_elder' (by refine kR ?_; exact HO152.out) (Kd.R_base ho0) hb); have n2_ := am (Kd.N_elder' (by (with_reducible repeat (first | apply Kd.N_alloc | apply Kd.N_drewN | apply Kd.N_drew)); exact HO161.out) (Kd.R_base ho0) hb); have n3_ := am (Kd.R_elder' (by refine kR ?_; exact HO165.out) (Kd.R_base ho0) hb); have n4_ := am (Kd.R_elder' (by refine kR ?_; exact HO168.out) (Kd.R_base ho0) hb); have n5_ := am (Kd.R_elder' (by refine kR ?_; exact HO172.out) (Kd.R_base ho0) hb); have n6_ := am (Kd.R_lower (Kd.R_new' (Kd.R_new' (Kd.R_new' (Kd.R_new' ho0 (Kd.R_lt (by refine kR ?_; exact HO152.out))) (Kd.R_lt (by refine kR ?_; exact HO165.out))) (Kd.R_lt (by refine kR ?_; exact HO168.out))) (Kd.R_lt (by refine kR ?_; exact HO172.out))) (below_size bl)); have n7_ := am (below_step bl hb); clear HO148; clear HO152; clear HO161; clear HO165; clear HO168; clear HO172; clear HB; have HO148 := n0_; have HO152 := n1_; have HO161 := n2_; have HO165 := n3_; have HO168 := n4_; have HO172 := n5_; have HO175 := n6_; have HB := n7_; clear n0_ n1_ n2_ n3_ n4_ n5_ n6_ n7_; (try clear hb); (try clear hb2); (try clear hk); (try clear hi); (try clear ho0); obtain ⟨Ao41, co41, eo41⟩ := Kd.R_slice HO175.out; subst eo41; obtain ⟨Ao42, co42, eo42⟩ := Kd.R_slice HO165.out; subst eo42) | ((with_reducible refine gate_callee (f := 13) rfl ?_); refine goesL_ (some 32) rfl rfl Tryd.func13 (by kernel_rfl) rfl #[.slice Ao41 t173.length co41, .slice Ao42 t162.length co42] rfl ar ?_; (with_reducible refine (over_Of.calls k _ _ t173 _ _ t162 t176 t177 _ ?side1 ?side2 ?side3 ?side4 ?side5 A10.out).mono ?_); (case side1 => repeat (first | exact (Kd.R_reads' HO175.out).2.2 | (with_reducible refine Kd.C_alloc ?_ _) | (with_reducible refine Kd.C_drewN ?_ _) | (with_reducible refine Kd.C_drew ?_))); (case side2 => exact (Kd.R_reads' HO175.out).2.1); (case side3 => repeat (first | exact (Kd.R_reads' HO165.out).2.2 | (with_reducible refine Kd.C_alloc ?_ _) | (with_reducible refine Kd.C_drewN ?_ _) | (with_reducible refine Kd.C_drew ?_))); (case side4 => exact (Kd.R_reads' HO165.out).2.1); (case side5 => exact Tabs.below HT.out bl); rintro e w43 ⟨v178, rfl, ho0, hb⟩; refine ⟨_, rfl, ?_⟩; have n0_ := am (Kd.N_elder' (by (with_reducible repeat (first | apply Kd.N_alloc | apply Kd.N_drewN | apply Kd.N_drew)); exact HO148.out) (Kd.R_base ho0) hb); have n1_ := am (Kd.R_elder' (by refine kR ?_; exact HO152.out) (Kd.R_base ho0) hb); have n2_ := am (Kd.N_elder' (by (with_reducible repeat (first | apply Kd.N_alloc | apply Kd.N_drewN | apply Kd.N_drew)); exact HO161.out) (Kd.R_base ho0) hb); have n3_ := am (Kd.R_elder' (by refine kR ?_; exact HO165.out) (Kd.R_base ho0) hb); have n4_ := am (Kd.R_elder' (by refine kR ?_; exact HO168.out) (Kd.R_base ho0) hb); have n5_ := am (Kd.R_elder' (by refine kR ?_; exact HO172.out) (Kd.R_base ho0) hb); have n6_ := am (Kd.R_elder' (by refine kR ?_; exact HO175.out) (Kd.R_base ho0) hb); have n7_ := am (Kd.R_lower (Kd.R_new' (Kd.R_new' (Kd.R_new' (Kd.R_new' (Kd.R_new' ho0 (Kd.R_lt (by refine kR ?_; exact HO152.out))) (Kd.R_lt (by refine kR ?_; exact HO165.out))) (Kd.R_lt (by refine kR ?_; exact HO168.out))) (Kd.R_lt (by refine kR ?_; exact HO172.out))) (Kd.R_lt (by refine kR ?_; exact HO175.out))) (below_size bl)); have n8_ := am (below_step bl hb); clear HO148; clear HO152; clear HO161; clear HO165; clear HO168; clear HO172; clear HO175; clear HB; have HO148 := n0_; have HO152 := n1_; have HO161 := n2_; have HO165 := n3_; have HO168 := n4_; have HO172 := n5_; have HO175 := n6_; have HO179 := n7_; have HB := n8_; clear n0_ n1_ n2_ n3_ n4_ n5_ n6_ n7_ n8_; (try clear hb); (try clear hb2); (try clear hk); (try clear hi); (try clear ho0)) | (go_at_call 39; (with_reducible refine (epitometop_row.calls k (⟨#[107, 49, 121, 49, 107, 50]⟩ : ByteArray) t180 _ A15.out).mono ?_); rintro e w44 ⟨v181, rfl, ho0, hb⟩; have n0_ := am (Kd.N_elder' (by (with_reducible repeat (first | apply Kd.N_alloc | apply Kd.N_drewN | apply Kd.N_drew)); exact HO148.out) (Kd.R_base ho0) hb); have n1_ := am (Kd.R_elder' (by refine kR ?_; exact HO152.out) (Kd.R_base ho0) hb); have n2_ := am (Kd.N_elder' (by (with_reducible repeat (first | apply Kd.N_alloc | apply Kd.N_drewN | apply Kd.N_drew)); exact HO161.out) (Kd.R_base ho0) hb); have n3_ := am (Kd.R_elder' (by refine kR ?_; exact HO165.out) (Kd.R_base ho0) hb); have n4_ := am (Kd.R_elder' (by refine kR ?_; exact HO168.out) (Kd.R_base ho0) hb); have n5_ := am (Kd.R_elder' (by refine kR ?_; exact HO172.out) (Kd.R_base ho0) hb); have n6_ := am (Kd.R_elder' (by refine kR ?_; exact HO175.out) (Kd.R_base ho0) hb); have n7_ := am (Kd.R_elder' (by refine kR ?_; exact HO179.out) (Kd.R_base ho0) hb); have n8_ := am (Kd.R_lower (Kd.R_new' (Kd.R_new' (Kd.R_new' (Kd.R_new' (Kd.R_new' (Kd.R_new' ho0 (Kd.R_lt (by refine kR ?_; exact HO152.out))) (Kd.R_lt (by refine kR ?_; exact HO165.out))) (Kd.R_lt (by refine kR ?_; exact HO168.out))) (Kd.R_lt (by refine kR ?_; exact HO172.out))) (Kd.R_lt (by refine kR ?_; exact HO175.out))) (Kd.R_lt (by refine kR ?_; exact HO179.out))) (below_size bl)); have n9_ := am (below_step bl hb); clear HO148; clear HO152; clear HO161; clear HO165; clear HO168; clear HO172; clear HO175; clear HO179; clear HB; have HO148 := n0_; have HO152 := n1_; have HO161 := n2_; have HO165 := n3_; have HO168 := n4_; have HO172 := n5_; have HO175 := n6_; have HO179 := n7_; have HO182 := n8_; have HB := n9_; clear n0_ n1_ n2_ n3_ n4_ n5_ n6_ n7_ n8_ n9_; (try clear hb); (try clear hb2); (try clear hk); (try clear hi); (try clear ho0); obtain ⟨Ao45, co45, eo45⟩ := Kd.R_slice HO172.out; subst eo45; obtain ⟨Ao46, co46, eo46⟩ := Kd.R_slice HO182.out; subst eo46) | (go_at_call 15; (with_reducible refine (epitomeref04_Same.calls k _ _ t169 _ _ t180 true _ ?side1 ?side2 ?side3 ?side4 A16.out).mono ?_); (case side1 => repeat (first | exact (Kd.R_reads' HO172.out).2.2 | (with_reducible refine Kd.C_alloc ?_ _) | (with_reducible refine Kd.C_drewN ?_ _) | (with_reducible refine Kd.C_drew ?_))); (case side2 => exact (Kd.R_reads' HO172.out).2.1); (case side3 => repeat (first | exact (Kd.R_reads' HO182.out).2.2 | (with_reducible refine Kd.C_alloc ?_ _) | (with_reducible refine Kd.C_drewN ?_ _) | (with_reducible refine Kd.C_drew ?_))); (case side4 => exact (Kd.R_reads' HO182.out).2.1); rintro e w' ⟨rfl, ⟨nd, rfl⟩⟩) | (go_at_call 39; (with_reducible refine (epitometop_row.calls k (⟨#[107, 50, 121, 49, 107, 49]⟩ : ByteArray) t184 _ A18.out).mono ?_); rintro e w47 ⟨v185, rfl, ho0, hb⟩; have n0_ := am (Kd.N_elder' (by (with_reducible repeat (first | apply Kd.N_alloc | apply Kd.N_drewN | apply Kd.N_drew)); exact HO148.out) (Kd.R_base ho0) hb); have n1_ := am (Kd.R_elder' (by refine kR ?_; exact HO152.out) (Kd.R_base ho0) hb); have n2_ := am (Kd.N_elder' (by (with_reducible repeat (first | apply Kd.N_alloc | apply Kd.N_drewN | apply Kd.N_drew)); exact HO161.out) (Kd.R_base ho0) hb); have n3_ := am (Kd.R_elder' (by refine kR ?_; exact HO165.out) (Kd.R_base ho0) hb); have n4_ := am (Kd.R_elder' (by refine kR ?_; exact HO168.out) (Kd.R_base ho0) hb); have n5_ := am (Kd.R_elder' (by refine kR ?_; exact HO172.out) (Kd.R_base ho0) hb); have n6_ := am (Kd.R_elder' (by refine kR ?_; exact HO175.out) (Kd.R_base ho0) hb); have n7_ := am (Kd.R_elder' (by refine kR ?_; exact HO179.out) (Kd.R_base ho0) hb); have n8_ := am (Kd.R_elder' (by refine kR ?_; exact HO182.out) (Kd.R_base ho0) hb); have n9_ := am (Kd.R_lower (Kd.R_new' (Kd.R_new' (Kd.R_new' (Kd.R_new' (Kd.R_new' (Kd.R_new' (Kd.R_new' ho0 (Kd.R_lt (by refine kR ?_; exact HO152.out))) (Kd.R_lt (by refine kR ?_; exact HO165.out))) (Kd.R_lt (by refine kR ?_; exact HO168.out))) (Kd.R_lt (by refine kR ?_; exact HO172.out))) (Kd.R_lt (by refine kR ?_; exact HO175.out))) (Kd.R_lt (by refine kR ?_; exact HO179.out))) (Kd.R_lt (by refine kR ?_; exact HO182.out))) (below_size bl)); have n10_ := am (below_step bl hb); clear HO148; clear HO152; clear HO161; clear HO165; clear HO168; clear HO172; clear HO175; clear HO179; clear HO182; clear HB; have HO148 := n0_; have HO152 := n1_; have HO161 := n2_; have HO165 := n3_; have HO168 := n4_; have HO172 := n5_; have HO175 := n6_; have HO179 := n7_; have HO182 := n8_; have HO186 := n9_; have HB := n10_; clear n0_ n1_ n2_ n3_ n4_ n5_ n6_ n7_ n8_ n9_ n10_; (try clear hb); (try clear hb2); (try clear hk); (try clear hi); (try clear ho0); obtain ⟨Ao48, co48, eo48⟩ := Kd.R_slice HO179.out; subst eo48; obtain ⟨Ao49, co49, eo49⟩ := Kd.R_slice HO186.out; subst eo49) | (go_at_call 15; (with_reducible refine (epitomeref04_Same.calls k _ _ t176 _ _ t184 t187 _ ?side1 ?side2 ?side3 ?side4 A19.out).mono ?_); (case side1 => repeat (first | exact (Kd.R_reads' HO179.out).2.2 | (with_reducible refine Kd.C_alloc ?_ _) | (with_reducible refine Kd.C_drewN ?_ _) | (with_reducible refine Kd.C_drew ?_))); (case side2 => exact (Kd.R_reads' HO179.out).2.1); (case side3 => repeat (first | exact (Kd.R_reads' HO186.out).2.2 | (with_reducible refine Kd.C_alloc ?_ _) | (with_reducible refine Kd.C_drewN ?_ _) | (with_reducible refine Kd.C_drew ?_))); (case side4 => exact (Kd.R_reads' HO186.out).2.1); rintro e w' ⟨rfl, ⟨nd, rfl⟩⟩))
      go_ret
      exact ⟨by first | rfl | (simp [errW_none, errW_some] <;> rfl) | (simp [*, errW_none, errW_some] <;> rfl), bl⟩
     ·replace c17 := Bool.eq_false_iff.mpr c17
      subst c17
      have H1 : (some false) = some r := by rw [if_neg (show ¬ (false = true) by decide)] at H; exact H
      clear H
      have H := H1
      clear H1
      obtain rfl := Option.some.inj H
      exact absurd HLAW.out (by decide)
    ·rw [if_neg c14] at H
     have c14b0 : (t177 == 0) = false := beq_eq_false_iff_ne.mpr c14
     have c14b1 : (t177 != 0) = true := bne_iff_ne.mpr c14
     obtain rfl := Option.some.inj H
     exact absurd HLAW.out (by decide)
   ·rw [if_neg c13] at H
    have c13b0 : (t170 == 0) = false := beq_eq_false_iff_ne.mpr c13
    have c13b1 : (t170 != 0) = true := bne_iff_ne.mpr c13
    obtain rfl := Option.some.inj H
    exact absurd HLAW.out (by decide)
  ·rw [if_neg c12] at H
   have c12b0 : (t163 == 0) = false := beq_eq_false_iff_ne.mpr c12
   have c12b1 : (t163 != 0) = true := bne_iff_ne.mpr c12
   obtain rfl := Option.some.inj H
   exact absurd HLAW.out (by decide)
 ·rw [if_neg c11] at H
  have c11b0 : (t150 == 0) = false := beq_eq_false_iff_ne.mpr c11
  have c11b1 : (t150 != 0) = true := bne_iff_ne.mpr c11
  obtain rfl := Option.some.inj H
  exact absurd HLAW.out (by decide)
def epitomeref01_size.j0 : Nat → Int → Bool → Option (Int)
 | 0, _, _ => none
 | k + 1, x0, x16 => if x16 = true then (some 0) else (if x0 < 128 then (some 1) else (if x0 < 2048 then (some 2) else (if x0 < 65536 then (some 3) else (some 4))))
def epitomeref01_size.f (k : Nat) (a0 : Int) : Option (Int) := if a0 < 0 then (epitomeref01_size.j0 k a0 true) else (if a0 > 1114111 then (epitomeref01_size.j0 k a0 true) else (if a0 ≥ 55296 then (epitomeref01_size.j0 k a0 (decide (a0 ≤ 57343))) else (epitomeref01_size.j0 k a0 false)))
set_option maxHeartbeats 8000000 in
set_option maxRecDepth 100000 in
theorem epitomeref01_size.calls (k : Nat) (a0 : Int) (r : Int) (w : World) (h : epitomeref01_size.f k a0 = some r) :
  Calls Tryd.prog 77 #[.int .i64 a0] w fun e w' => e = .returned (.int .i64 r) ∧ Drawn0 w w' := by
 have H : (if a0 < 0 then (epitomeref01_size.j0 k a0 true) else (if a0 > 1114111 then (epitomeref01_size.j0 k a0 true) else (if a0 ≥ 55296 then (epitomeref01_size.j0 k a0 (decide (a0 ≤ 57343))) else (epitomeref01_size.j0 k a0 false)))) = some r := h
 clear h
 have HC2 := am H
 clear H
 go_enter Tryd.func77, Tryd.ntmps77
 go_upto_region 1 with (fail)
 go_cut [16] (fun v16 wc => ∃ (kq : Nat) (x16_1 : Bool), v16 = .bool x16_1 ∧ Aside0 (epitomeref01_size.j0 kq a0 x16_1 = some r) ∧ Aside0 (kq ≤ k) ∧ Drawn0 w wc)
 case first =>
  have H := HC2.out
  clear HC2
  by_cases c3 : a0 < 0
  ·rw [if_pos c3] at H
   have c3b0 : decide (a0 < 0) = true := decide_eq_true c3
   clear c3
   (first | rw [c3b0] | (simp only [i64_w, i32_w]; rw [c3b0]) | skip)
   have H' := am H
   clear H
   go_wp2
   go_meet
   case rel => exact ⟨_, (true), pj, H', ⟨by first | omega | exact Nat.le_refl _⟩, by repeat (first | exact Drawn0.refl _ | apply Drawn0.step)⟩
  ·rw [if_neg c3] at H
   have c3b0 : decide (a0 < 0) = false := decide_eq_false c3
   clear c3
   (first | rw [c3b0] | (simp only [i64_w, i32_w]; rw [c3b0]) | skip)
   by_cases c4 : a0 > 1114111
   ·rw [if_pos c4] at H
    have c4b0 : decide (1114111 < a0) = true := decide_eq_true c4
    clear c4
    have H' := am H
    clear H
    go_wp2
    go_meet
    case rel => exact ⟨_, (true), pj, H', ⟨by first | omega | exact Nat.le_refl _⟩, by repeat (first | exact Drawn0.refl _ | apply Drawn0.step)⟩
   ·rw [if_neg c4] at H
    have c4b0 : decide (1114111 < a0) = false := decide_eq_false c4
    clear c4
    by_cases c5 : a0 ≥ 55296
    ·rw [if_pos c5] at H
     have c5b0 : decide (55296 ≤ a0) = true := decide_eq_true c5
     clear c5
     have H' := am H
     clear H
     go_wp2
     go_meet
     case rel => exact ⟨_, (decide (a0 ≤ 57343)), pj, H', ⟨by first | omega | exact Nat.le_refl _⟩, by repeat (first | exact Drawn0.refl _ | apply Drawn0.step)⟩
    ·rw [if_neg c5] at H
     have c5b0 : decide (55296 ≤ a0) = false := decide_eq_false c5
     clear c5
     have H' := am H
     clear H
     go_wp2
     go_meet
     case rel => exact ⟨_, (false), pj, H', ⟨by first | omega | exact Nat.le_refl _⟩, by repeat (first | exact Drawn0.refl _ | apply Drawn0.step)⟩
 case rest =>
  clear HC2
  try clear p2
  try clear c3
  try clear c3b0
  try clear c4
  try clear c4b0
  try clear c5
  try clear c5b0
  obtain ⟨kq, x16_1, rfl, HA, HJ1, ⟨mc1, rfl⟩⟩ := hcut
  cases kq with
  | zero => exact absurd HA.out (by simp [epitomeref01_size.j0])
  | succ kj1 =>
   have H := HA.out
   clear HA
   simp only [epitomeref01_size.j0] at H
   by_cases c6 : x16_1 = true
   ·subst c6
    have H1 : (some 0) = some r := by rw [if_pos rfl] at H; exact H
    clear H
    have H := H1
    clear H1
    obtain rfl := Option.some.inj H
    simp only [Option.some.injEq, Prod.mk.injEq] at H
    obtain ⟨rfl⟩ := H
    go_wp2
    go_ret
    exact ⟨pj, by repeat (first | exact Drawn0.refl _ | apply Drawn0.step)⟩
   ·replace c6 := Bool.eq_false_iff.mpr c6
    subst c6
    have H1 : (if a0 < 128 then (some 1) else (if a0 < 2048 then (some 2) else (if a0 < 65536 then (some 3) else (some 4)))) = some r := by rw [if_neg (show ¬ (false = true) by decide)] at H; exact H
    clear H
    have H := H1
    clear H1
    by_cases c7 : a0 < 128
    ·rw [if_pos c7] at H
     have c7b0 : decide (a0 < 128) = true := decide_eq_true c7
     clear c7
     obtain rfl := Option.some.inj H
     simp only [Option.some.injEq, Prod.mk.injEq] at H
     obtain ⟨rfl⟩ := H
     go_wp2
     go_ret
     exact ⟨pj, by repeat (first | exact Drawn0.refl _ | apply Drawn0.step)⟩
    ·rw [if_neg c7] at H
     have c7b0 : decide (a0 < 128) = false := decide_eq_false c7
     clear c7
     by_cases c8 : a0 < 2048
     ·rw [if_pos c8] at H
      have c8b0 : decide (a0 < 2048) = true := decide_eq_true c8
      clear c8
      obtain rfl := Option.some.inj H
      simp only [Option.some.injEq, Prod.mk.injEq] at H
      obtain ⟨rfl⟩ := H
      go_wp2
      go_ret
      exact ⟨pj, by repeat (first | exact Drawn0.refl _ | apply Drawn0.step)⟩
     ·rw [if_neg c8] at H
      have c8b0 : decide (a0 < 2048) = false := decide_eq_false c8
      clear c8
      by_cases c9 : a0 < 65536
      ·rw [if_pos c9] at H
       have c9b0 : decide (a0 < 65536) = true := decide_eq_true c9
       clear c9
       obtain rfl := Option.some.inj H
       simp only [Option.some.injEq, Prod.mk.injEq] at H
       obtain ⟨rfl⟩ := H
       go_wp2
       go_ret
       exact ⟨pj, by repeat (first | exact Drawn0.refl _ | apply Drawn0.step)⟩
      ·rw [if_neg c9] at H
       have c9b0 : decide (a0 < 65536) = false := decide_eq_false c9
       clear c9
       obtain rfl := Option.some.inj H
       simp only [Option.some.injEq, Prod.mk.injEq] at H
       obtain ⟨rfl⟩ := H
       go_wp2
       go_ret
       exact ⟨pj, by repeat (first | exact Drawn0.refl _ | apply Drawn0.step)⟩
def epitomeref01_Of.l0 : Nat → List Int → List Int → Int → Option (ByteArray)
 | 0, _, _, _ => none
 | k + 1, x0, x3, x4 => if x4 < (x0.length : Int) then (if 0 ≤ x4 then ((epitomeref01_size.f k (wrap64 (rd x0 x4))).bind fun t192 => (if t192 = 1 then (if x3.length < 140737488355328 then (epitomeref01_Of.l0 k x0 (x3 ++ [(wrap64 (rd x0 x4)) % 256]) (wrap64 (x4 + 1))) else (none)) else (if t192 = 2 then ((some (([(wrap64 (192 + (wrap64 (Int.tdiv (wrap64 (rd x0 x4)) 64)))) % 256, (wrap64 (128 + (Int.tmod (wrap64 (rd x0 x4)) 64))) % 256] : List Int) : List Int)).bind fun y196 => (if x3.length + y196.length < 140737488355328 then (epitomeref01_Of.l0 k x0 (x3 ++ y196) (wrap64 (x4 + 1))) else (none))) else (if t192 = 3 then ((some (([(wrap64 (224 + (wrap64 (Int.tdiv (wrap64 (rd x0 x4)) 4096)))) % 256, (wrap64 (128 + (Int.tmod (wrap64 (Int.tdiv (wrap64 (rd x0 x4)) 64)) 64))) % 256, (wrap64 (128 + (Int.tmod (wrap64 (rd x0 x4)) 64))) % 256] : List Int) : List Int)).bind fun y202 => (if x3.length + y202.length < 140737488355328 then (epitomeref01_Of.l0 k x0 (x3 ++ y202) (wrap64 (x4 + 1))) else (none))) else (if t192 = 4 then ((some (([(wrap64 (240 + (wrap64 (Int.tdiv (wrap64 (rd x0 x4)) 262144)))) % 256, (wrap64 (128 + (Int.tmod (wrap64 (Int.tdiv (wrap64 (rd x0 x4)) 4096)) 64))) % 256, (wrap64 (128 + (Int.tmod (wrap64 (Int.tdiv (wrap64 (rd x0 x4)) 64)) 64))) % 256, (wrap64 (128 + (Int.tmod (wrap64 (rd x0 x4)) 64))) % 256] : List Int) : List Int)).bind fun y208 => (if x3.length + y208.length < 140737488355328 then (epitomeref01_Of.l0 k x0 (x3 ++ y208) (wrap64 (x4 + 1))) else (none))) else (epitomeref01_Of.l0 k x0 x3 (wrap64 (x4 + 1)))))))) else (none)) else (some (strOfNums x3))
def epitomeref01_Of.f (k : Nat) (l0 : List Int) : Option (ByteArray) := epitomeref01_Of.l0 k l0 (([] : List Int)) 0
set_option maxHeartbeats 8000000 in
set_option maxRecDepth 100000 in
theorem epitomeref01_Of.calls (k : Nat) (A0 : Option Addr) (c0 : Nat) (l0 : List Int) (r : ByteArray) (w : World) (hr0 : Kd.C (Kd.int .i32) w A0 l0.length l0) (hc0 : l0.length ≤ c0) (h : epitomeref01_Of.f k l0 = some r) :
  Calls Tryd.prog 40 #[.slice A0 l0.length c0] w fun e w' => e = .returned (.string r) ∧ Below w.heap.size w w' := by
 have HR0 := am hr0
 have HC0 := am hc0
 clear hr0 hc0
 have HB := am (Below.refl w.heap.size w)
 have H : (epitomeref01_Of.l0 k l0 (([] : List Int)) 0) = some r := h
 clear h
 obtain ⟨y188, hy188⟩ : ∃ y_ : List Int, y_ = (([] : List Int)) := ⟨_, rfl⟩
 replace H : (epitomeref01_Of.l0 k l0 y188 0) = some r := by first | (rw [hy188]; with_reducible exact H) | (have H2_ := (Option.bind_some _ _).symm.trans H; rw [hy188]; with_reducible exact H2_) | (have H2_ := (Option.bind_some _ _).symm.trans H; with_reducible exact H2_) | with_reducible exact H | (rw [hy188]; exact H) | exact H
 have Ny188 := am hy188
 clear hy188
 have H' := am H
 clear H
 go_enter Tryd.func40, Tryd.ntmps40
 go_wp2_with (first | ((with_reducible refine gate_dst (N := 6) rfl ?_); refine Kd.R_lit (Kd.int .u8) _ 5 ?hg (N := 6) ?hd (xs := ([] : List Int)) (inner := []) (ok := fun _ => True) (okp := fun _ => True) ?hr ?hp (fun _ hk => hk) trivial (Below.refl _ _) (Nat.le_refl _) (by simp) ?_; (case hd => rfl); (case hg => rfl); (case hr => first | (go_simp; done) | (go_simp; rfl)); (case hp => exact (Reps.none _ _)); intro v189 w2 ho3 hb hg_ hnew_; clear hg_ hnew_; (first | rw [← Ny188.out] at ho3 | (simp only [Int.reduceToNat] at ho3; rw [← Ny188.out] at ho3)); have n0_ := am (Kd.R_lower ho3 (below_size bl)); have n1_ := am (below_step bl hb); clear HB; have HO190 := n0_; have HB := n1_; clear n0_ n1_; clear hb ho3))
 go_loopg [3, 4] k (fun kq v3 v4 w' => ∃ (x3_1 : List Int) (x4_1 : Int), v4 = .int .i64 x4_1 ∧ Aside0 (epitomeref01_Of.l0 kq l0 x3_1 x4_1 = some r) ∧ Aside0 (kq ≤ k) ∧ Aside0 (Kd.R (Kd.int .u8) 5 w' w.heap.size (fun _ => True) v3 x3_1) ∧ Aside0 (Below w.heap.size w w'))
 case atStart => exact ⟨(y188), (0), pj, H', ⟨Nat.le_refl _⟩, ⟨by refine kR ?_; exact HO190.out⟩, ⟨bl⟩⟩
 case round =>
  clear H'
  try clear p2
  obtain ⟨x3_1, x4_1, rfl, HA, HK1, HO_3, HB⟩ := hrel
  cases gk with
  | zero => exact absurd HA.out (by simp [epitomeref01_Of.l0])
  | succ k1 =>
   have H := HA.out
   clear HA
   simp only [epitomeref01_Of.l0] at H
   by_cases c4 : x4_1 < (l0.length : Int)
   ·rw [if_pos c4] at H
    have c4b0 : decide (x4_1 < (l0.length : Int)) = true := decide_eq_true c4
    clear c4
    by_cases c5 : 0 ≤ x4_1
    ·rw [if_pos c5] at H
     have c5b0 : decide (0 ≤ x4_1) = true := decide_eq_true c5
     clear c5
     replace H := Option.bind_eq_some_iff.mp H
     obtain ⟨t192, A60, H⟩ := H
     try dsimp only at H
     have A6 := am A60
     clear A60
     by_cases c7 : t192 = 1
     ·rw [if_pos c7] at H
      have c7b0 : (t192 == 1) = true := beq_iff_eq.mpr c7
      have c7b1 : (t192 != 1) = false := bne_eq_false_iff_eq.mpr c7
      clear c7
      by_cases c8 : x3_1.length < 140737488355328
      ·rw [if_pos c8] at H
       have LMc8 := am c8
       clear c8
       obtain ⟨y193, hy193⟩ : ∃ y_ : List Int, y_ = (x3_1 ++ [(wrap64 (rd l0 x4_1)) % 256]) := ⟨_, rfl⟩
       replace H : (epitomeref01_Of.l0 k1 l0 y193 (wrap64 (x4_1 + 1))) = some r := by first | (rw [hy193]; with_reducible exact H) | (have H2_ := (Option.bind_some _ _).symm.trans H; rw [hy193]; with_reducible exact H2_) | (have H2_ := (Option.bind_some _ _).symm.trans H; with_reducible exact H2_) | with_reducible exact H | (rw [hy193]; exact H) | exact H
       have Ny193 := am hy193
       clear hy193
       have H' := am H
       clear H
       have p191 : 0 ≤ (x4_1 : Int) := of_decide_eq_true as0
       have q191 : x4_1 < (l0.length : Int) := of_decide_eq_true as0
       obtain ⟨ad191, e191, hx191_0⟩ := Kd.at_int HR0.out x4_1 p191 q191
       cases e191
       replace hx191_0 := (HB.out.cell (World.block_lt_of_cell? w _ hx191_0)).trans hx191_0
       replace p191 := eq_true p191
       replace q191 := eq_true q191
       go_wp2_with (first | ((with_reducible refine gate_callee (f := 77) rfl ?_); refine goesL_ (some 19) rfl rfl Tryd.func77 (by kernel_rfl) rfl #[.int .i64 (wrap64 (rd l0 x4_1))] rfl ar ?_; (with_reducible refine (epitomeref01_size.calls k1 (wrap64 (rd l0 x4_1)) t192 _ A6.out).mono ?_); rintro e w' ⟨rfl, ⟨nd, rfl⟩⟩; refine ⟨_, rfl, ?_⟩) | ((with_reducible refine gate_builtin (b := .append) (xs := #[.tmp 22, .tmp 25]) rfl ?_); at_builtin; refine Kd.R_append (Kd.int .u8) (w0 := w) w.heap.size rfl (.tmp 22) (.tmp 25) 130 5 (.int .u8 0) 1 rfl Tryd.underlying130 info5 rfl (by decide) (by omega) u3 x3_1 ((wrap64 (rd l0 x4_1)) % 256) [.int .u8 ((wrap64 (rd l0 x4_1)) % 256)] (fun _ => True) (fun _ => False) rfl rfl ?aP (fun _ hk => hk.elim) ?aF ?aO ?aB ?aS ?aL ?_; (case aP => exact rfl); (case aB => exact bl); (case aF => exact (fun _ _ => trivial)); (case aO => exact (by refine kR ?_; exact HO_3.out)); (case aS => exact (below_size bl)); (case aL => have := LMc8.out; omega); intro v194 w9 ho hb hg hat; rw [← Ny193.out] at ho; have n0_ := am (hb); have n1_ := am (ho); clear HB; clear HO_3; have HB := n0_; have HO195 := n1_; clear n0_ n1_; clear ho hb hg hat))
       go_roundg k1
       case measure => have := HK1.out; omega
       case rel => exact ⟨(y193), (wrap64 (x4_1 + 1)), pj, H', ⟨by have := HK1.out; omega⟩, ⟨by refine kR ?_; exact HO195.out⟩, ⟨bl⟩⟩
      ·rw [if_neg c8] at H
       exact absurd H (by simp)
     ·rw [if_neg c7] at H
      have c7b0 : (t192 == 1) = false := beq_eq_false_iff_ne.mpr c7
      have c7b1 : (t192 != 1) = true := bne_iff_ne.mpr c7
      by_cases c10 : t192 = 2
      ·rw [if_pos c10] at H
       have c10b0 : (t192 == 2) = true := beq_iff_eq.mpr c10
       have c10b1 : (t192 != 2) = false := bne_eq_false_iff_eq.mpr c10
       clear c10
       obtain ⟨y196, hy196⟩ : ∃ y_ : List Int, y_ = (([(wrap64 (192 + (wrap64 (Int.tdiv (wrap64 (rd l0 x4_1)) 64)))) % 256, (wrap64 (128 + (Int.tmod (wrap64 (rd l0 x4_1)) 64))) % 256] : List Int)) := ⟨_, rfl⟩
       replace H : (if x3_1.length + y196.length < 140737488355328 then (epitomeref01_Of.l0 k1 l0 (x3_1 ++ y196) (wrap64 (x4_1 + 1))) else (none)) = some r := by first | (rw [hy196]; with_reducible exact H) | (have H2_ := (Option.bind_some _ _).symm.trans H; rw [hy196]; with_reducible exact H2_) | (have H2_ := (Option.bind_some _ _).symm.trans H; with_reducible exact H2_) | with_reducible exact H | (rw [hy196]; exact H) | exact H
       have Ny196 := am hy196
       clear hy196
       by_cases c11 : x3_1.length + y196.length < 140737488355328
       ·rw [if_pos c11] at H
        have LMc11 := am c11
        clear c11
        obtain ⟨y199, hy199⟩ : ∃ y_ : List Int, y_ = (x3_1 ++ y196) := ⟨_, rfl⟩
        replace H : (epitomeref01_Of.l0 k1 l0 y199 (wrap64 (x4_1 + 1))) = some r := by first | (rw [hy199]; with_reducible exact H) | (have H2_ := (Option.bind_some _ _).symm.trans H; rw [hy199]; with_reducible exact H2_) | (have H2_ := (Option.bind_some _ _).symm.trans H; with_reducible exact H2_) | with_reducible exact H | (rw [hy199]; exact H) | exact H
        have Ny199 := am hy199
        clear hy199
        have H' := am H
        clear H
        have p191 : 0 ≤ (x4_1 : Int) := of_decide_eq_true as0
        have q191 : x4_1 < (l0.length : Int) := of_decide_eq_true as0
        obtain ⟨ad191, e191, hx191_0⟩ := Kd.at_int HR0.out x4_1 p191 q191
        cases e191
        replace hx191_0 := (HB.out.cell (World.block_lt_of_cell? w _ hx191_0)).trans hx191_0
        replace p191 := eq_true p191
        replace q191 := eq_true q191
        go_wp2_with (first | ((with_reducible refine gate_callee (f := 77) rfl ?_); refine goesL_ (some 19) rfl rfl Tryd.func77 (by kernel_rfl) rfl #[.int .i64 (wrap64 (rd l0 x4_1))] rfl ar ?_; (with_reducible refine (epitomeref01_size.calls k1 (wrap64 (rd l0 x4_1)) t192 _ A6.out).mono ?_); rintro e w' ⟨rfl, ⟨nd, rfl⟩⟩; refine ⟨_, rfl, ?_⟩) | ((with_reducible refine gate_dst (N := 38) rfl ?_); refine Kd.R_lit (Kd.int .u8) _ 5 ?hg (N := 38) ?hd (xs := ([(wrap64 (192 + (wrap64 (Int.tdiv (wrap64 (rd l0 x4_1)) 64)))) % 256, (wrap64 (128 + (Int.tmod (wrap64 (rd l0 x4_1)) 64))) % 256] : List Int)) (inner := [.int .u8 ((wrap64 (192 + (wrap64 (Int.tdiv (wrap64 (rd l0 x4_1)) 64)))) % 256), .int .u8 ((wrap64 (128 + (Int.tmod (wrap64 (rd l0 x4_1)) 64))) % 256)]) (ok := fun _ => True) (okp := fun _ => True) ?hr ?hp (fun _ hk => hk) trivial (Below.refl _ _) (Nat.le_refl _) (by simp) ?_; (case hd => rfl); (case hg => rfl); (case hr => first | (go_simp; done) | (go_simp; rfl)); (case hp => exact (Reps.one (show Kd.M (Kd.int .u8) _ _ _ ((wrap64 (192 + (wrap64 (Int.tdiv (wrap64 (rd l0 x4_1)) 64)))) % 256) [.int .u8 ((wrap64 (192 + (wrap64 (Int.tdiv (wrap64 (rd l0 x4_1)) 64)))) % 256)] from rfl) (Reps.one (show Kd.M (Kd.int .u8) _ _ _ ((wrap64 (128 + (Int.tmod (wrap64 (rd l0 x4_1)) 64))) % 256) [.int .u8 ((wrap64 (128 + (Int.tmod (wrap64 (rd l0 x4_1)) 64))) % 256)] from rfl) (Reps.none _ _)))); intro v197 w12 ho13 hb hg_ hnew_; clear hg_ hnew_; (first | rw [← Ny196.out] at ho13 | (simp only [Int.reduceToNat] at ho13; rw [← Ny196.out] at ho13)); have n0_ := am (Kd.R_elder' (by refine kR ?_; exact HO_3.out) (Kd.R_base ho13) hb); have n1_ := am (Kd.R_lower (Kd.R_new' ho13 (Kd.R_lt (by refine kR ?_; exact HO_3.out))) (below_size bl)); have n2_ := am (below_step bl hb); clear HO_3; clear HB; have HO_3 := n0_; have HO198 := n1_; have HB := n2_; clear n0_ n1_ n2_; clear hb ho13; obtain ⟨Ao15, co15, eo15⟩ := Kd.R_slice HO198.out; subst eo15) | ((with_reducible refine gate_builtin (b := .append) (xs := #[.tmp 29, .tmp 38]) rfl ?_); at_builtin; refine Kd.R_append_rows (Kd.int .u8) (w0 := w) w.heap.size rfl (.tmp 29) (.tmp 38) 130 5 (.int .u8 0) 1 rfl Tryd.underlying130 info5 rfl (by decide) (by omega) u3 x3_1 y196 _ _ _ (fun k_ => some k_ ≠ (.slice Ao15 y196.length co15 : Value).ownBlock) (fun _ => False) rfl rfl ?aO ?aR (fun _ _ h => h) (fun _ h => h.elim) ?aF ?aB ?aS ?aL ?_; (case aR => repeat (first | exact (Kd.R_reads' HO198.out).2.2 | (with_reducible refine Kd.C_alloc ?_ _) | (with_reducible refine Kd.C_drewN ?_ _) | (with_reducible refine Kd.C_drew ?_))); (case aB => exact bl); (case aF => exact (fun k_ hk => Kd.fresh' (Kd.R_lt (by refine kR ?_; exact HO198.out)) k_ hk)); (case aO => exact (by refine kR ?_; exact Kd.R_mono HO_3.out (fun _ hk => hk.2))); (case aS => exact (below_size bl)); (case aL => have := LMc11.out; omega); intro v200 w14 ho hb hg hat; rw [← Ny199.out] at ho; have n0_ := am (Kd.R_after (ok := (fun _ => True)) (by refine kR ?_; exact HO198.out) hg hat); have n1_ := am (hb); have n2_ := am (ho); clear HO198; clear HB; clear HO_3; have HO198 := n0_; have HB := n1_; have HO201 := n2_; clear n0_ n1_ n2_; clear ho hb hg hat))
        go_roundg k1
        case measure => have := HK1.out; omega
        case rel => exact ⟨(y199), (wrap64 (x4_1 + 1)), pj, H', ⟨by have := HK1.out; omega⟩, ⟨by refine kR ?_; exact Kd.R_mono HO201.out (fun _ hk => trivial)⟩, ⟨bl⟩⟩
       ·rw [if_neg c11] at H
        exact absurd H (by simp)
      ·rw [if_neg c10] at H
       have c10b0 : (t192 == 2) = false := beq_eq_false_iff_ne.mpr c10
       have c10b1 : (t192 != 2) = true := bne_iff_ne.mpr c10
       by_cases c16 : t192 = 3
       ·rw [if_pos c16] at H
        have c16b0 : (t192 == 3) = true := beq_iff_eq.mpr c16
        have c16b1 : (t192 != 3) = false := bne_eq_false_iff_eq.mpr c16
        clear c16
        obtain ⟨y202, hy202⟩ : ∃ y_ : List Int, y_ = (([(wrap64 (224 + (wrap64 (Int.tdiv (wrap64 (rd l0 x4_1)) 4096)))) % 256, (wrap64 (128 + (Int.tmod (wrap64 (Int.tdiv (wrap64 (rd l0 x4_1)) 64)) 64))) % 256, (wrap64 (128 + (Int.tmod (wrap64 (rd l0 x4_1)) 64))) % 256] : List Int)) := ⟨_, rfl⟩
        replace H : (if x3_1.length + y202.length < 140737488355328 then (epitomeref01_Of.l0 k1 l0 (x3_1 ++ y202) (wrap64 (x4_1 + 1))) else (none)) = some r := by first | (rw [hy202]; with_reducible exact H) | (have H2_ := (Option.bind_some _ _).symm.trans H; rw [hy202]; with_reducible exact H2_) | (have H2_ := (Option.bind_some _ _).symm.trans H; with_reducible exact H2_) | with_reducible exact H | (rw [hy202]; exact H) | exact H
        have Ny202 := am hy202
        clear hy202
        by_cases c17 : x3_1.length + y202.length < 140737488355328
        ·rw [if_pos c17] at H
         have LMc17 := am c17
         clear c17
         obtain ⟨y205, hy205⟩ : ∃ y_ : List Int, y_ = (x3_1 ++ y202) := ⟨_, rfl⟩
         replace H : (epitomeref01_Of.l0 k1 l0 y205 (wrap64 (x4_1 + 1))) = some r := by first | (rw [hy205]; with_reducible exact H) | (have H2_ := (Option.bind_some _ _).symm.trans H; rw [hy205]; with_reducible exact H2_) | (have H2_ := (Option.bind_some _ _).symm.trans H; with_reducible exact H2_) | with_reducible exact H | (rw [hy205]; exact H) | exact H
         have Ny205 := am hy205
         clear hy205
         have H' := am H
         clear H
         have p191 : 0 ≤ (x4_1 : Int) := of_decide_eq_true as0
         have q191 : x4_1 < (l0.length : Int) := of_decide_eq_true as0
         obtain ⟨ad191, e191, hx191_0⟩ := Kd.at_int HR0.out x4_1 p191 q191
         cases e191
         replace hx191_0 := (HB.out.cell (World.block_lt_of_cell? w _ hx191_0)).trans hx191_0
         replace p191 := eq_true p191
         replace q191 := eq_true q191
         go_wp2_with (first | ((with_reducible refine gate_callee (f := 77) rfl ?_); refine goesL_ (some 19) rfl rfl Tryd.func77 (by kernel_rfl) rfl #[.int .i64 (wrap64 (rd l0 x4_1))] rfl ar ?_; (with_reducible refine (epitomeref01_size.calls k1 (wrap64 (rd l0 x4_1)) t192 _ A6.out).mono ?_); rintro e w' ⟨rfl, ⟨nd, rfl⟩⟩; refine ⟨_, rfl, ?_⟩) | ((with_reducible refine gate_dst (N := 56) rfl ?_); refine Kd.R_lit (Kd.int .u8) _ 5 ?hg (N := 56) ?hd (xs := ([(wrap64 (224 + (wrap64 (Int.tdiv (wrap64 (rd l0 x4_1)) 4096)))) % 256, (wrap64 (128 + (Int.tmod (wrap64 (Int.tdiv (wrap64 (rd l0 x4_1)) 64)) 64))) % 256, (wrap64 (128 + (Int.tmod (wrap64 (rd l0 x4_1)) 64))) % 256] : List Int)) (inner := [.int .u8 ((wrap64 (224 + (wrap64 (Int.tdiv (wrap64 (rd l0 x4_1)) 4096)))) % 256), .int .u8 ((wrap64 (128 + (Int.tmod (wrap64 (Int.tdiv (wrap64 (rd l0 x4_1)) 64)) 64))) % 256), .int .u8 ((wrap64 (128 + (Int.tmod (wrap64 (rd l0 x4_1)) 64))) % 256)]) (ok := fun _ => True) (okp := fun _ => True) ?hr ?hp (fun _ hk => hk) trivial (Below.refl _ _) (Nat.le_refl _) (by simp) ?_; (case hd => rfl); (case hg => rfl); (case hr => first | (go_simp; done) | (go_simp; rfl)); (case hp => exact (Reps.one (show Kd.M (Kd.int .u8) _ _ _ ((wrap64 (224 + (wrap64 (Int.tdiv (wrap64 (rd l0 x4_1)) 4096)))) % 256) [.int .u8 ((wrap64 (224 + (wrap64 (Int.tdiv (wrap64 (rd l0 x4_1)) 4096)))) % 256)] from rfl) (Reps.one (show Kd.M (Kd.int .u8) _ _ _ ((wrap64 (128 + (Int.tmod (wrap64 (Int.tdiv (wrap64 (rd l0 x4_1)) 64)) 64))) % 256) [.int .u8 ((wrap64 (128 + (Int.tmod (wrap64 (Int.tdiv (wrap64 (rd l0 x4_1)) 64)) 64))) % 256)] from rfl) (Reps.one (show Kd.M (Kd.int .u8) _ _ _ ((wrap64 (128 + (Int.tmod (wrap64 (rd l0 x4_1)) 64))) % 256) [.int .u8 ((wrap64 (128 + (Int.tmod (wrap64 (rd l0 x4_1)) 64))) % 256)] from rfl) (Reps.none _ _))))); intro v203 w18 ho19 hb hg_ hnew_; clear hg_ hnew_; (first | rw [← Ny202.out] at ho19 | (simp only [Int.reduceToNat] at ho19; rw [← Ny202.out] at ho19)); have n0_ := am (Kd.R_elder' (by refine kR ?_; exact HO_3.out) (Kd.R_base ho19) hb); have n1_ := am (Kd.R_lower (Kd.R_new' ho19 (Kd.R_lt (by refine kR ?_; exact HO_3.out))) (below_size bl)); have n2_ := am (below_step bl hb); clear HO_3; clear HB; have HO_3 := n0_; have HO204 := n1_; have HB := n2_; clear n0_ n1_ n2_; clear hb ho19; obtain ⟨Ao21, co21, eo21⟩ := Kd.R_slice HO204.out; subst eo21) | ((with_reducible refine gate_builtin (b := .append) (xs := #[.tmp 42, .tmp 56]) rfl ?_); at_builtin; refine Kd.R_append_rows (Kd.int .u8) (w0 := w) w.heap.size rfl (.tmp 42) (.tmp 56) 130 5 (.int .u8 0) 1 rfl Tryd.underlying130 info5 rfl (by decide) (by omega) u3 x3_1 y202 _ _ _ (fun k_ => some k_ ≠ (.slice Ao21 y202.length co21 : Value).ownBlock) (fun _ => False) rfl rfl ?aO ?aR (fun _ _ h => h) (fun _ h => h.elim) ?aF ?aB ?aS ?aL ?_; (case aR => repeat (first | exact (Kd.R_reads' HO204.out).2.2 | (with_reducible refine Kd.C_alloc ?_ _) | (with_reducible refine Kd.C_drewN ?_ _) | (with_reducible refine Kd.C_drew ?_))); (case aB => exact bl); (case aF => exact (fun k_ hk => Kd.fresh' (Kd.R_lt (by refine kR ?_; exact HO204.out)) k_ hk)); (case aO => exact (by refine kR ?_; exact Kd.R_mono HO_3.out (fun _ hk => hk.2))); (case aS => exact (below_size bl)); (case aL => have := LMc17.out; omega); intro v206 w20 ho hb hg hat; rw [← Ny205.out] at ho; have n0_ := am (Kd.R_after (ok := (fun _ => True)) (by refine kR ?_; exact HO204.out) hg hat); have n1_ := am (hb); have n2_ := am (ho); clear HO204; clear HB; clear HO_3; have HO204 := n0_; have HB := n1_; have HO207 := n2_; clear n0_ n1_ n2_; clear ho hb hg hat))
         go_roundg k1
         case measure => have := HK1.out; omega
         case rel => exact ⟨(y205), (wrap64 (x4_1 + 1)), pj, H', ⟨by have := HK1.out; omega⟩, ⟨by refine kR ?_; exact Kd.R_mono HO207.out (fun _ hk => trivial)⟩, ⟨bl⟩⟩
        ·rw [if_neg c17] at H
         exact absurd H (by simp)
       ·rw [if_neg c16] at H
        have c16b0 : (t192 == 3) = false := beq_eq_false_iff_ne.mpr c16
        have c16b1 : (t192 != 3) = true := bne_iff_ne.mpr c16
        by_cases c22 : t192 = 4
        ·rw [if_pos c22] at H
         have c22b0 : (t192 == 4) = true := beq_iff_eq.mpr c22
         have c22b1 : (t192 != 4) = false := bne_eq_false_iff_eq.mpr c22
         clear c22
         obtain ⟨y208, hy208⟩ : ∃ y_ : List Int, y_ = (([(wrap64 (240 + (wrap64 (Int.tdiv (wrap64 (rd l0 x4_1)) 262144)))) % 256, (wrap64 (128 + (Int.tmod (wrap64 (Int.tdiv (wrap64 (rd l0 x4_1)) 4096)) 64))) % 256, (wrap64 (128 + (Int.tmod (wrap64 (Int.tdiv (wrap64 (rd l0 x4_1)) 64)) 64))) % 256, (wrap64 (128 + (Int.tmod (wrap64 (rd l0 x4_1)) 64))) % 256] : List Int)) := ⟨_, rfl⟩
         replace H : (if x3_1.length + y208.length < 140737488355328 then (epitomeref01_Of.l0 k1 l0 (x3_1 ++ y208) (wrap64 (x4_1 + 1))) else (none)) = some r := by first | (rw [hy208]; with_reducible exact H) | (have H2_ := (Option.bind_some _ _).symm.trans H; rw [hy208]; with_reducible exact H2_) | (have H2_ := (Option.bind_some _ _).symm.trans H; with_reducible exact H2_) | with_reducible exact H | (rw [hy208]; exact H) | exact H
         have Ny208 := am hy208
         clear hy208
         by_cases c23 : x3_1.length + y208.length < 140737488355328
         ·rw [if_pos c23] at H
          have LMc23 := am c23
          clear c23
          obtain ⟨y211, hy211⟩ : ∃ y_ : List Int, y_ = (x3_1 ++ y208) := ⟨_, rfl⟩
          replace H : (epitomeref01_Of.l0 k1 l0 y211 (wrap64 (x4_1 + 1))) = some r := by first | (rw [hy211]; with_reducible exact H) | (have H2_ := (Option.bind_some _ _).symm.trans H; rw [hy211]; with_reducible exact H2_) | (have H2_ := (Option.bind_some _ _).symm.trans H; with_reducible exact H2_) | with_reducible exact H | (rw [hy211]; exact H) | exact H
          have Ny211 := am hy211
          clear hy211
          have H' := am H
          clear H
          have p191 : 0 ≤ (x4_1 : Int) := of_decide_eq_true as0
          have q191 : x4_1 < (l0.length : Int) := of_decide_eq_true as0
          obtain ⟨ad191, e191, hx191_0⟩ := Kd.at_int HR0.out x4_1 p191 q191
          cases e191
          replace hx191_0 := (HB.out.cell (World.block_lt_of_cell? w _ hx191_0)).trans hx191_0
          replace p191 := eq_true p191
          replace q191 := eq_true q191
          go_wp2_with (first | ((with_reducible refine gate_callee (f := 77) rfl ?_); refine goesL_ (some 19) rfl rfl Tryd.func77 (by kernel_rfl) rfl #[.int .i64 (wrap64 (rd l0 x4_1))] rfl ar ?_; (with_reducible refine (epitomeref01_size.calls k1 (wrap64 (rd l0 x4_1)) t192 _ A6.out).mono ?_); rintro e w' ⟨rfl, ⟨nd, rfl⟩⟩; refine ⟨_, rfl, ?_⟩) | ((with_reducible refine gate_dst (N := 79) rfl ?_); refine Kd.R_lit (Kd.int .u8) _ 5 ?hg (N := 79) ?hd (xs := ([(wrap64 (240 + (wrap64 (Int.tdiv (wrap64 (rd l0 x4_1)) 262144)))) % 256, (wrap64 (128 + (Int.tmod (wrap64 (Int.tdiv (wrap64 (rd l0 x4_1)) 4096)) 64))) % 256, (wrap64 (128 + (Int.tmod (wrap64 (Int.tdiv (wrap64 (rd l0 x4_1)) 64)) 64))) % 256, (wrap64 (128 + (Int.tmod (wrap64 (rd l0 x4_1)) 64))) % 256] : List Int)) (inner := [.int .u8 ((wrap64 (240 + (wrap64 (Int.tdiv (wrap64 (rd l0 x4_1)) 262144)))) % 256), .int .u8 ((wrap64 (128 + (Int.tmod (wrap64 (Int.tdiv (wrap64 (rd l0 x4_1)) 4096)) 64))) % 256), .int .u8 ((wrap64 (128 + (Int.tmod (wrap64 (Int.tdiv (wrap64 (rd l0 x4_1)) 64)) 64))) % 256), .int .u8 ((wrap64 (128 + (Int.tmod (wrap64 (rd l0 x4_1)) 64))) % 256)]) (ok := fun _ => True) (okp := fun _ => True) ?hr ?hp (fun _ hk => hk) trivial (Below.refl _ _) (Nat.le_refl _) (by simp) ?_; (case hd => rfl); (case hg => rfl); (case hr => first | (go_simp; done) | (go_simp; rfl)); (case hp => exact (Reps.one (show Kd.M (Kd.int .u8) _ _ _ ((wrap64 (240 + (wrap64 (Int.tdiv (wrap64 (rd l0 x4_1)) 262144)))) % 256) [.int .u8 ((wrap64 (240 + (wrap64 (Int.tdiv (wrap64 (rd l0 x4_1)) 262144)))) % 256)] from rfl) (Reps.one (show Kd.M (Kd.int .u8) _ _ _ ((wrap64 (128 + (Int.tmod (wrap64 (Int.tdiv (wrap64 (rd l0 x4_1)) 4096)) 64))) % 256) [.int .u8 ((wrap64 (128 + (Int.tmod (wrap64 (Int.tdiv (wrap64 (rd l0 x4_1)) 4096)) 64))) % 256)] from rfl) (Reps.one (show Kd.M (Kd.int .u8) _ _ _ ((wrap64 (128 + (Int.tmod (wrap64 (Int.tdiv (wrap64 (rd l0 x4_1)) 64)) 64))) % 256) [.int .u8 ((wrap64 (128 + (Int.tmod (wrap64 (Int.tdiv (wrap64 (rd l0 x4_1)) 64)) 64))) % 256)] from rfl) (Reps.one (show Kd.M (Kd.int .u8) _ _ _ ((wrap64 (128 + (Int.tmod (wrap64 (rd l0 x4_1)) 64))) % 256) [.int .u8 ((wrap64 (128 + (Int.tmod (wrap64 (rd l0 x4_1)) 64))) % 256)] from rfl) (Reps.none _ _)))))); intro v209 w24 ho25 hb hg_ hnew_; clear hg_ hnew_; (first | rw [← Ny208.out] at ho25 | (simp only [Int.reduceToNat] at ho25; rw [← Ny208.out] at ho25)); have n0_ := am (Kd.R_elder' (by refine kR ?_; exact HO_3.out) (Kd.R_base ho25) hb); have n1_ := am (Kd.R_lower (Kd.R_new' ho25 (Kd.R_lt (by refine kR ?_; exact HO_3.out))) (below_size bl)); have n2_ := am (below_step bl hb); clear HO_3; clear HB; have HO_3 := n0_; have HO210 := n1_; have HB := n2_; clear n0_ n1_ n2_; clear hb ho25; obtain ⟨Ao27, co27, eo27⟩ := Kd.R_slice HO210.out; subst eo27) | ((with_reducible refine gate_builtin (b := .append) (xs := #[.tmp 60, .tmp 79]) rfl ?_); at_builtin; refine Kd.R_append_rows (Kd.int .u8) (w0 := w) w.heap.size rfl (.tmp 60) (.tmp 79) 130 5 (.int .u8 0) 1 rfl Tryd.underlying130 info5 rfl (by decide) (by omega) u3 x3_1 y208 _ _ _ (fun k_ => some k_ ≠ (.slice Ao27 y208.length co27 : Value).ownBlock) (fun _ => False) rfl rfl ?aO ?aR (fun _ _ h => h) (fun _ h => h.elim) ?aF ?aB ?aS ?aL ?_; (case aR => repeat (first | exact (Kd.R_reads' HO210.out).2.2 | (with_reducible refine Kd.C_alloc ?_ _) | (with_reducible refine Kd.C_drewN ?_ _) | (with_reducible refine Kd.C_drew ?_))); (case aB => exact bl); (case aF => exact (fun k_ hk => Kd.fresh' (Kd.R_lt (by refine kR ?_; exact HO210.out)) k_ hk)); (case aO => exact (by refine kR ?_; exact Kd.R_mono HO_3.out (fun _ hk => hk.2))); (case aS => exact (below_size bl)); (case aL => have := LMc23.out; omega); intro v212 w26 ho hb hg hat; rw [← Ny211.out] at ho; have n0_ := am (Kd.R_after (ok := (fun _ => True)) (by refine kR ?_; exact HO210.out) hg hat); have n1_ := am (hb); have n2_ := am (ho); clear HO210; clear HB; clear HO_3; have HO210 := n0_; have HB := n1_; have HO213 := n2_; clear n0_ n1_ n2_; clear ho hb hg hat))
          go_roundg k1
          case measure => have := HK1.out; omega
          case rel => exact ⟨(y211), (wrap64 (x4_1 + 1)), pj, H', ⟨by have := HK1.out; omega⟩, ⟨by refine kR ?_; exact Kd.R_mono HO213.out (fun _ hk => trivial)⟩, ⟨bl⟩⟩
         ·rw [if_neg c23] at H
          exact absurd H (by simp)
        ·rw [if_neg c22] at H
         have c22b0 : (t192 == 4) = false := beq_eq_false_iff_ne.mpr c22
         have c22b1 : (t192 != 4) = true := bne_iff_ne.mpr c22
         have H' := am H
         clear H
         have p191 : 0 ≤ (x4_1 : Int) := of_decide_eq_true as0
         have q191 : x4_1 < (l0.length : Int) := of_decide_eq_true as0
         obtain ⟨ad191, e191, hx191_0⟩ := Kd.at_int HR0.out x4_1 p191 q191
         cases e191
         replace hx191_0 := (HB.out.cell (World.block_lt_of_cell? w _ hx191_0)).trans hx191_0
         replace p191 := eq_true p191
         replace q191 := eq_true q191
         go_wp2_with (first | ((with_reducible refine gate_callee (f := 77) rfl ?_); refine goesL_ (some 19) rfl rfl Tryd.func77 (by kernel_rfl) rfl #[.int .i64 (wrap64 (rd l0 x4_1))] rfl ar ?_; (with_reducible refine (epitomeref01_size.calls k1 (wrap64 (rd l0 x4_1)) t192 _ A6.out).mono ?_); rintro e w' ⟨rfl, ⟨nd, rfl⟩⟩; refine ⟨_, rfl, ?_⟩))
         go_roundg k1
         case measure => have := HK1.out; omega
         case rel => exact ⟨(x3_1), (wrap64 (x4_1 + 1)), pj, H', ⟨by have := HK1.out; omega⟩, ⟨by refine kR ?_; exact HO_3.out⟩, ⟨bl⟩⟩
    ·rw [if_neg c5] at H
     exact absurd H (by simp)
   ·rw [if_neg c4] at H
    have c4b0 : decide (x4_1 < (l0.length : Int)) = false := decide_eq_false c4
    clear c4
    obtain rfl := Option.some.inj H
    simp only [Option.some.injEq, Prod.mk.injEq] at H
    obtain ⟨rfl⟩ := H
    have hcv28 := own_string (P := Tryd.prog) Tryd.underlying130 Tryd.underlying5 Tryd.underlying9 (Kd.own_of_R HO_3.out)
    have hcv29 := fun (m_ : Nat) => own_string (P := Tryd.prog) Tryd.underlying130 Tryd.underlying5 Tryd.underlying9 (Kd.own_of_R (Kd.R_drewN HO_3.out m_))
    go_wp2
    go_ret
    exact ⟨by first | rfl | (simp [errW_none, errW_some] <;> rfl) | (simp [*, errW_none, errW_some] <;> rfl), bl⟩
def epitomeref01_Fit.tab : List Int := [97, 98, 99, 120, 121, 233, 8364, 128512]
def epitomeref01_Fit.l (s : ByteArray) : List Int := s.data.toList.map fun b => epitomeref01_Fit.tab.getD (b.toNat % 8) 0
def epitomeref01_Fit.f (k : Nat) (a0 : ByteArray) : Option ByteArray := if a0.size < 35184372088832 then epitomeref01_Of.f k (epitomeref01_Fit.l a0) else none
theorem epitomeref01_Fit.len (s : ByteArray) : (epitomeref01_Fit.l s).length = s.size := by
 unfold epitomeref01_Fit.l; rw [List.length_map, Array.length_toList]; rfl
theorem epitomeref01_Fit.next (s : ByteArray) (k : Nat) (h : k < s.size) : (epitomeref01_Fit.l s).take (k + 1) = (epitomeref01_Fit.l s).take k ++ [epitomeref01_Fit.tab.getD ((s[k]'h).toNat % 8) 0] := by
 have hl := epitomeref01_Fit.len s
 rw [List.take_succ_eq_append_getElem (by omega)]
 congr 2
 simp only [epitomeref01_Fit.l, List.getElem_map, Array.getElem_toList]
 rfl
def epitomeref01_Fit.arr : Array Value := #[.int .i32 97, .int .i32 98, .int .i32 99, .int .i32 120, .int .i32 121, .int .i32 233, .int .i32 8364, .int .i32 128512]
theorem epitomeref01_Fit.cell {W : World} {B : Nat} {T : TypeId} (h : W.heap[B]? = some (.cells epitomeref01_Fit.arr T (0, 0))) (m : Nat) (hm : m < 8) : W.cell? ⟨B, m, none⟩ = some (.int .i32 (epitomeref01_Fit.tab.getD m 0)) := by
 rw [cell_of_row W B m _ T (0, 0) h]
 rcases (by omega : m = 0 ∨ m = 1 ∨ m = 2 ∨ m = 3 ∨ m = 4 ∨ m = 5 ∨ m = 6 ∨ m = 7) with rfl | rfl | rfl | rfl | rfl | rfl | rfl | rfl <;> rfl
set_option maxHeartbeats 8000000 in
set_option maxRecDepth 100000 in
theorem epitomeref01_Fit.calls (k : Nat) (a0 : ByteArray) (r : ByteArray) (w : World) (h : epitomeref01_Fit.f k a0 = some r) :
  Calls Tryd.prog 9 #[.string a0] w fun e w' => e = .returned (.string r) ∧ Below w.heap.size w w' := by
 unfold epitomeref01_Fit.f at h
 by_cases c : a0.size < 35184372088832
 ·rw [if_pos c] at h
  have A1 := am h
  have HS := am c
  clear h c
  go_enter Tryd.func9, Tryd.ntmps9
  go_wp2
  go_loopw [4, 5] (fun v4 v5 wr => ∃ j : Nat, v5 = .int .i64 j ∧ j ≤ a0.size ∧ Aside0 (Kd.R (Kd.int .i32) 21 wr w.heap.size (fun _ => True) v4 ((epitomeref01_Fit.l a0).take j)) ∧ Aside0 (wr.heap[w.heap.size]? = some (.cells epitomeref01_Fit.arr 86 (0, 0))) ∧ Aside0 (Below w.heap.size w wr)) (fun _ v5 _ => a0.size - (intOf v5).toNat)
  case atStart =>
   have ho := own_lit (w.alloc (.cells epitomeref01_Fit.arr 86)) w.heap.size 21 .i32 [] (by simp) (by simp)
   have e : (w.alloc (.cells epitomeref01_Fit.arr 86)).heap.size = w.heap.size + 1 := by simp
   rw [e] at ho
   refine ⟨0, rfl, Nat.zero_le _, ⟨⟨fun _ _ => trivial, [], ho, Reps.none _ _⟩⟩, ⟨?_⟩, ⟨below_alloc (below_alloc (Below.refl _ _) _) _⟩⟩
   exact blk_alloc (heap_alloc_new w (.cells epitomeref01_Fit.arr 86)) _
  case round =>
   obtain ⟨j, rfl, hj, HO, HC, HB⟩ := hrel
   have hsz := HS.out
   by_cases hlt : j < a0.size
   ·have hm : (a0[j]'hlt).toNat % 8 < 8 := Nat.mod_lt _ (by decide)
    have hcell := epitomeref01_Fit.cell HC.out _ hm
    have N1 := am (epitomeref01_Fit.next a0 j hlt)
    generalize epitomeref01_Fit.tab.getD ((a0[j]'hlt).toNat % 8) 0 = x at hcell N1
    have HL : Aside0 (((epitomeref01_Fit.l a0).take j).length < 35184372088832) := ⟨by rw [List.length_take]; omega⟩
    go_wp2_with (first | ((with_reducible refine gate_builtin (b := .append) (xs := #[.tmp 14, .tmp 21]) rfl ?_); at_builtin; refine Kd.R_append (Kd.int .i32) (w0 := w) w.heap.size rfl (.tmp 14) (.tmp 21) 87 21 (.int .i32 0) 4 rfl Tryd.underlying87 info21 rfl (by decide) (by omega) u4 ((epitomeref01_Fit.l a0).take j) (x) [.int .i32 (x)] (fun _ => True) (fun _ => False) rfl rfl ?aP (fun _ hk => hk.elim) ?aF ?aO ?aB ?aS ?aL ?_; (case aP => exact rfl); (case aB => exact bl); (case aF => exact (fun _ _ => trivial)); (case aO => exact (by refine kR ?_; exact HO.out)); (case aS => exact (below_size bl)); (case aL => have := HL.out; omega); intro v100 w100 ho hb hg hat; have HB1 := am hb; have HO1 := am ho; have HC1 := am (blk_grown HC.out hg (Kd.R_ne HO.out HC.out (by decide))); clear ho hb hg hat hcell))
    go_roundw
    case rel => exact ⟨j + 1, by go_num, by omega, ⟨by rw [N1.out]; exact HO1.out⟩, HC1, HB1⟩
    case measure => simp [intOf]; omega
   ·obtain rfl : j = a0.size := by omega
    have HL : Aside0 (List.take a0.size (epitomeref01_Fit.l a0) = epitomeref01_Fit.l a0) := ⟨by rw [List.take_of_length_le]; rw [epitomeref01_Fit.len]; exact Nat.le_refl _⟩
    rw [HL.out] at HO
    obtain ⟨A, q, e, hq, hc⟩ := Kd.R_reads HO.out
    subst e
    have HQ := am hq; have HR := am hc
    clear hq hc HO
    go_wp2_with (go_at_call 40; (with_reducible refine (epitomeref01_Of.calls k _ _ (epitomeref01_Fit.l a0) r _ HR.out HQ.out A1.out).mono ?_); rintro e w1 ⟨rfl, hb⟩)
    go_ret
    exact ⟨rfl, below_then HB.out HB.out.size hb⟩
 ·rw [if_neg c] at h; cases h
mutual
def epitomeref01_first.j0 : Nat → ByteArray → Int → Int → Int → Bool → Option (Int × Int)
 | 0, _, _, _, _, _ => none
 | k + 1, x0, x4, x5, x6, x21 => if x21 = true then (epitomeref01_first.j3 k x0 3 (wrap64 (x4 - 240))) else (if x4 ≥ 224 then (epitomeref01_first.j1 k x0 x4 x5 x6 (decide (x4 < 240))) else (epitomeref01_first.j1 k x0 x4 x5 x6 false))
def epitomeref01_first.j3 : Nat → ByteArray → Int → Int → Option (Int × Int)
 | 0, _, _, _ => none
 | k + 1, x0, x5, x6 => if (x0.size : Int) < (wrap64 (x5 + 1)) then (some (0, 0)) else (epitomeref01_first.l0 k x0 x5 x6 1)
def epitomeref01_first.l0 : Nat → ByteArray → Int → Int → Int → Option (Int × Int)
 | 0, _, _, _, _ => none
 | k + 1, x0, x5, x6, x7 => if x7 ≤ x5 then (if 0 ≤ x7 then (if x7 < (x0.size : Int) then (if (wrap64 (bt x0 x7)) < 128 then (some (0, 0)) else (if (wrap64 (bt x0 x7)) > 191 then (some (0, 0)) else (epitomeref01_first.l0 k x0 x5 (wrap64 ((wrap64 ((wrap64 (x6 * 64)) + (wrap64 (bt x0 x7)))) - 128)) (wrap64 (x7 + 1))))) else (none)) else (none)) else ((epitomeref01_size.f k x6).bind fun t232 => (if t232 = (wrap64 (x5 + 1)) then (some (x6, wrap64 (x5 + 1))) else (some (0, 0))))
def epitomeref01_first.j1 : Nat → ByteArray → Int → Int → Int → Bool → Option (Int × Int)
 | 0, _, _, _, _, _ => none
 | k + 1, x0, x4, x5, x6, x29 => if x29 = true then (epitomeref01_first.j3 k x0 2 (wrap64 (x4 - 224))) else (if x4 ≥ 192 then (epitomeref01_first.j2 k x0 x4 x5 x6 (decide (x4 < 224))) else (epitomeref01_first.j2 k x0 x4 x5 x6 false))
def epitomeref01_first.j2 : Nat → ByteArray → Int → Int → Int → Bool → Option (Int × Int)
 | 0, _, _, _, _, _ => none
 | k + 1, x0, x4, x5, x6, x37 => if x37 = true then (epitomeref01_first.j3 k x0 1 (wrap64 (x4 - 192))) else (if x4 ≥ 128 then (some (0, 0)) else (epitomeref01_first.j3 k x0 x5 x6))
end
def epitomeref01_first.f (k : Nat) (a0 : ByteArray) : Option (Int × Int) := if (a0.size : Int) = 0 then (some (0, 0)) else (if 0 < (a0.size : Int) then (if (wrap64 (bt a0 0)) ≥ 240 then (epitomeref01_first.j0 k a0 (wrap64 (bt a0 0)) 0 (wrap64 (bt a0 0)) (decide ((wrap64 (bt a0 0)) < 248))) else (epitomeref01_first.j0 k a0 (wrap64 (bt a0 0)) 0 (wrap64 (bt a0 0)) false)) else (none))
set_option maxHeartbeats 8000000 in
set_option maxRecDepth 100000 in
theorem epitomeref01_first.calls (k : Nat) (a0 : ByteArray) (r1 : Int) (r2 : Int) (w : World) (h : epitomeref01_first.f k a0 = some (r1, r2)) :
  Calls Tryd.prog 96 #[.string a0] w fun e w' => e = .returned (.tuple #[.int .i64 r1, .int .i64 r2]) ∧ Drawn0 w w' := by
 have H : (if (a0.size : Int) = 0 then (some (0, 0)) else (if 0 < (a0.size : Int) then (if (wrap64 (bt a0 0)) ≥ 240 then (epitomeref01_first.j0 k a0 (wrap64 (bt a0 0)) 0 (wrap64 (bt a0 0)) (decide ((wrap64 (bt a0 0)) < 248))) else (epitomeref01_first.j0 k a0 (wrap64 (bt a0 0)) 0 (wrap64 (bt a0 0)) false)) else (none))) = some (r1, r2) := h
 clear h
 by_cases c2 : (a0.size : Int) = 0
 ·rw [if_pos c2] at H
  have c2b0 : ((a0.size : Int) == 0) = true := beq_iff_eq.mpr c2
  have c2b1 : ((a0.size : Int) != 0) = false := bne_eq_false_iff_eq.mpr c2
  clear c2
  simp only [Option.some.injEq, Prod.mk.injEq] at H
  obtain ⟨rfl, rfl⟩ := H
  go_enter Tryd.func96, Tryd.ntmps96
  go_wp2
  go_ret2
  exact ⟨pj, by repeat (first | exact Drawn0.refl _ | apply Drawn0.step)⟩
 ·rw [if_neg c2] at H
  have c2b0 : ((a0.size : Int) == 0) = false := beq_eq_false_iff_ne.mpr c2
  have c2b1 : ((a0.size : Int) != 0) = true := bne_iff_ne.mpr c2
  by_cases c3 : 0 < (a0.size : Int)
  ·rw [if_pos c3] at H
   have c3b0 : decide (0 < (a0.size : Int)) = true := decide_eq_true c3
   have c3b1 : decide (0 < a0.size) = true := decide_eq_true (by omega)
   clear c3
   have HC5 := am H
   clear H
   have p4 : 0 ≤ (0 : Int) := (by omega)
   have q4 : 0 < a0.size := (by have : (0 : Int) < (a0.size : Int) := of_decide_eq_true as0; omega)
   have hx4 : ∀ h : 0 < a0.size, ((a0[0]'h).toNat : Int) = bt a0 0 := bt_at a0 0
   clear p4
   have qi4 : (0 < (a0.size : Int)) = True := eq_true (of_decide_eq_true as0)
   replace q4 := eq_true q4
   go_enter Tryd.func96, Tryd.ntmps96
   go_upto_region 6 with (fail)
   go_cut [21] (fun v21 wc => ∃ (kq : Nat) (x21_4 : Bool), v21 = .bool x21_4 ∧ Aside0 (epitomeref01_first.j0 kq a0 (wrap64 (bt a0 0)) 0 (wrap64 (bt a0 0)) x21_4 = some (r1, r2)) ∧ Aside0 (kq ≤ k) ∧ Drawn0 w wc)
   case first =>
    have H := HC5.out
    clear HC5
    by_cases c6 : (wrap64 (bt a0 0)) ≥ 240
    ·rw [if_pos c6] at H
     have c6b0 : decide (240 ≤ (wrap64 (bt a0 0))) = true := decide_eq_true c6
     clear c6
     (first | rw [c6b0] | (simp only [i64_w, i32_w]; rw [c6b0]) | skip)
     have H' := am H
     clear H
     go_wp2
     go_meet
     case rel => exact ⟨_, (decide ((wrap64 (bt a0 0)) < 248)), pj, H', ⟨by first | omega | exact Nat.le_refl _⟩, by repeat (first | exact Drawn0.refl _ | apply Drawn0.step)⟩
    ·rw [if_neg c6] at H
     have c6b0 : decide (240 ≤ (wrap64 (bt a0 0))) = false := decide_eq_false c6
     clear c6
     (first | rw [c6b0] | (simp only [i64_w, i32_w]; rw [c6b0]) | skip)
     have H' := am H
     clear H
     go_wp2
     go_meet
     case rel => exact ⟨_, (false), pj, H', ⟨by first | omega | exact Nat.le_refl _⟩, by repeat (first | exact Drawn0.refl _ | apply Drawn0.step)⟩
   case rest =>
    clear HC5
    try clear c2
    try clear c2b0
    try clear c2b1
    try clear p2
    try clear c3
    try clear c3b0
    try clear c3b1
    try clear p4
    try clear q4
    try clear hx4
    try clear qi4
    try clear c6
    try clear c6b0
    try clear p6
    try clear p4
    try clear q4
    obtain ⟨kq, x21_4, rfl, HA, HJ4, ⟨mc4, rfl⟩⟩ := hcut
    cases kq with
    | zero => exact absurd HA.out (by simp [epitomeref01_first.j0])
    | succ kj4 =>
     have H := HA.out
     clear HA
     simp only [epitomeref01_first.j0] at H
     have HC7 := am H
     clear H
     go_upto_if 21 with (fail)
     go_cut [5, 6] (fun v5 v6 wc => ∃ (kq : Nat) (x5_6 : Int) (x6_6 : Int), v5 = .int .i64 x5_6 ∧ v6 = .int .i64 x6_6 ∧ Aside0 (epitomeref01_first.j3 kq a0 x5_6 x6_6 = some (r1, r2)) ∧ Aside0 (kq ≤ kj4) ∧ Drawn0 w wc)
     case first =>
      have H := HC7.out
      clear HC7
      by_cases c8 : x21_4 = true
      ·subst c8
       have H1 : (epitomeref01_first.j3 kj4 a0 3 (wrap64 ((wrap64 (bt a0 0)) - 240))) = some (r1, r2) := by rw [if_pos rfl] at H; exact H
       clear H
       have H := H1
       clear H1
       have H' := am H
       clear H
       go_wp2
       go_meet
       case rel => exact ⟨_, (3), (wrap64 ((wrap64 (bt a0 0)) - 240)), pj, pj, H', ⟨by have := HJ4.out; first | omega | exact Nat.le_refl _⟩, by repeat (first | exact Drawn0.refl _ | apply Drawn0.step)⟩
      ·replace c8 := Bool.eq_false_iff.mpr c8
       subst c8
       have H1 : (if (wrap64 (bt a0 0)) ≥ 224 then (epitomeref01_first.j1 kj4 a0 (wrap64 (bt a0 0)) 0 (wrap64 (bt a0 0)) (decide ((wrap64 (bt a0 0)) < 240))) else (epitomeref01_first.j1 kj4 a0 (wrap64 (bt a0 0)) 0 (wrap64 (bt a0 0)) false)) = some (r1, r2) := by rw [if_neg (show ¬ (false = true) by decide)] at H; exact H
       clear H
       have H := H1
       clear H1
       have HC9 := am H
       clear H
       go_upto_region 9 with (fail)
       go_cut [29] (fun v29 wc => ∃ (kq : Nat) (x29_8 : Bool), v29 = .bool x29_8 ∧ Aside0 (epitomeref01_first.j1 kq a0 (wrap64 (bt a0 0)) 0 (wrap64 (bt a0 0)) x29_8 = some (r1, r2)) ∧ Aside0 (kq ≤ kj4) ∧ Drawn0 w wc)
       case first =>
        have H := HC9.out
        clear HC9
        by_cases c10 : (wrap64 (bt a0 0)) ≥ 224
        ·rw [if_pos c10] at H
         have c10b0 : decide (224 ≤ (wrap64 (bt a0 0))) = true := decide_eq_true c10
         clear c10
         (first | rw [c10b0] | (simp only [i64_w, i32_w]; rw [c10b0]) | skip)
         have H' := am H
         clear H
         go_wp2
         go_meet
         case rel => exact ⟨_, (decide ((wrap64 (bt a0 0)) < 240)), pj, H', ⟨by have := HJ4.out; first | omega | exact Nat.le_refl _⟩, by repeat (first | exact Drawn0.refl _ | apply Drawn0.step)⟩
        ·rw [if_neg c10] at H
         have c10b0 : decide (224 ≤ (wrap64 (bt a0 0))) = false := decide_eq_false c10
         clear c10
         (first | rw [c10b0] | (simp only [i64_w, i32_w]; rw [c10b0]) | skip)
         have H' := am H
         clear H
         go_wp2
         go_meet
         case rel => exact ⟨_, (false), pj, H', ⟨by have := HJ4.out; first | omega | exact Nat.le_refl _⟩, by repeat (first | exact Drawn0.refl _ | apply Drawn0.step)⟩
       case rest =>
        clear HC9
        try clear c1
        try clear c2
        try clear c2b0
        try clear c2b1
        try clear p2
        try clear c3
        try clear c3b0
        try clear c3b1
        try clear c4
        try clear p4
        try clear q4
        try clear hx4
        try clear qi4
        try clear c6
        try clear c6b0
        try clear p6
        try clear c8
        try clear c9
        try clear c10
        try clear c10b0
        try clear p2
        try clear p4
        try clear p6
        try clear q4
        obtain ⟨kq, x29_8, rfl, HA, HJ8, ⟨mc8, rfl⟩⟩ := hcut
        cases kq with
        | zero => exact absurd HA.out (by simp [epitomeref01_first.j1])
        | succ kj8 =>
         have H := HA.out
         clear HA
         simp only [epitomeref01_first.j1] at H
         by_cases c11 : x29_8 = true
         ·subst c11
          have H1 : (epitomeref01_first.j3 kj8 a0 2 (wrap64 ((wrap64 (bt a0 0)) - 224))) = some (r1, r2) := by rw [if_pos rfl] at H; exact H
          clear H
          have H := H1
          clear H1
          have H' := am H
          clear H
          go_wp2
          go_meet
          case rel => exact ⟨_, (2), (wrap64 ((wrap64 (bt a0 0)) - 224)), pj, pj, H', ⟨by have := HJ4.out; have := HJ8.out; first | omega | exact Nat.le_refl _⟩, by repeat (first | exact Drawn0.refl _ | apply Drawn0.step)⟩
         ·replace c11 := Bool.eq_false_iff.mpr c11
          subst c11
          have H1 : (if (wrap64 (bt a0 0)) ≥ 192 then (epitomeref01_first.j2 kj8 a0 (wrap64 (bt a0 0)) 0 (wrap64 (bt a0 0)) (decide ((wrap64 (bt a0 0)) < 224))) else (epitomeref01_first.j2 kj8 a0 (wrap64 (bt a0 0)) 0 (wrap64 (bt a0 0)) false)) = some (r1, r2) := by rw [if_neg (show ¬ (false = true) by decide)] at H; exact H
          clear H
          have H := H1
          clear H1
          have HC12 := am H
          clear H
          go_upto_region 12 with (fail)
          go_cut [37] (fun v37 wc => ∃ (kq : Nat) (x37_11 : Bool), v37 = .bool x37_11 ∧ Aside0 (epitomeref01_first.j2 kq a0 (wrap64 (bt a0 0)) 0 (wrap64 (bt a0 0)) x37_11 = some (r1, r2)) ∧ Aside0 (kq ≤ kj8) ∧ Drawn0 w wc)
          case first =>
           have H := HC12.out
           clear HC12
           by_cases c13 : (wrap64 (bt a0 0)) ≥ 192
           ·rw [if_pos c13] at H
            have c13b0 : decide (192 ≤ (wrap64 (bt a0 0))) = true := decide_eq_true c13
            clear c13
            (first | rw [c13b0] | (simp only [i64_w, i32_w]; rw [c13b0]) | skip)
            have H' := am H
            clear H
            go_wp2
            go_meet
            case rel => exact ⟨_, (decide ((wrap64 (bt a0 0)) < 224)), pj, H', ⟨by have := HJ4.out; have := HJ8.out; first | omega | exact Nat.le_refl _⟩, by repeat (first | exact Drawn0.refl _ | apply Drawn0.step)⟩
           ·rw [if_neg c13] at H
            have c13b0 : decide (192 ≤ (wrap64 (bt a0 0))) = false := decide_eq_false c13
            clear c13
            (first | rw [c13b0] | (simp only [i64_w, i32_w]; rw [c13b0]) | skip)
            have H' := am H
            clear H
            go_wp2
            go_meet
            case rel => exact ⟨_, (false), pj, H', ⟨by have := HJ4.out; have := HJ8.out; first | omega | exact Nat.le_refl _⟩, by repeat (first | exact Drawn0.refl _ | apply Drawn0.step)⟩
          case rest =>
           clear HC12
           try clear c1
           try clear c2
           try clear c2b0
           try clear c2b1
           try clear p2
           try clear c3
           try clear c3b0
           try clear c3b1
           try clear c4
           try clear p4
           try clear q4
           try clear hx4
           try clear qi4
           try clear c6
           try clear c6b0
           try clear p6
           try clear c8
           try clear c9
           try clear c10
           try clear c10b0
           try clear c11
           try clear c13
           try clear c13b0
           try clear p2
           try clear p4
           try clear p6
           try clear q4
           obtain ⟨kq, x37_11, rfl, HA, HJ11, ⟨mc11, rfl⟩⟩ := hcut
           cases kq with
           | zero => exact absurd HA.out (by simp [epitomeref01_first.j2])
           | succ kj11 =>
            have H := HA.out
            clear HA
            simp only [epitomeref01_first.j2] at H
            by_cases c14 : x37_11 = true
            ·subst c14
             have H1 : (epitomeref01_first.j3 kj11 a0 1 (wrap64 ((wrap64 (bt a0 0)) - 192))) = some (r1, r2) := by rw [if_pos rfl] at H; exact H
             clear H
             have H := H1
             clear H1
             have H' := am H
             clear H
             go_wp2
             go_meet
             case rel => exact ⟨_, (1), (wrap64 ((wrap64 (bt a0 0)) - 192)), pj, pj, H', ⟨by have := HJ4.out; have := HJ8.out; have := HJ11.out; first | omega | exact Nat.le_refl _⟩, by repeat (first | exact Drawn0.refl _ | apply Drawn0.step)⟩
            ·replace c14 := Bool.eq_false_iff.mpr c14
             subst c14
             have H1 : (if (wrap64 (bt a0 0)) ≥ 128 then (some (0, 0)) else (epitomeref01_first.j3 kj11 a0 0 (wrap64 (bt a0 0)))) = some (r1, r2) := by rw [if_neg (show ¬ (false = true) by decide)] at H; exact H
             clear H
             have H := H1
             clear H1
             by_cases c15 : (wrap64 (bt a0 0)) ≥ 128
             ·rw [if_pos c15] at H
              have c15b0 : decide (128 ≤ (wrap64 (bt a0 0))) = true := decide_eq_true c15
              clear c15
              simp only [Option.some.injEq, Prod.mk.injEq] at H
              obtain ⟨rfl, rfl⟩ := H
              go_wp2
              go_ret2
              exact ⟨pj, by repeat (first | exact Drawn0.refl _ | apply Drawn0.step)⟩
             ·rw [if_neg c15] at H
              have c15b0 : decide (128 ≤ (wrap64 (bt a0 0))) = false := decide_eq_false c15
              clear c15
              have H' := am H
              clear H
              go_wp2
              go_meet
              case rel => exact ⟨_, (0), ((wrap64 (bt a0 0))), pj, pj, H', ⟨by have := HJ4.out; have := HJ8.out; have := HJ11.out; first | omega | exact Nat.le_refl _⟩, by repeat (first | exact Drawn0.refl _ | apply Drawn0.step)⟩
     case rest =>
      clear HC7
      try clear c1
      try clear c2
      try clear c2b0
      try clear c2b1
      try clear p2
      try clear c3
      try clear c3b0
      try clear c3b1
      try clear c4
      try clear p4
      try clear q4
      try clear hx4
      try clear qi4
      try clear c6
      try clear c6b0
      try clear p6
      try clear c8
      try clear c9
      try clear c10
      try clear c10b0
      try clear c11
      try clear c13
      try clear c13b0
      try clear c14
      try clear c15
      try clear c15b0
      try clear p2
      try clear p4
      try clear p6
      try clear q4
      obtain ⟨kq, x5_6, x6_6, rfl, rfl, HA, HJ6, ⟨mc6, rfl⟩⟩ := hcut
      cases kq with
      | zero => exact absurd HA.out (by simp [epitomeref01_first.j3])
      | succ kj6 =>
       have H := HA.out
       clear HA
       simp only [epitomeref01_first.j3] at H
       by_cases c16 : (a0.size : Int) < (wrap64 (x5_6 + 1))
       ·rw [if_pos c16] at H
        have c16b0 : decide ((a0.size : Int) < (wrap64 (x5_6 + 1))) = true := decide_eq_true c16
        clear c16
        simp only [Option.some.injEq, Prod.mk.injEq] at H
        obtain ⟨rfl, rfl⟩ := H
        go_wp2
        go_ret2
        exact ⟨pj, by repeat (first | exact Drawn0.refl _ | apply Drawn0.step)⟩
       ·rw [if_neg c16] at H
        have c16b0 : decide ((a0.size : Int) < (wrap64 (x5_6 + 1))) = false := decide_eq_false c16
        clear c16
        have H' := am H
        clear H
        go_wp2
        go_loopg [6, 7] kj6 (fun kq v6 v7 w' => ∃ (x6_3 : Int) (x7_3 : Int), v6 = .int .i64 x6_3 ∧ v7 = .int .i64 x7_3 ∧ Aside0 (epitomeref01_first.l0 kq a0 x5_6 x6_3 x7_3 = some (r1, r2)) ∧ Aside0 (kq ≤ kj6) ∧ Drawn0 w w')
        case atStart => exact ⟨(x6_6), (1), pj, pj, H', ⟨Nat.le_refl _⟩, by repeat (first | exact Drawn0.refl _ | apply Drawn0.step)⟩
        case round =>
         clear H'
         try clear c1
         try clear c2
         try clear c2b0
         try clear c2b1
         try clear p2
         try clear c3
         try clear c3b0
         try clear c3b1
         try clear c4
         try clear p4
         try clear q4
         try clear hx4
         try clear qi4
         try clear c6
         try clear c6b0
         try clear p6
         try clear c8
         try clear c9
         try clear c10
         try clear c10b0
         try clear c11
         try clear c13
         try clear c13b0
         try clear c14
         try clear c15
         try clear c15b0
         try clear c16
         try clear c16b0
         try clear p2
         try clear p4
         try clear p6
         try clear q4
         obtain ⟨x6_3, x7_3, rfl, rfl, HA, HK3, ⟨m3, rfl⟩⟩ := hrel
         cases gk with
         | zero => exact absurd HA.out (by simp [epitomeref01_first.l0])
         | succ k3 =>
          have H := HA.out
          clear HA
          simp only [epitomeref01_first.l0] at H
          by_cases c17 : x7_3 ≤ x5_6
          ·rw [if_pos c17] at H
           have c17b0 : decide (x7_3 ≤ x5_6) = true := decide_eq_true c17
           clear c17
           by_cases c18 : 0 ≤ x7_3
           ·rw [if_pos c18] at H
            have c18b0 : decide (0 ≤ x7_3) = true := decide_eq_true c18
            clear c18
            by_cases c19 : x7_3 < (a0.size : Int)
            ·rw [if_pos c19] at H
             have c19b0 : decide (x7_3 < (a0.size : Int)) = true := decide_eq_true c19
             clear c19
             by_cases c21 : (wrap64 (bt a0 x7_3)) < 128
             ·rw [if_pos c21] at H
              have c21b0 : decide ((wrap64 (bt a0 x7_3)) < 128) = true := decide_eq_true c21
              clear c21
              simp only [Option.some.injEq, Prod.mk.injEq] at H
              obtain ⟨rfl, rfl⟩ := H
              have p20 : 0 ≤ (x7_3 : Int) := of_decide_eq_true as0
              have q20 : x7_3 < (a0.size : Int) := of_decide_eq_true as0
              have hx20 := bt_at a0 x7_3
              replace p20 := eq_true p20
              replace q20 := eq_true q20
              go_wp2
              go_ret2
              exact ⟨pj, by repeat (first | exact Drawn0.refl _ | apply Drawn0.step)⟩
             ·rw [if_neg c21] at H
              have c21b0 : decide ((wrap64 (bt a0 x7_3)) < 128) = false := decide_eq_false c21
              clear c21
              by_cases c22 : (wrap64 (bt a0 x7_3)) > 191
              ·rw [if_pos c22] at H
               have c22b0 : decide (191 < (wrap64 (bt a0 x7_3))) = true := decide_eq_true c22
               clear c22
               simp only [Option.some.injEq, Prod.mk.injEq] at H
               obtain ⟨rfl, rfl⟩ := H
               have p20 : 0 ≤ (x7_3 : Int) := of_decide_eq_true as0
               have q20 : x7_3 < (a0.size : Int) := of_decide_eq_true as0
               have hx20 := bt_at a0 x7_3
               replace p20 := eq_true p20
               replace q20 := eq_true q20
               go_wp2
               go_ret2
               exact ⟨pj, by repeat (first | exact Drawn0.refl _ | apply Drawn0.step)⟩
              ·rw [if_neg c22] at H
               have c22b0 : decide (191 < (wrap64 (bt a0 x7_3))) = false := decide_eq_false c22
               clear c22
               have H' := am H
               clear H
               have p20 : 0 ≤ (x7_3 : Int) := of_decide_eq_true as0
               have q20 : x7_3 < (a0.size : Int) := of_decide_eq_true as0
               have hx20 := bt_at a0 x7_3
               replace p20 := eq_true p20
               replace q20 := eq_true q20
               go_wp2
               go_roundg k3
               case measure => have := HJ4.out; have := HJ6.out; have := HK3.out; omega
               case rel => exact ⟨(wrap64 ((wrap64 ((wrap64 (x6_3 * 64)) + (wrap64 (bt a0 x7_3)))) - 128)), (wrap64 (x7_3 + 1)), pj, pj, H', ⟨by have := HJ4.out; have := HJ6.out; have := HK3.out; omega⟩, by repeat (first | exact Drawn0.refl _ | apply Drawn0.step)⟩
            ·rw [if_neg c19] at H
             exact absurd H (by simp)
           ·rw [if_neg c18] at H
            exact absurd H (by simp)
          ·rw [if_neg c17] at H
           have c17b0 : decide (x7_3 ≤ x5_6) = false := decide_eq_false c17
           clear c17
           replace H := Option.bind_eq_some_iff.mp H
           obtain ⟨t232, A230, H⟩ := H
           replace H : (if t232 = (wrap64 (x5_6 + 1)) then (some (x6_3, wrap64 (x5_6 + 1))) else (some (0, 0))) = some (r1, r2) := H
           have A23 := am A230
           clear A230
           by_cases c24 : t232 = (wrap64 (x5_6 + 1))
           ·rw [if_pos c24] at H
            have c24b0 : (t232 == (wrap64 (x5_6 + 1))) = true := beq_iff_eq.mpr c24
            have c24b1 : (t232 != (wrap64 (x5_6 + 1))) = false := bne_eq_false_iff_eq.mpr c24
            clear c24
            simp only [Option.some.injEq, Prod.mk.injEq] at H
            obtain ⟨rfl, rfl⟩ := H
            go_wp2_with (first | ((with_reducible refine gate_callee (f := 77) rfl ?_); refine goesL_ (some 68) rfl rfl Tryd.func77 (by kernel_rfl) rfl #[.int .i64 x6_3] rfl ar ?_; (with_reducible refine (epitomeref01_size.calls k3 x6_3 t232 _ A23.out).mono ?_); rintro e w' ⟨rfl, ⟨nd, rfl⟩⟩; refine ⟨_, rfl, ?_⟩))
            go_ret2
            exact ⟨pj, by repeat (first | exact Drawn0.refl _ | apply Drawn0.step)⟩
           ·rw [if_neg c24] at H
            have c24b0 : (t232 == (wrap64 (x5_6 + 1))) = false := beq_eq_false_iff_ne.mpr c24
            have c24b1 : (t232 != (wrap64 (x5_6 + 1))) = true := bne_iff_ne.mpr c24
            simp only [Option.some.injEq, Prod.mk.injEq] at H
            obtain ⟨rfl, rfl⟩ := H
            go_wp2_with (first | ((with_reducible refine gate_callee (f := 77) rfl ?_); refine goesL_ (some 68) rfl rfl Tryd.func77 (by kernel_rfl) rfl #[.int .i64 x6_3] rfl ar ?_; (with_reducible refine (epitomeref01_size.calls k3 x6_3 t232 _ A23.out).mono ?_); rintro e w' ⟨rfl, ⟨nd, rfl⟩⟩; refine ⟨_, rfl, ?_⟩))
            go_ret2
            exact ⟨pj, by repeat (first | exact Drawn0.refl _ | apply Drawn0.step)⟩
  ·rw [if_neg c3] at H
   exact absurd H (by simp)
def epitomeref01_Starts.l0 : Nat → ByteArray → List Int → Int → Option (List Int × Bool)
 | 0, _, _, _ => none
 | k + 1, x0, x4, x5 => if x5 < (x0.size : Int) then (if 0 ≤ x5 then (if x5 ≤ (x0.size : Int) then ((epitomeref01_first.f k (x0.extract (x5 : Int).toNat x0.size)).bind fun bt236 => (if bt236.2 = 0 then (some (([] : List Int), false)) else (if x4.length < 17592186044416 then (epitomeref01_Starts.l0 k x0 (x4 ++ [wrap64 (x5 + bt236.2)]) (wrap64 (x5 + bt236.2))) else (none)))) else (none)) else (none)) else (some (x4, true))
def epitomeref01_Starts.f (k : Nat) (a0 : ByteArray) : Option (List Int × Bool) := epitomeref01_Starts.l0 k a0 (([0] : List Int)) 0
set_option maxHeartbeats 8000000 in
set_option maxRecDepth 100000 in
theorem epitomeref01_Starts.calls (k : Nat) (a0 : ByteArray) (r1 : List Int) (r2 : Bool) (w : World) (h : epitomeref01_Starts.f k a0 = some (r1, r2)) :
  Calls Tryd.prog 87 #[.string a0] w fun e w' => ∃ v0_ : Value, e = .returned (.tuple #[v0_, .bool r2]) ∧ Kd.R (Kd.int .i64) 3 w' w.heap.size (fun _ => True) v0_ r1 ∧ Below w.heap.size w w' := by
 have HB := am (Below.refl w.heap.size w)
 have H : (epitomeref01_Starts.l0 k a0 (([0] : List Int)) 0) = some (r1, r2) := h
 clear h
 obtain ⟨y233, hy233⟩ : ∃ y_ : List Int, y_ = (([0] : List Int)) := ⟨_, rfl⟩
 replace H : (epitomeref01_Starts.l0 k a0 y233 0) = some (r1, r2) := by first | (rw [hy233]; with_reducible exact H) | (have H2_ := (Option.bind_some _ _).symm.trans H; rw [hy233]; with_reducible exact H2_) | (have H2_ := (Option.bind_some _ _).symm.trans H; with_reducible exact H2_) | with_reducible exact H | (rw [hy233]; exact H) | exact H
 have Ny233 := am hy233
 clear hy233
 have H' := am H
 clear H
 go_enter Tryd.func87, Tryd.ntmps87
 go_wp2_with (first | ((with_reducible refine gate_dst (N := 8) rfl ?_); refine Kd.R_lit (Kd.int .i64) _ 3 ?hg (N := 8) ?hd (xs := ([0] : List Int)) (inner := [.int .i64 0]) (ok := fun _ => True) (okp := fun _ => True) ?hr ?hp (fun _ hk => hk) trivial (Below.refl _ _) (Nat.le_refl _) (by simp) ?_; (case hd => rfl); (case hg => rfl); (case hr => first | (go_simp; done) | (go_simp; rfl)); (case hp => exact (Reps.one (show Kd.M (Kd.int .i64) _ _ _ 0 [.int .i64 0] from rfl) (Reps.none _ _))); intro v234 w2 ho3 hb hg_ hnew_; clear hg_ hnew_; (first | rw [← Ny233.out] at ho3 | (simp only [Int.reduceToNat] at ho3; rw [← Ny233.out] at ho3)); have n0_ := am (Kd.R_lower ho3 (below_size bl)); have n1_ := am (below_step bl hb); clear HB; have HO235 := n0_; have HB := n1_; clear n0_ n1_; clear hb ho3))
 go_loopg [4, 5] k (fun kq v4 v5 w' => ∃ (x4_1 : List Int) (x5_1 : Int), v5 = .int .i64 x5_1 ∧ Aside0 (epitomeref01_Starts.l0 kq a0 x4_1 x5_1 = some (r1, r2)) ∧ Aside0 (kq ≤ k) ∧ Aside0 (Kd.R (Kd.int .i64) 3 w' w.heap.size (fun _ => True) v4 x4_1) ∧ Aside0 (Below w.heap.size w w'))
 case atStart => exact ⟨(y233), (0), pj, H', ⟨Nat.le_refl _⟩, ⟨by refine kR ?_; exact HO235.out⟩, ⟨bl⟩⟩
 case round =>
  clear H'
  try clear p2
  obtain ⟨x4_1, x5_1, rfl, HA, HK1, HO_4, HB⟩ := hrel
  cases gk with
  | zero => exact absurd HA.out (by simp [epitomeref01_Starts.l0])
  | succ k1 =>
   have H := HA.out
   clear HA
   simp only [epitomeref01_Starts.l0] at H
   by_cases c4 : x5_1 < (a0.size : Int)
   ·rw [if_pos c4] at H
    have c4b0 : decide (x5_1 < (a0.size : Int)) = true := decide_eq_true c4
    clear c4
    by_cases c5 : 0 ≤ x5_1
    ·rw [if_pos c5] at H
     have c5b0 := eq_true c5
     have c5b1 : decide (0 ≤ x5_1) = true := decide_eq_true c5
     clear c5
     by_cases c6 : x5_1 ≤ (a0.size : Int)
     ·rw [if_pos c6] at H
      have c6b0 := eq_true c6
      have c6b1 : decide (x5_1 ≤ (a0.size : Int)) = true := decide_eq_true c6
      clear c6
      replace H := Option.bind_eq_some_iff.mp H
      obtain ⟨⟨t236, t237⟩, A70, H⟩ := H
      replace H : (if t237 = 0 then (some (([] : List Int), false)) else (if x4_1.length < 17592186044416 then (epitomeref01_Starts.l0 k1 a0 (x4_1 ++ [wrap64 (x5_1 + t237)]) (wrap64 (x5_1 + t237))) else (none))) = some (r1, r2) := H
      have A7 := am A70
      clear A70
      by_cases c8 : t237 = 0
      ·rw [if_pos c8] at H
       have c8b0 : (t237 == 0) = true := beq_iff_eq.mpr c8
       have c8b1 : (t237 != 0) = false := bne_eq_false_iff_eq.mpr c8
       clear c8
       simp only [Option.some.injEq, Prod.mk.injEq] at H
       obtain ⟨rfl, rfl⟩ := H
       go_wp2_with (first | ((with_reducible refine gate_callee (f := 96) rfl ?_); refine goesL_ (some 17) rfl rfl Tryd.func96 (by kernel_rfl) rfl #[.string (a0.extract (x5_1 : Int).toNat a0.size)] rfl ar ?_; (with_reducible refine (epitomeref01_first.calls k1 (a0.extract (x5_1 : Int).toNat a0.size) t236 t237 _ A7.out).mono ?_); rintro e w' ⟨rfl, ⟨nd, rfl⟩⟩; refine ⟨_, rfl, ?_⟩))
       go_ret2
       exact ⟨_, by first | rfl | (simp [errW_none, errW_some] <;> rfl) | (simp [*, errW_none, errW_some] <;> rfl), by first | exact Kd.R_nil _ _ _ _ _ | exact Kd.N_nil _ _ _ _ _ | exact Kd.V_nil _ _ _ _ _ | exact Kd.Q_nil _ _ _ _ _ | exact Kd.S_nil _ _ _ _ _, bl⟩
      ·rw [if_neg c8] at H
       have c8b0 : (t237 == 0) = false := beq_eq_false_iff_ne.mpr c8
       have c8b1 : (t237 != 0) = true := bne_iff_ne.mpr c8
       by_cases c9 : x4_1.length < 17592186044416
       ·rw [if_pos c9] at H
        have LMc9 := am c9
        clear c9
        obtain ⟨y238, hy238⟩ : ∃ y_ : List Int, y_ = (x4_1 ++ [wrap64 (x5_1 + t237)]) := ⟨_, rfl⟩
        replace H : (epitomeref01_Starts.l0 k1 a0 y238 (wrap64 (x5_1 + t237))) = some (r1, r2) := by first | (rw [hy238]; with_reducible exact H) | (have H2_ := (Option.bind_some _ _).symm.trans H; rw [hy238]; with_reducible exact H2_) | (have H2_ := (Option.bind_some _ _).symm.trans H; with_reducible exact H2_) | with_reducible exact H | (rw [hy238]; exact H) | exact H
        have Ny238 := am hy238
        clear hy238
        have H' := am H
        clear H
        go_wp2_with (first | ((with_reducible refine gate_callee (f := 96) rfl ?_); refine goesL_ (some 17) rfl rfl Tryd.func96 (by kernel_rfl) rfl #[.string (a0.extract (x5_1 : Int).toNat a0.size)] rfl ar ?_; (with_reducible refine (epitomeref01_first.calls k1 (a0.extract (x5_1 : Int).toNat a0.size) t236 t237 _ A7.out).mono ?_); rintro e w' ⟨rfl, ⟨nd, rfl⟩⟩; refine ⟨_, rfl, ?_⟩) | ((with_reducible refine gate_builtin (b := .append) (xs := #[.tmp 25, .tmp 27]) rfl ?_); at_builtin; refine Kd.R_append (Kd.int .i64) (w0 := w) w.heap.size rfl (.tmp 25) (.tmp 27) 38 3 (.int .i64 0) 8 rfl Tryd.underlying38 info3 rfl (by decide) (by omega) u4 x4_1 (wrap64 (x5_1 + t237)) [.int .i64 (wrap64 (x5_1 + t237))] (fun _ => True) (fun _ => False) rfl rfl ?aP (fun _ hk => hk.elim) ?aF ?aO ?aB ?aS ?aL ?_; (case aP => exact rfl); (case aB => exact bl); (case aF => exact (fun _ _ => trivial)); (case aO => exact (by refine kR ?_; exact HO_4.out)); (case aS => exact (below_size bl)); (case aL => have := LMc9.out; omega); intro v239 w10 ho hb hg hat; rw [← Ny238.out] at ho; have n0_ := am (hb); have n1_ := am (ho); clear HB; clear HO_4; have HB := n0_; have HO240 := n1_; clear n0_ n1_; clear ho hb hg hat))
        go_roundg k1
        case measure => have := HK1.out; omega
        case rel => exact ⟨(y238), (wrap64 (x5_1 + t237)), pj, H', ⟨by have := HK1.out; omega⟩, ⟨by refine kR ?_; exact HO240.out⟩, ⟨bl⟩⟩
       ·rw [if_neg c9] at H
        exact absurd H (by simp)
     ·rw [if_neg c6] at H
      exact absurd H (by simp)
    ·rw [if_neg c5] at H
     exact absurd H (by simp)
   ·rw [if_neg c4] at H
    have c4b0 : decide (x5_1 < (a0.size : Int)) = false := decide_eq_false c4
    clear c4
    simp only [Option.some.injEq, Prod.mk.injEq] at H
    obtain ⟨rfl, rfl⟩ := H
    go_wp2
    go_ret2
    exact ⟨_, by first | rfl | (simp [errW_none, errW_some] <;> rfl) | (simp [*, errW_none, errW_some] <;> rfl), by refine kR ?_; exact HO_4.out, bl⟩
def epitomeref01_Count.f (k : Nat) (a0 : ByteArray) : Option (Int) := (epitomeref01_Starts.f k a0).bind fun bt241 => (some (wrap64 ((bt241.1.length : Int) - 1)))
set_option maxHeartbeats 8000000 in
set_option maxRecDepth 100000 in
theorem epitomeref01_Count.calls (k : Nat) (a0 : ByteArray) (r : Int) (w : World) (h : epitomeref01_Count.f k a0 = some r) :
  Calls Tryd.prog 52 #[.string a0] w fun e w' => e = .returned (.int .i64 r) ∧ Below w.heap.size w w' := by
 have HB := am (Below.refl w.heap.size w)
 have H : ((epitomeref01_Starts.f k a0).bind fun bt241 => (some (wrap64 ((bt241.1.length : Int) - 1)))) = some r := h
 clear h
 replace H := Option.bind_eq_some_iff.mp H
 obtain ⟨⟨t241, t242⟩, A20, H⟩ := H
 replace H : (some (wrap64 ((t241.length : Int) - 1))) = some r := H
 have A2 := am A20
 clear A20
 obtain rfl := Option.some.inj H
 simp only [Option.some.injEq, Prod.mk.injEq] at H
 obtain ⟨rfl⟩ := H
 go_enter Tryd.func52, Tryd.ntmps52
 go_wp2_with (first | ((with_reducible refine gate_callee (f := 87) rfl ?_); refine goesL_ (some 7) rfl rfl Tryd.func87 (by kernel_rfl) rfl #[.string a0] rfl ar ?_; (with_reducible refine (epitomeref01_Starts.calls k a0 t241 t242 _ A2.out).mono ?_); rintro e w3 ⟨v243, rfl, ho0, hb⟩; refine ⟨_, rfl, ?_⟩; have n0_ := am (Kd.R_lower ho0 (below_size bl)); have n1_ := am (below_step bl hb); clear HB; have HO244 := n0_; have HB := n1_; clear n0_ n1_; (try clear hb); (try clear hb2); (try clear hk); (try clear hi); (try clear ho0); obtain ⟨Ao4, co4, eo4⟩ := Kd.R_slice HO244.out; subst eo4))
 go_ret
 exact ⟨by first | rfl | (simp [errW_none, errW_some] <;> rfl) | (simp [*, errW_none, errW_some] <;> rfl), bl⟩
def epitomeref03_Out.f (k : Nat) (a0_0 : Int) (a0_1 : Int) (a0_2 : ByteArray) : Option (Int) := if a0_0 = 1 then (some a0_1) else (if a0_0 = 2 then ((epitomeref01_Count.f k a0_2).bind fun t246 => (some (mx t246 0))) else (some 0))
set_option maxHeartbeats 8000000 in
set_option maxRecDepth 100000 in
theorem epitomeref03_Out.calls (k : Nat) (a0_0 : Int) (a0_1 : Int) (a0_2 : ByteArray) (r : Int) (w : World) (h : epitomeref03_Out.f k a0_0 a0_1 a0_2 = some r) :
  Calls Tryd.prog 95 #[.agg #[.int .i64 a0_0, .int .i64 a0_1, .string a0_2]] w fun e w' => e = .returned (.int .i64 r) ∧ Below w.heap.size w w' := by
 have hu25 := Tryd.underlying25
 have HB := am (Below.refl w.heap.size w)
 have H : (if a0_0 = 1 then (some a0_1) else (if a0_0 = 2 then ((epitomeref01_Count.f k a0_2).bind fun t246 => (some (mx t246 0))) else (some 0))) = some r := h
 clear h
 by_cases c2 : a0_0 = 1
 ·rw [if_pos c2] at H
  have c2b0 : (a0_0 == 1) = true := beq_iff_eq.mpr c2
  have c2b1 : (a0_0 != 1) = false := bne_eq_false_iff_eq.mpr c2
  clear c2
  obtain rfl := Option.some.inj H
  simp only [Option.some.injEq, Prod.mk.injEq] at H
  obtain ⟨rfl⟩ := H
  go_enter Tryd.func95, Tryd.ntmps95
  go_wp2_with (first | ((with_reducible refine gate_dst (N := 1) rfl ?_); refine box_event ?hg (N := 1) ?hd (cs := #[.int .i64 a0_0, .int .i64 a0_1, .string a0_2]) (t := 25) ?hr ?_; (case hd => rfl); (case hg => rfl); (case hr => first | (go_simp; done) | (go_simp; rfl)); intro gb245 hg w3 hbox hb; have n0_ := am (below_step bl hb); have n1_ := am (hbox); have n2_ := am ((gs : w.heap.size ≤ gb245)); have n3_ := am ((gs : w.heap.size ≤ gb245)); clear HB; have HB := n0_; have BK245 := n1_; have GW245 := n2_; have GE245 := n3_; clear n0_ n1_ n2_ n3_; clear hb hbox hg; have hcz4_0 : w3.cell? ⟨gb245, 0, none⟩ = some (.int .i64 a0_0) := (blk_cell BK245.out 0).trans rfl; have hcz4_1 : w3.cell? ⟨gb245, 1, none⟩ = some (.int .i64 a0_1) := (blk_cell BK245.out 1).trans rfl; have hcz4_2 : w3.cell? ⟨gb245, 2, none⟩ = some (.string a0_2) := (blk_cell BK245.out 2).trans rfl; have hfz4_0 := blk_frozen BK245.out 0; have hfz4_1 := blk_frozen BK245.out 1; have hfz4_2 := blk_frozen BK245.out 2))
  go_ret
  exact ⟨by first | rfl | (simp [errW_none, errW_some] <;> rfl) | (simp [*, errW_none, errW_some] <;> rfl), bl⟩
 ·rw [if_neg c2] at H
  have c2b0 : (a0_0 == 1) = false := beq_eq_false_iff_ne.mpr c2
  have c2b1 : (a0_0 != 1) = true := bne_iff_ne.mpr c2
  by_cases c5 : a0_0 = 2
  ·rw [if_pos c5] at H
   have c5b0 : (a0_0 == 2) = true := beq_iff_eq.mpr c5
   have c5b1 : (a0_0 != 2) = false := bne_eq_false_iff_eq.mpr c5
   clear c5
   replace H := Option.bind_eq_some_iff.mp H
   obtain ⟨t246, A60, H⟩ := H
   replace H : (some (mx t246 0)) = some r := H
   have A6 := am A60
   clear A60
   obtain ⟨ji7, hji7⟩ : ∃ j_ : Int, (mx t246 0) = j_ := ⟨_, rfl⟩
   replace H : (some ji7) = some r := by first | (rw [hji7] at H; exact H) | (simp only [hji7] at H ⊢; exact H)
   (try rw [hji7] at A6)
   (try (have hji7l : 0 ≤ ji7 := by (rw [← hji7]; unfold mx; (repeat' split) <;> omega)))
   (try (have hji7m : 0 ≤ ji7 := by omega))
   have hji7_ : (if t246 < 0 then 0 else t246) = ji7 := hji7
   obtain rfl := Option.some.inj H
   simp only [Option.some.injEq, Prod.mk.injEq] at H
   obtain ⟨rfl⟩ := H
   go_enter Tryd.func95, Tryd.ntmps95
   go_wp2_with (first | ((with_reducible refine gate_dst (N := 1) rfl ?_); refine box_event ?hg (N := 1) ?hd (cs := #[.int .i64 a0_0, .int .i64 a0_1, .string a0_2]) (t := 25) ?hr ?_; (case hd => rfl); (case hg => rfl); (case hr => first | (go_simp; done) | (go_simp; rfl)); intro gb245 hg w8 hbox hb; have n0_ := am (below_step bl hb); have n1_ := am (hbox); have n2_ := am ((gs : w.heap.size ≤ gb245)); have n3_ := am ((gs : w.heap.size ≤ gb245)); clear HB; have HB := n0_; have BK245 := n1_; have GW245 := n2_; have GE245 := n3_; clear n0_ n1_ n2_ n3_; clear hb hbox hg; have hcz9_0 : w8.cell? ⟨gb245, 0, none⟩ = some (.int .i64 a0_0) := (blk_cell BK245.out 0).trans rfl; have hcz9_1 : w8.cell? ⟨gb245, 1, none⟩ = some (.int .i64 a0_1) := (blk_cell BK245.out 1).trans rfl; have hcz9_2 : w8.cell? ⟨gb245, 2, none⟩ = some (.string a0_2) := (blk_cell BK245.out 2).trans rfl; have hfz9_0 := blk_frozen BK245.out 0; have hfz9_1 := blk_frozen BK245.out 1; have hfz9_2 := blk_frozen BK245.out 2) | ((with_reducible refine gate_callee (f := 52) rfl ?_); refine goesL_ (some 13) rfl rfl Tryd.func52 (by kernel_rfl) rfl #[.string a0_2] rfl ar ?_; (with_reducible refine (epitomeref01_Count.calls k a0_2 t246 _ A6.out).mono ?_); rintro e w10 ⟨rfl, hb⟩; refine ⟨_, rfl, ?_⟩; have n0_ := am (blk_below (g := gb245) (o := .cells #[.int .i64 a0_0, .int .i64 a0_1, .string a0_2] 25 (0, 0)) (by refine bk ?_; exact BK245.out) hb); have n1_ := am (below_step bl hb); clear BK245; clear HB; have BK245 := n0_; have HB := n1_; clear n0_ n1_; (try clear hb); (try clear hb2); (try clear hk); (try clear hi)))
   go_ret
   exact ⟨by first | rfl | (simp [errW_none, errW_some] <;> rfl) | (simp only [← hji7]; first | rfl | (simp [errW_none, errW_some] <;> rfl)) | (simp [*, errW_none, errW_some] <;> rfl), bl⟩
  ·rw [if_neg c5] at H
   have c5b0 : (a0_0 == 2) = false := beq_eq_false_iff_ne.mpr c5
   have c5b1 : (a0_0 != 2) = true := bne_iff_ne.mpr c5
   obtain rfl := Option.some.inj H
   simp only [Option.some.injEq, Prod.mk.injEq] at H
   obtain ⟨rfl⟩ := H
   go_enter Tryd.func95, Tryd.ntmps95
   go_wp2_with (first | ((with_reducible refine gate_dst (N := 1) rfl ?_); refine box_event ?hg (N := 1) ?hd (cs := #[.int .i64 a0_0, .int .i64 a0_1, .string a0_2]) (t := 25) ?hr ?_; (case hd => rfl); (case hg => rfl); (case hr => first | (go_simp; done) | (go_simp; rfl)); intro gb245 hg w11 hbox hb; have n0_ := am (below_step bl hb); have n1_ := am (hbox); have n2_ := am ((gs : w.heap.size ≤ gb245)); have n3_ := am ((gs : w.heap.size ≤ gb245)); clear HB; have HB := n0_; have BK245 := n1_; have GW245 := n2_; have GE245 := n3_; clear n0_ n1_ n2_ n3_; clear hb hbox hg; have hcz12_0 : w11.cell? ⟨gb245, 0, none⟩ = some (.int .i64 a0_0) := (blk_cell BK245.out 0).trans rfl; have hcz12_1 : w11.cell? ⟨gb245, 1, none⟩ = some (.int .i64 a0_1) := (blk_cell BK245.out 1).trans rfl; have hcz12_2 : w11.cell? ⟨gb245, 2, none⟩ = some (.string a0_2) := (blk_cell BK245.out 2).trans rfl; have hfz12_0 := blk_frozen BK245.out 0; have hfz12_1 := blk_frozen BK245.out 1; have hfz12_2 := blk_frozen BK245.out 2))
   go_ret
   exact ⟨by first | rfl | (simp [errW_none, errW_some] <;> rfl) | (simp [*, errW_none, errW_some] <;> rfl), bl⟩
mutual
def epitomeref04_Fit.l0 : Nat → List (S25) → Int → List (S25) → Int → Option ((List (S25)))
 | 0, _, _, _, _ => none
 | k + 1, x0, x1, x5, x6 => if x6 < (x0.length : Int) then (epitomeref04_Fit.j1 k x0 x1 x5 x6 (decide (x6 < 12))) else (epitomeref04_Fit.j1 k x0 x1 x5 x6 false)
def epitomeref04_Fit.j1 : Nat → List (S25) → Int → List (S25) → Int → Bool → Option ((List (S25)))
 | 0, _, _, _, _, _ => none
 | k + 1, x0, x1, x5, x6, x16 => if x16 = true then (if 0 ≤ x6 then (if x6 < (x0.length : Int) then (if (wrap64 (1 + (Int.tmod (wrap64 ((Int.tmod ((rd_T25 x0 x6).f0) 3) + 3)) 3))) = 2 then (if 0 ≤ (mn (((rd_T25 x0 x6).f2).size : Int) 6) then (if (mn (((rd_T25 x0 x6).f2).size : Int) 6) ≤ (((rd_T25 x0 x6).f2).size : Int) then ((epitomeref01_Fit.f k (((rd_T25 x0 x6).f2).extract 0 ((mn (((rd_T25 x0 x6).f2).size : Int) 6) : Int).toNat)).bind fun t221 => (if x5.length < 4398046511104 then (epitomeref04_Fit.l0 k x0 x1 (x5 ++ [(⟨wrap64 (1 + (Int.tmod (wrap64 ((Int.tmod ((rd_T25 x0 x6).f0) 3) + 3)) 3)), 0, t221⟩ : S25)]) (wrap64 (x6 + 1))) else (none))) else (none)) else (none)) else (if x5.length < 4398046511104 then (epitomeref04_Fit.l0 k x0 (wrap64 (x1 - (mn (Int.tmod (wrap64 ((Int.tmod ((rd_T25 x0 x6).f1) 7) + 7)) 7) x1))) (x5 ++ [(⟨wrap64 (1 + (Int.tmod (wrap64 ((Int.tmod ((rd_T25 x0 x6).f0) 3) + 3)) 3)), mn (Int.tmod (wrap64 ((Int.tmod ((rd_T25 x0 x6).f1) 7) + 7)) 7) x1, (⟨#[]⟩ : ByteArray)⟩ : S25)]) (wrap64 (x6 + 1))) else (none))) else (none)) else (none)) else (if x1 > 0 then (if x5.length < 4398046511104 then (some (x5 ++ [(⟨1, x1, (⟨#[]⟩ : ByteArray)⟩ : S25)])) else (none)) else (some x5))
end
def epitomeref04_Fit.f (k : Nat) (l0 : List (S25)) (a1 : Int) : Option ((List (S25))) := epitomeref04_Fit.l0 k l0 a1 (([] : List (S25))) 0
def epitomeref04_Fit.T7 : Bool × List (List Nat × List Nat) := (true, [([], []), ([], []), ([0, 1], [0, 1]), ([2], [2]), ([3], [3]), ([], []), ([], []), ([5, 6], [5, 6]), ([7], [7]), ([8], [8]), ([9], [9]), ([10], [10]), ([4, 11], [4, 11]), ([12], [12]), ([0, 1, 2, 3, 4, 5, 6, 7, 8, 9, 10, 11, 12, 13], []), ([14, 13, 13, 0, 1, 2, 3, 4, 5, 6, 7, 8, 9, 10, 11, 12, 13], [13, 14])])
def epitomeref04_Fit.B7 : List Nat := [0, 0, 3, 7, 15, 0, 0, 96, 224, 480, 992, 2016, 4095, 8191, 16383, 32767]
theorem epitomeref04_Fit.tab7 : rtab .any (opsOf Tryd.f28 7) = epitomeref04_Fit.T7 := by kernel_rfl
theorem epitomeref04_Fit.bits7 : waitsOk epitomeref04_Fit.T7.2 epitomeref04_Fit.B7 = true := by kernel_rfl
set_option maxHeartbeats 8000000 in
set_option maxRecDepth 100000 in
theorem epitomeref04_Fit.calls (k : Nat) (A0 : Option Addr) (c0 : Nat) (l0 : List (S25)) (a1 : Int) (r : List (S25)) (w : World) (hr0 : Kd.C k25 w A0 l0.length l0) (hc0 : l0.length ≤ c0) (h : epitomeref04_Fit.f k l0 a1 = some r) :
  Calls Tryd.prog 28 #[.slice A0 l0.length c0, .int .i64 a1] w fun e w' => ∃ v0_ : Value, e = .returned (v0_) ∧ Kd.R k25 25 w' w.heap.size (fun _ => True) v0_ r ∧ Below w.heap.size w w' := by
 have hu25 := Tryd.underlying25
 have HR0 := am hr0
 have HC0 := am hc0
 clear hr0 hc0
 have HB := am (Below.refl w.heap.size w)
 have H : (epitomeref04_Fit.l0 k l0 a1 (([] : List (S25))) 0) = some r := h
 clear h
 obtain ⟨y214, hy214⟩ : ∃ y_ : List (S25), y_ = (([] : List (S25))) := ⟨_, rfl⟩
 replace H : (epitomeref04_Fit.l0 k l0 a1 y214 0) = some r := by first | (rw [hy214]; with_reducible exact H) | (have H2_ := (Option.bind_some _ _).symm.trans H; rw [hy214]; with_reducible exact H2_) | (have H2_ := (Option.bind_some _ _).symm.trans H; with_reducible exact H2_) | with_reducible exact H | (rw [hy214]; exact H) | exact H
 have Ny214 := am hy214
 clear hy214
 have H' := am H
 clear H
 go_enter Tryd.func28, Tryd.ntmps28
 go_wp2_with (first | ((with_reducible refine gate_dst (N := 8) rfl ?_); refine Kd.R_lit k25 _ 25 ?hg (N := 8) ?hd (xs := ([] : List (S25))) (inner := []) (ok := fun _ => True) (okp := fun _ => True) ?hr ?hp (fun _ hk => hk) trivial (Below.refl _ _) (Nat.le_refl _) (by simp) ?_; (case hd => rfl); (case hg => rfl); (case hr => first | (go_simp; done) | (go_simp; rfl)); (case hp => exact (Reps.none _ _)); intro v215 w3 ho4 hb hg_ hnew_; clear hg_ hnew_; (first | rw [← Ny214.out] at ho4 | (simp only [Int.reduceToNat] at ho4; rw [← Ny214.out] at ho4)); have n0_ := am (Kd.R_lower ho4 (below_size bl)); have n1_ := am (below_step bl hb); clear HB; have HO216 := n0_; have HB := n1_; clear n0_ n1_; clear hb ho4))
 go_loopg [1, 5, 6] k (fun kq v1 v5 v6 w' => ∃ (x1_1 : Int) (x5_1 : List (S25)) (x6_1 : Int), v1 = .int .i64 x1_1 ∧ v6 = .int .i64 x6_1 ∧ Aside0 (epitomeref04_Fit.l0 kq l0 x1_1 x5_1 x6_1 = some r) ∧ Aside0 (kq ≤ k) ∧ Aside0 (Kd.R k25 25 w' w.heap.size (fun _ => True) v5 x5_1) ∧ Aside0 (Below w.heap.size w w'))
 case atStart => exact ⟨(a1), (y214), (0), pj, pj, H', ⟨Nat.le_refl _⟩, ⟨by refine kR ?_; exact HO216.out⟩, ⟨bl⟩⟩
 case round =>
  clear H'
  try clear c2
  try clear p2
  obtain ⟨x1_1, x5_1, x6_1, rfl, rfl, HA, HK1, HO_5, HB⟩ := hrel
  cases gk with
  | zero => exact absurd HA.out (by simp [epitomeref04_Fit.l0])
  | succ k1 =>
   have H := HA.out
   clear HA
   simp only [epitomeref04_Fit.l0] at H
   have HC5 := am H
   clear H
   go_upto_region 3 with (fail)
   go_cut [16] (fun v16 wc => ∃ (kq : Nat) (x16_4 : Bool), v16 = .bool x16_4 ∧ Aside0 (epitomeref04_Fit.j1 kq l0 x1_1 x5_1 x6_1 x16_4 = some r) ∧ Aside0 (kq ≤ k1) ∧ Aside0 (Kd.R k25 25 wc w.heap.size (fun _ => True) u5 x5_1) ∧ Aside0 (Below w.heap.size w wc))
   case first =>
    have H := HC5.out
    clear HC5
    by_cases c6 : x6_1 < (l0.length : Int)
    ·rw [if_pos c6] at H
     have c6b0 : decide (x6_1 < (l0.length : Int)) = true := decide_eq_true c6
     clear c6
     (first | rw [c6b0] | (simp only [i64_w, i32_w]; rw [c6b0]) | skip)
     have H' := am H
     clear H
     go_wp2
     go_meet
     case rel => exact ⟨_, (decide (x6_1 < 12)), pj, H', ⟨by have := HK1.out; first | omega | exact Nat.le_refl _⟩, ⟨by refine kR ?_; exact HO_5.out⟩, ⟨bl⟩⟩
    ·rw [if_neg c6] at H
     have c6b0 : decide (x6_1 < (l0.length : Int)) = false := decide_eq_false c6
     clear c6
     (first | rw [c6b0] | (simp only [i64_w, i32_w]; rw [c6b0]) | skip)
     have H' := am H
     clear H
     go_wp2
     go_meet
     case rel => exact ⟨_, (false), pj, H', ⟨by have := HK1.out; first | omega | exact Nat.le_refl _⟩, ⟨by refine kR ?_; exact HO_5.out⟩, ⟨bl⟩⟩
   case rest =>
    clear HC5
    try clear c2
    try clear p2
    try clear c6
    try clear c6b0
    try clear p2
    obtain ⟨kq, x16_4, rfl, HA, HJ4, HO_5, HB⟩ := hcut
    cases kq with
    | zero => exact absurd HA.out (by simp [epitomeref04_Fit.j1])
    | succ kj4 =>
     have H := HA.out
     clear HA
     simp only [epitomeref04_Fit.j1] at H
     by_cases c7 : x16_4 = true
     ·subst c7
      have H1 : (if 0 ≤ x6_1 then (if x6_1 < (l0.length : Int) then (if (wrap64 (1 + (Int.tmod (wrap64 ((Int.tmod ((rd_T25 l0 x6_1).f0) 3) + 3)) 3))) = 2 then (if 0 ≤ (mn (((rd_T25 l0 x6_1).f2).size : Int) 6) then (if (mn (((rd_T25 l0 x6_1).f2).size : Int) 6) ≤ (((rd_T25 l0 x6_1).f2).size : Int) then ((epitomeref01_Fit.f kj4 (((rd_T25 l0 x6_1).f2).extract 0 ((mn (((rd_T25 l0 x6_1).f2).size : Int) 6) : Int).toNat)).bind fun t221 => (if x5_1.length < 4398046511104 then (epitomeref04_Fit.l0 kj4 l0 x1_1 (x5_1 ++ [(⟨wrap64 (1 + (Int.tmod (wrap64 ((Int.tmod ((rd_T25 l0 x6_1).f0) 3) + 3)) 3)), 0, t221⟩ : S25)]) (wrap64 (x6_1 + 1))) else (none))) else (none)) else (none)) else (if x5_1.length < 4398046511104 then (epitomeref04_Fit.l0 kj4 l0 (wrap64 (x1_1 - (mn (Int.tmod (wrap64 ((Int.tmod ((rd_T25 l0 x6_1).f1) 7) + 7)) 7) x1_1))) (x5_1 ++ [(⟨wrap64 (1 + (Int.tmod (wrap64 ((Int.tmod ((rd_T25 l0 x6_1).f0) 3) + 3)) 3)), mn (Int.tmod (wrap64 ((Int.tmod ((rd_T25 l0 x6_1).f1) 7) + 7)) 7) x1_1, (⟨#[]⟩ : ByteArray)⟩ : S25)]) (wrap64 (x6_1 + 1))) else (none))) else (none)) else (none)) = some r := by rw [if_pos rfl] at H; exact H
      clear H
      have H := H1
      clear H1
      by_cases c8 : 0 ≤ x6_1
      ·rw [if_pos c8] at H
       have c8b0 : decide (0 ≤ x6_1) = true := decide_eq_true c8
       clear c8
       by_cases c9 : x6_1 < (l0.length : Int)
       ·rw [if_pos c9] at H
        have c9b0 : decide (x6_1 < (l0.length : Int)) = true := decide_eq_true c9
        clear c9
        by_cases c10 : (wrap64 (1 + (Int.tmod (wrap64 ((Int.tmod ((rd_T25 l0 x6_1).f0) 3) + 3)) 3))) = 2
        ·rw [if_pos c10] at H
         have c10b0 : ((wrap64 (1 + (Int.tmod (wrap64 ((Int.tmod ((rd_T25 l0 x6_1).f0) 3) + 3)) 3))) == 2) = true := beq_iff_eq.mpr c10
         have c10b1 : ((wrap64 (1 + (Int.tmod (wrap64 ((Int.tmod ((rd_T25 l0 x6_1).f0) 3) + 3)) 3))) != 2) = false := bne_eq_false_iff_eq.mpr c10
         clear c10
         obtain ⟨ji11, hji11⟩ : ∃ j_ : Int, (mn (((rd_T25 l0 x6_1).f2).size : Int) 6) = j_ := ⟨_, rfl⟩
         replace H : (if 0 ≤ (ji11) then (if (ji11) ≤ (((rd_T25 l0 x6_1).f2).size : Int) then ((epitomeref01_Fit.f kj4 (((rd_T25 l0 x6_1).f2).extract 0 ((ji11) : Int).toNat)).bind fun t221 => (if x5_1.length < 4398046511104 then (epitomeref04_Fit.l0 kj4 l0 x1_1 (x5_1 ++ [(⟨wrap64 (1 + (Int.tmod (wrap64 ((Int.tmod ((rd_T25 l0 x6_1).f0) 3) + 3)) 3)), 0, t221⟩ : S25)]) (wrap64 (x6_1 + 1))) else (none))) else (none)) else (none)) = some r := by first | (rw [hji11] at H; exact H) | (simp only [hji11] at H ⊢; exact H)
         have hji11_ : (if 6 < (((rd_T25 l0 x6_1).f2).size : Int) then 6 else (((rd_T25 l0 x6_1).f2).size : Int)) = ji11 := hji11
         by_cases c12 : 0 ≤ (ji11)
         ·rw [if_pos c12] at H
          have c12b0 := eq_true c12
          have c12b1 : decide (0 ≤ (ji11)) = true := decide_eq_true c12
          clear c12
          by_cases c13 : (ji11) ≤ (((rd_T25 l0 x6_1).f2).size : Int)
          ·rw [if_pos c13] at H
           have c13b0 := eq_true c13
           have c13b1 : decide ((ji11) ≤ (((rd_T25 l0 x6_1).f2).size : Int)) = true := decide_eq_true c13
           clear c13
           replace H := Option.bind_eq_some_iff.mp H
           obtain ⟨t221, A140, H⟩ := H
           replace H : (if x5_1.length < 4398046511104 then (epitomeref04_Fit.l0 kj4 l0 x1_1 (x5_1 ++ [(⟨wrap64 (1 + (Int.tmod (wrap64 ((Int.tmod ((rd_T25 l0 x6_1).f0) 3) + 3)) 3)), 0, t221⟩ : S25)]) (wrap64 (x6_1 + 1))) else (none)) = some r := H
           have A14 := am A140
           clear A140
           by_cases c15 : x5_1.length < 4398046511104
           ·rw [if_pos c15] at H
            have LMc15 := am c15
            clear c15
            obtain ⟨y222, hy222⟩ : ∃ y_ : List (S25), y_ = (x5_1 ++ [(⟨wrap64 (1 + (Int.tmod (wrap64 ((Int.tmod ((rd_T25 l0 x6_1).f0) 3) + 3)) 3)), 0, t221⟩ : S25)]) := ⟨_, rfl⟩
            replace H : (epitomeref04_Fit.l0 kj4 l0 x1_1 y222 (wrap64 (x6_1 + 1))) = some r := by first | (rw [hy222]; with_reducible exact H) | (have H2_ := (Option.bind_some _ _).symm.trans H; rw [hy222]; with_reducible exact H2_) | (have H2_ := (Option.bind_some _ _).symm.trans H; with_reducible exact H2_) | with_reducible exact H | (rw [hy222]; exact H) | exact H
            have Ny222 := am hy222
            clear hy222
            have H' := am H
            clear H
            have p217 : 0 ≤ (x6_1 : Int) := of_decide_eq_true as0
            have q217 : x6_1 < (l0.length : Int) := of_decide_eq_true as0
            obtain ⟨ad217, e217, hx217_0, hx217_1, hx217_2⟩ := at_T25 HR0.out x6_1 p217 q217
            cases e217
            replace hx217_0 := (HB.out.cell (World.block_lt_of_cell? w _ hx217_0)).trans hx217_0
            replace hx217_1 := (HB.out.cell (World.block_lt_of_cell? w _ hx217_1)).trans hx217_1
            replace hx217_2 := (HB.out.cell (World.block_lt_of_cell? w _ hx217_2)).trans hx217_2
            replace p217 := eq_true p217
            replace q217 := eq_true q217
            try go_wp2_with (first | ((with_reducible refine gate_dst (N := 7) rfl ?_); refine box_event ?hg (N := 7) ?hd (cs := #[.int .i64 0, .int .i64 0, .string (⟨#[]⟩ : ByteArray)]) (t := 25) ?hr ?_; (case hd => rfl); (case hg => rfl); (case hr => first | (go_simp; done) | (go_simp; rfl)); intro gb218 hg w16 hbox hb; have n0_ := am (Kd.R_below (Kd.R_elderB (by refine kR ?_; exact HO_5.out) gb218 (Nat.le_of_eq hg.symm)) hb); have n1_ := am (below_step bl hb); have n2_ := am (hbox); have n3_ := am ((gs : w.heap.size ≤ gb218)); have n4_ := am ((gs : w.heap.size ≤ gb218)); clear HO_5; clear HB; have HO_5 := n0_; have HB := n1_; have BK218 := n2_; have GW218 := n3_; have GE218 := n4_; clear n0_ n1_ n2_ n3_ n4_; clear hb hbox hg; have hcz17_0 : w16.cell? ⟨gb218, 0, none⟩ = some (.int .i64 0) := (blk_cell BK218.out 0).trans rfl; have hcz17_1 : w16.cell? ⟨gb218, 1, none⟩ = some (.int .i64 0) := (blk_cell BK218.out 1).trans rfl; have hcz17_2 : w16.cell? ⟨gb218, 2, none⟩ = some (.string (⟨#[]⟩ : ByteArray)) := (blk_cell BK218.out 2).trans rfl; have hfz17_0 := blk_frozen BK218.out 0; have hfz17_1 := blk_frozen BK218.out 1; have hfz17_2 := blk_frozen BK218.out 2))
            have n0_ : Aside0 (Kd.R k25 25 (((w16.setCell ⟨gb218, 0, none⟩ (.int .i64 (wrap64 (1 + (Int.tmod (wrap64 ((Int.tmod ((rd_T25 l0 x6_1).f0) 3) + 3)) 3))))).setCell ⟨gb218, 1, none⟩ (.int .i64 0)).setCell ⟨gb218, 2, none⟩ (.string (⟨#[]⟩ : ByteArray))) w.heap.size (fun k_ => k_ ≠ gb218) u5 x5_1) := ⟨by refine kR ?_; exact Kd.R_mono (Kd.R_far (p := ⟨gb218, 2, none⟩) (Kd.R_far (p := ⟨gb218, 1, none⟩) (Kd.R_far (p := ⟨gb218, 0, none⟩) (Kd.R_mono HO_5.out (fun k_ hk => (⟨hk, hk.2⟩ : _ ∧ k_ ≠ gb218))) (fun _ hk => hk.2) (.int .i64 (wrap64 (1 + (Int.tmod (wrap64 ((Int.tmod ((rd_T25 l0 x6_1).f0) 3) + 3)) 3))))) (fun _ hk => hk.2) (.int .i64 0)) (fun _ hk => hk.2) (.string (⟨#[]⟩ : ByteArray))) (fun _ hk => hk.1.2)⟩
            have n1_ : Aside0 ((((w16.setCell ⟨gb218, 0, none⟩ (.int .i64 (wrap64 (1 + (Int.tmod (wrap64 ((Int.tmod ((rd_T25 l0 x6_1).f0) 3) + 3)) 3))))).setCell ⟨gb218, 1, none⟩ (.int .i64 0)).setCell ⟨gb218, 2, none⟩ (.string (⟨#[]⟩ : ByteArray))).heap[gb218]? = some (.cells #[.int .i64 (wrap64 (1 + (Int.tmod (wrap64 ((Int.tmod ((rd_T25 l0 x6_1).f0) 3) + 3)) 3))), .int .i64 0, .string (⟨#[]⟩ : ByteArray)] 25 (0, 0))) := ⟨by refine bk ?_; refine blk_put (cs := #[.int .i64 (wrap64 (1 + (Int.tmod (wrap64 ((Int.tmod ((rd_T25 l0 x6_1).f0) 3) + 3)) 3))), .int .i64 0, .string (⟨#[]⟩ : ByteArray)]) ?_ 2 _ rfl; refine bk ?_; refine blk_put (cs := #[.int .i64 (wrap64 (1 + (Int.tmod (wrap64 ((Int.tmod ((rd_T25 l0 x6_1).f0) 3) + 3)) 3))), .int .i64 0, .string (⟨#[]⟩ : ByteArray)]) ?_ 1 _ rfl; refine bk ?_; refine blk_put (cs := #[.int .i64 0, .int .i64 0, .string (⟨#[]⟩ : ByteArray)]) ?_ 0 _ rfl; refine bk ?_; exact BK218.out⟩
            have n2_ : Aside0 (Below w.heap.size w (((w16.setCell ⟨gb218, 0, none⟩ (.int .i64 (wrap64 (1 + (Int.tmod (wrap64 ((Int.tmod ((rd_T25 l0 x6_1).f0) 3) + 3)) 3))))).setCell ⟨gb218, 1, none⟩ (.int .i64 0)).setCell ⟨gb218, 2, none⟩ (.string (⟨#[]⟩ : ByteArray)))) := ⟨bl⟩
            (try clear HO_5)
            (try clear BK218)
            (try clear HB)
            generalize (((w16.setCell ⟨gb218, 0, none⟩ (.int .i64 (wrap64 (1 + (Int.tmod (wrap64 ((Int.tmod ((rd_T25 l0 x6_1).f0) 3) + 3)) 3))))).setCell ⟨gb218, 1, none⟩ (.int .i64 0)).setCell ⟨gb218, 2, none⟩ (.string (⟨#[]⟩ : ByteArray))) = w18 at n0_ n1_ n2_ ⊢
            have HO_5 := n0_
            have BK218 := n1_
            have HB := n2_
            clear n0_ n1_ n2_
            have n0_ := am (Kd.R_drew HO_5.out)
            have n1_ := am (blk_drew BK218.out)
            have n2_ := am (below_drew1 HB.out)
            clear HO_5
            clear BK218
            clear HB
            have HO_5 := n0_
            have BK218 := n1_
            have HB := n2_
            clear n0_ n1_ n2_
            have p219 : 0 ≤ (x6_1 : Int) := of_decide_eq_true as0
            have q219 : x6_1 < (l0.length : Int) := of_decide_eq_true as0
            obtain ⟨ad219, e219, hx219_0, hx219_1, hx219_2⟩ := at_T25 HR0.out x6_1 p219 q219
            have hw219_2 := hx219_2
            have hw219_1 := hx219_1
            have hw219_0 := hx219_0
            obtain rfl : ad217 = ad219 := (by injection e219)
            replace hx219_0 := (HB.out.cell (World.block_lt_of_cell? w _ hx219_0)).trans hx219_0
            replace hx219_1 := (HB.out.cell (World.block_lt_of_cell? w _ hx219_1)).trans hx219_1
            replace hx219_2 := (HB.out.cell (World.block_lt_of_cell? w _ hx219_2)).trans hx219_2
            replace p219 := eq_true p219
            replace q219 := eq_true q219
            have p220 : 0 ≤ (x6_1 : Int) := of_decide_eq_true as0
            have q220 : x6_1 < (l0.length : Int) := of_decide_eq_true as0
            obtain ⟨ad220, e220, hx220_0, hx220_1, hx220_2⟩ := at_T25 HR0.out x6_1 p220 q220
            have hw220_2 := hx220_2
            have hw220_1 := hx220_1
            have hw220_0 := hx220_0
            obtain rfl : ad217 = ad220 := (by injection e220)
            replace hx220_0 := (HB.out.cell (World.block_lt_of_cell? w _ hx220_0)).trans hx220_0
            replace hx220_1 := (HB.out.cell (World.block_lt_of_cell? w _ hx220_1)).trans hx220_1
            replace hx220_2 := (HB.out.cell (World.block_lt_of_cell? w _ hx220_2)).trans hx220_2
            replace p220 := eq_true p220
            replace q220 := eq_true q220
            refine start_ (n := 16) (S := fun w' => w'.cell? (ad217.add ((x6_1).toNat * 3)) = some (.int .i64 ((rd_T25 l0 x6_1).f0)) ∧ w'.cell? ⟨(ad217.add ((x6_1).toNat * 3)).block, (ad217.add ((x6_1).toNat * 3)).off + 1, none⟩ = some (.int .i64 ((rd_T25 l0 x6_1).f1)) ∧ w'.cell? ⟨(ad217.add ((x6_1).toNat * 3)).block, (ad217.add ((x6_1).toNat * 3)).off + 2, none⟩ = some (.string ((rd_T25 l0 x6_1).f2)) ∧ w'.cell? (ad217.add ((x6_1).toNat * 3)) = some (.int .i64 ((rd_T25 l0 x6_1).f0)) ∧ w'.cell? ⟨(ad217.add ((x6_1).toNat * 3)).block, (ad217.add ((x6_1).toNat * 3)).off + 1, none⟩ = some (.int .i64 ((rd_T25 l0 x6_1).f1)) ∧ w'.cell? ⟨(ad217.add ((x6_1).toNat * 3)).block, (ad217.add ((x6_1).toNat * 3)).off + 2, none⟩ = some (.string ((rd_T25 l0 x6_1).f2))) (ds := []) #[false, false, false, false, false, false, false, false, false, false, false, false, false, false, false, false] (by kernel_rfl) rfl rfl ⟨((HB.out.cell (World.block_lt_of_cell? w _ hw219_0)).trans hw219_0), ((HB.out.cell (World.block_lt_of_cell? w _ hw219_1)).trans hw219_1), ((HB.out.cell (World.block_lt_of_cell? w _ hw219_2)).trans hw219_2), ((HB.out.cell (World.block_lt_of_cell? w _ hw220_0)).trans hw220_0), ((HB.out.cell (World.block_lt_of_cell? w _ hw220_1)).trans hw220_1), ((HB.out.cell (World.block_lt_of_cell? w _ hw220_2)).trans hw220_2)⟩ (fun hHeld => ?_); refine with_tabW epitomeref04_Fit.tab7 epitomeref04_Fit.bits7 (fun HT_ HW_ => ?_)
            generalize w18.drew = w19 at HO_5 BK218 HB hx219_0 hx219_1 hx219_2 hx220_0 hx220_1 hx220_2 hHeld ⊢
            refine pure_ (i := 0) (N := some 32) #[true, false, false, false, false, false, false, false, false, false, false, false, false, false, false, false] rfl rfl (aT HT_.out) (fun _ _ _ h => h) (Or.inl ⟨rfl, rn⟩) ap ?_
            refine pure_ (i := 1) (N := some 33) #[true, true, false, false, false, false, false, false, false, false, false, false, false, false, false, false] rfl rfl (aT HT_.out) (fun _ _ _ h => h) (Or.inl ⟨rfl, rn⟩) ap ?_
            refine pure_ (i := 2) (N := some 34) #[true, true, true, false, false, false, false, false, false, false, false, false, false, false, false, false] rfl rfl (aT HT_.out) (fun _ _ _ h => h) (Or.inl ⟨rfl, rn⟩) ap ?_
            refine pure_ (i := 3) (N := some 35) #[true, true, true, true, false, false, false, false, false, false, false, false, false, false, false, false] rfl rfl (aT HT_.out) (fun _ _ _ h => h) (Or.inl ⟨rfl, rn⟩) ap ?_
            refine pure_ (i := 5) (N := some 37) #[true, true, true, true, false, true, false, false, false, false, false, false, false, false, false, false] rfl rfl (aT HT_.out) (fun _ _ _ h => h) (Or.inl ⟨rfl, rn⟩) ap ?_
            refine pure_ (i := 6) (N := some 38) #[true, true, true, true, false, true, true, false, false, false, false, false, false, false, false, false] rfl rfl (aT HT_.out) (fun _ _ _ h => h) (Or.inl ⟨rfl, rn⟩) ap ?_
            refine pure_ (i := 7) (N := some 39) #[true, true, true, true, false, true, true, true, false, false, false, false, false, false, false, false] rfl rfl (aT HT_.out) (fun _ _ _ h => h) (Or.inl ⟨rfl, rn⟩) ap ?_
            refine pure_ (i := 8) (N := some 40) #[true, true, true, true, false, true, true, true, true, false, false, false, false, false, false, false] rfl rfl (aT HT_.out) (fun _ _ _ h => h) (Or.inl ⟨rfl, rn⟩) ap ?_
            refine take_ (i := 4) (N := some 36) (v := ?_) (a' := ?_) #[true, true, true, true, true, true, true, true, true, false, false, false, false, false, false, false] rfl rfl (take_ofW HT_.out HW_.out (by kernel_rfl)) (fun _ _ _ h => h) (Or.inl ⟨by rfl, ?_⟩) hHeld ?_ ?_
            rotate_left
            ·rintro w' ⟨s0, s1, s2, s3, s4, s5⟩
             go_simp
             with_reducible rfl
            rotate_left
            ·exact ap
            refine take_ (i := 9) (N := some 41) (v := ?_) (a' := ?_) #[true, true, true, true, true, true, true, true, true, true, false, false, false, false, false, false] rfl rfl (take_ofW HT_.out HW_.out (by kernel_rfl)) (fun _ _ _ h => h) (Or.inl ⟨by rfl, ?_⟩) hHeld ?_ ?_
            rotate_left
            ·rintro w' ⟨s0, s1, s2, s3, s4, s5⟩
             go_simp
             with_reducible rfl
            rotate_left
            ·exact ap
            refine pure_ (i := 10) (N := some 42) #[true, true, true, true, true, true, true, true, true, true, true, false, false, false, false, false] rfl rfl (aT HT_.out) (fun _ _ _ h => h) (Or.inl ⟨rfl, rn⟩) ap ?_
            refine pure_ (i := 11) (N := some 43) #[true, true, true, true, true, true, true, true, true, true, true, true, false, false, false, false] rfl rfl (aT HT_.out) (fun _ _ _ h => h) (Or.inl ⟨rfl, rn⟩) ap ?_
            refine pure_ (i := 12) (N := some 44) #[true, true, true, true, true, true, true, true, true, true, true, true, true, false, false, false] rfl rfl (aT HT_.out) (fun _ _ _ h => h) (Or.inl ⟨rfl, rn⟩) ap ?_
            refine one_ (i := 13) (N := some 45) #[true, true, true, true, true, true, true, true, true, true, true, true, true, true, false, false] rfl rfl (one_of HT_.out (by kernel_rfl)) (by decide) (fun K hK => ?_)
            refine goes_ Tryd.func9 (by kernel_rfl) rfl #[.string (((rd_T25 l0 x6_1).f2).extract 0 ((ji11) : Int).toNat)] (by rfl) rfl rfl (by (try simp only [List.map_toArray, List.map_cons, List.map_nil]); first | done | (simp only [hji11]; rfl) | rfl | (simp only [List.length_drop, List.length_take]; rfl)) ?_
            with_reducible refine (epitomeref01_Fit.calls kj4 (((rd_T25 l0 x6_1).f2).extract 0 ((ji11) : Int).toNat) t221 _ A14.out).mono ?_
            rintro e w20 ⟨rfl, hb⟩
            refine ⟨_, rfl, ?_⟩
            have n0_ := am (Kd.R_below (by refine kR ?_; exact HO_5.out) hb)
            have n1_ := am (blk_below (g := gb218) (o := .cells #[.int .i64 (wrap64 (1 + (Int.tmod (wrap64 ((Int.tmod ((rd_T25 l0 x6_1).f0) 3) + 3)) 3))), .int .i64 0, .string (⟨#[]⟩ : ByteArray)] 25 (0, 0)) (by refine bk ?_; exact BK218.out) hb)
            have n2_ := am (below_step bl hb)
            clear HO_5
            clear BK218
            clear HB
            have HO_5 := n0_
            have BK218 := n1_
            have HB := n2_
            clear n0_ n1_ n2_
            (try clear hb)
            (try clear hb2)
            (try clear hk)
            (try clear hi)
            refine hK.out _ _ ⟨((HB.out.cell (World.block_lt_of_cell? w _ hw219_0)).trans hw219_0), ((HB.out.cell (World.block_lt_of_cell? w _ hw219_1)).trans hw219_1), ((HB.out.cell (World.block_lt_of_cell? w _ hw219_2)).trans hw219_2), ((HB.out.cell (World.block_lt_of_cell? w _ hw220_0)).trans hw220_0), ((HB.out.cell (World.block_lt_of_cell? w _ hw220_1)).trans hw220_1), ((HB.out.cell (World.block_lt_of_cell? w _ hw220_2)).trans hw220_2)⟩ (fun hHeld => ?_)
            clear hK K
            refine norm_ (a' := ?_) ?_ ?_
            rotate_left
            ·show Act.put _ (some 45) _ = _
             simp only [Act.put, List.setIfInBounds_toArray, List.set_cons_zero, List.set_cons_succ, i64_w, i32_w]
             rfl
            refine pure_ (i := 14) (N := some 46) #[true, true, true, true, true, true, true, true, true, true, true, true, true, true, true, false] rfl rfl (aT HT_.out) (fun _ _ _ h => h) (Or.inl ⟨rfl, rn⟩) ap ?_
            refine one_ (i := 15) (N := none) #[true, true, true, true, true, true, true, true, true, true, true, true, true, true, true, true] rfl rfl (one_of HT_.out (by kernel_rfl)) (by decide) (fun K hK => ?_)
            have hs21 : w20.cell? ⟨gb218, 2, none⟩ = some (.string (⟨#[]⟩ : ByteArray)) := (blk_cell BK218.out 2).trans rfl
            have hfs21 := blk_frozen BK218.out 2
            refine skip_ (w1 := ?_) (by rfl) rfl ?_ ?_
            rotate_left
            ·go_simp
             rfl
            refine hK.out _ _ ⟨((cell_far (p := ⟨gb218, _, none⟩) (by first | exact Nat.ne_of_lt (Nat.lt_of_lt_of_le (by have := World.block_lt_of_cell? _ _ hw219_0; first | rwa [add_block] at this | exact this) GW218.out) | (rw [add_block]; exact Nat.ne_of_lt (Nat.lt_of_lt_of_le (by have := World.block_lt_of_cell? _ _ hw219_0; first | rwa [add_block] at this | exact this) GW218.out)) | (show (Addr.add _ _).block ≠ _; rw [add_block]; exact Nat.ne_of_lt (Nat.lt_of_lt_of_le (by have := World.block_lt_of_cell? _ _ hw219_0; first | rwa [add_block] at this | exact this) GW218.out)) | (dsimp only; exact Nat.ne_of_lt (Nat.lt_of_lt_of_le (by have := World.block_lt_of_cell? _ _ hw219_0; first | rwa [add_block] at this | exact this) GW218.out))) _).trans (hHeld.1)), ((cell_far (p := ⟨gb218, _, none⟩) (by first | exact Nat.ne_of_lt (Nat.lt_of_lt_of_le (by have := World.block_lt_of_cell? _ _ hw219_1; first | rwa [add_block] at this | exact this) GW218.out) | (rw [add_block]; exact Nat.ne_of_lt (Nat.lt_of_lt_of_le (by have := World.block_lt_of_cell? _ _ hw219_1; first | rwa [add_block] at this | exact this) GW218.out)) | (show (Addr.add _ _).block ≠ _; rw [add_block]; exact Nat.ne_of_lt (Nat.lt_of_lt_of_le (by have := World.block_lt_of_cell? _ _ hw219_1; first | rwa [add_block] at this | exact this) GW218.out)) | (dsimp only; exact Nat.ne_of_lt (Nat.lt_of_lt_of_le (by have := World.block_lt_of_cell? _ _ hw219_1; first | rwa [add_block] at this | exact this) GW218.out))) _).trans (hHeld.2.1)), ((cell_far (p := ⟨gb218, _, none⟩) (by first | exact Nat.ne_of_lt (Nat.lt_of_lt_of_le (by have := World.block_lt_of_cell? _ _ hw219_2; first | rwa [add_block] at this | exact this) GW218.out) | (rw [add_block]; exact Nat.ne_of_lt (Nat.lt_of_lt_of_le (by have := World.block_lt_of_cell? _ _ hw219_2; first | rwa [add_block] at this | exact this) GW218.out)) | (show (Addr.add _ _).block ≠ _; rw [add_block]; exact Nat.ne_of_lt (Nat.lt_of_lt_of_le (by have := World.block_lt_of_cell? _ _ hw219_2; first | rwa [add_block] at this | exact this) GW218.out)) | (dsimp only; exact Nat.ne_of_lt (Nat.lt_of_lt_of_le (by have := World.block_lt_of_cell? _ _ hw219_2; first | rwa [add_block] at this | exact this) GW218.out))) _).trans (hHeld.2.2.1)), ((cell_far (p := ⟨gb218, _, none⟩) (by first | exact Nat.ne_of_lt (Nat.lt_of_lt_of_le (by have := World.block_lt_of_cell? _ _ hw220_0; first | rwa [add_block] at this | exact this) GW218.out) | (rw [add_block]; exact Nat.ne_of_lt (Nat.lt_of_lt_of_le (by have := World.block_lt_of_cell? _ _ hw220_0; first | rwa [add_block] at this | exact this) GW218.out)) | (show (Addr.add _ _).block ≠ _; rw [add_block]; exact Nat.ne_of_lt (Nat.lt_of_lt_of_le (by have := World.block_lt_of_cell? _ _ hw220_0; first | rwa [add_block] at this | exact this) GW218.out)) | (dsimp only; exact Nat.ne_of_lt (Nat.lt_of_lt_of_le (by have := World.block_lt_of_cell? _ _ hw220_0; first | rwa [add_block] at this | exact this) GW218.out))) _).trans (hHeld.2.2.2.1)), ((cell_far (p := ⟨gb218, _, none⟩) (by first | exact Nat.ne_of_lt (Nat.lt_of_lt_of_le (by have := World.block_lt_of_cell? _ _ hw220_1; first | rwa [add_block] at this | exact this) GW218.out) | (rw [add_block]; exact Nat.ne_of_lt (Nat.lt_of_lt_of_le (by have := World.block_lt_of_cell? _ _ hw220_1; first | rwa [add_block] at this | exact this) GW218.out)) | (show (Addr.add _ _).block ≠ _; rw [add_block]; exact Nat.ne_of_lt (Nat.lt_of_lt_of_le (by have := World.block_lt_of_cell? _ _ hw220_1; first | rwa [add_block] at this | exact this) GW218.out)) | (dsimp only; exact Nat.ne_of_lt (Nat.lt_of_lt_of_le (by have := World.block_lt_of_cell? _ _ hw220_1; first | rwa [add_block] at this | exact this) GW218.out))) _).trans (hHeld.2.2.2.2.1)), ((cell_far (p := ⟨gb218, _, none⟩) (by first | exact Nat.ne_of_lt (Nat.lt_of_lt_of_le (by have := World.block_lt_of_cell? _ _ hw220_2; first | rwa [add_block] at this | exact this) GW218.out) | (rw [add_block]; exact Nat.ne_of_lt (Nat.lt_of_lt_of_le (by have := World.block_lt_of_cell? _ _ hw220_2; first | rwa [add_block] at this | exact this) GW218.out)) | (show (Addr.add _ _).block ≠ _; rw [add_block]; exact Nat.ne_of_lt (Nat.lt_of_lt_of_le (by have := World.block_lt_of_cell? _ _ hw220_2; first | rwa [add_block] at this | exact this) GW218.out)) | (dsimp only; exact Nat.ne_of_lt (Nat.lt_of_lt_of_le (by have := World.block_lt_of_cell? _ _ hw220_2; first | rwa [add_block] at this | exact this) GW218.out))) _).trans (hHeld.2.2.2.2.2))⟩ (fun hHeld => ?_)
            clear hK K
            refine done_ (done_of HT_.out (by kernel_rfl)) ?_
            have hcz22_0 : w20.cell? ⟨gb218, 0, none⟩ = some (.int .i64 (wrap64 (1 + (Int.tmod (wrap64 ((Int.tmod ((rd_T25 l0 x6_1).f0) 3) + 3)) 3)))) := (blk_cell BK218.out 0).trans rfl
            have hcz22_1 : w20.cell? ⟨gb218, 1, none⟩ = some (.int .i64 0) := (blk_cell BK218.out 1).trans rfl
            have hcz22_2 : w20.cell? ⟨gb218, 2, none⟩ = some (.string (⟨#[]⟩ : ByteArray)) := (blk_cell BK218.out 2).trans rfl
            have hfz22_0 := blk_frozen BK218.out 0
            have hfz22_1 := blk_frozen BK218.out 1
            have hfz22_2 := blk_frozen BK218.out 2
            try go_wp2_with (first | ((with_reducible refine gate_builtin (b := .append) (xs := #[.tmp 62, .tmp 64]) rfl ?_); at_builtin; refine Kd.R_append k25 (w0 := w) w.heap.size rfl (.tmp 62) (.tmp 64) 27 25 (.agg #[(.int .i64 0), (.int .i64 0), (.string ⟨#[]⟩)]) 32 rfl Tryd.underlying27 info25 rfl (by decide) (by omega) u5 x5_1 (⟨wrap64 (1 + (Int.tmod (wrap64 ((Int.tmod ((rd_T25 l0 x6_1).f0) 3) + 3)) 3)), 0, t221⟩ : S25) [.int .i64 (wrap64 (1 + (Int.tmod (wrap64 ((Int.tmod ((rd_T25 l0 x6_1).f0) 3) + 3)) 3))), .int .i64 0, .string t221] (fun k_ => k_ ≠ gb218) (fun _ => False) rfl (by first | (go_simp; done) | (go_simp; rfl)) ?aP (fun _ hk => hk.elim) ?aF ?aO ?aB ?aS ?aL ?_; (case aP => exact k25_mkM _ _ _ (⟨wrap64 (1 + (Int.tmod (wrap64 ((Int.tmod ((rd_T25 l0 x6_1).f0) 3) + 3)) 3)), 0, t221⟩ : S25)); (case aB => exact bl); (case aF => exact (fun k_ hk => Kd.freshB (g := gb218) (o := .cells #[.int .i64 (wrap64 (1 + (Int.tmod (wrap64 ((Int.tmod ((rd_T25 l0 x6_1).f0) 3) + 3)) 3))), .int .i64 0, .string t221] 25 (0, 0)) (by refine bk ?_; refine blk_put (cs := #[.int .i64 (wrap64 (1 + (Int.tmod (wrap64 ((Int.tmod ((rd_T25 l0 x6_1).f0) 3) + 3)) 3))), .int .i64 0, .string (⟨#[]⟩ : ByteArray)]) ?_ 2 _ rfl; refine bk ?_; exact BK218.out) k_ hk)); (case aO => exact (by refine kR ?_; exact Kd.R_mono (Kd.R_far (p := ⟨gb218, 2, none⟩) (Kd.R_mono HO_5.out (fun k_ hk => (⟨hk, hk⟩ : _ ∧ k_ ≠ gb218))) (fun _ hk => hk.2) (.string t221)) (fun _ hk => hk.1))); (case aS => exact (below_size bl)); (case aL => have := LMc15.out; omega); intro v223 w23 ho hb hg hat; rw [← Ny222.out] at ho; have n0_ := am (blk_grown (g := gb218) (o := .cells #[.int .i64 (wrap64 (1 + (Int.tmod (wrap64 ((Int.tmod ((rd_T25 l0 x6_1).f0) 3) + 3)) 3))), .int .i64 0, .string t221] 25 (0, 0)) (by refine bk ?_; refine blk_put (cs := #[.int .i64 (wrap64 (1 + (Int.tmod (wrap64 ((Int.tmod ((rd_T25 l0 x6_1).f0) 3) + 3)) 3))), .int .i64 0, .string (⟨#[]⟩ : ByteArray)]) ?_ 2 _ rfl; refine bk ?_; exact BK218.out) hg (Kd.R_away HO_5.out (fun _ hk => hk))); have n1_ := am (hb); have n2_ := am (ho); clear BK218; clear HB; clear HO_5; have BK218 := n0_; have HB := n1_; have HO224 := n2_; clear n0_ n1_ n2_; clear ho hb hg hat))
            go_roundg kj4
            case measure => have := HK1.out; have := HJ4.out; omega
            case rel => exact ⟨(x1_1), (y222), (wrap64 (x6_1 + 1)), pj, pj, H', ⟨by have := HK1.out; have := HJ4.out; omega⟩, ⟨by refine kR ?_; exact Kd.R_mono HO224.out (fun _ hk => trivial)⟩, ⟨bl⟩⟩
           ·rw [if_neg c15] at H
            exact absurd H (by simp)
          ·rw [if_neg c13] at H
           exact absurd H (by simp)
         ·rw [if_neg c12] at H
          exact absurd H (by simp)
        ·rw [if_neg c10] at H
         have c10b0 : ((wrap64 (1 + (Int.tmod (wrap64 ((Int.tmod ((rd_T25 l0 x6_1).f0) 3) + 3)) 3))) == 2) = false := beq_eq_false_iff_ne.mpr c10
         have c10b1 : ((wrap64 (1 + (Int.tmod (wrap64 ((Int.tmod ((rd_T25 l0 x6_1).f0) 3) + 3)) 3))) != 2) = true := bne_iff_ne.mpr c10
         obtain ⟨ji24, hji24⟩ : ∃ j_ : Int, (mn (Int.tmod (wrap64 ((Int.tmod ((rd_T25 l0 x6_1).f1) 7) + 7)) 7) x1_1) = j_ := ⟨_, rfl⟩
         replace H : (if x5_1.length < 4398046511104 then (epitomeref04_Fit.l0 kj4 l0 (wrap64 (x1_1 - (ji24))) (x5_1 ++ [(⟨wrap64 (1 + (Int.tmod (wrap64 ((Int.tmod ((rd_T25 l0 x6_1).f0) 3) + 3)) 3)), ji24, (⟨#[]⟩ : ByteArray)⟩ : S25)]) (wrap64 (x6_1 + 1))) else (none)) = some r := by first | (rw [hji24] at H; exact H) | (simp only [hji24] at H ⊢; exact H)
         have hji24_ : (if x1_1 < (Int.tmod (wrap64 ((Int.tmod ((rd_T25 l0 x6_1).f1) 7) + 7)) 7) then x1_1 else (Int.tmod (wrap64 ((Int.tmod ((rd_T25 l0 x6_1).f1) 7) + 7)) 7)) = ji24 := hji24
         by_cases c25 : x5_1.length < 4398046511104
         ·rw [if_pos c25] at H
          have LMc25 := am c25
          clear c25
          obtain ⟨y226, hy226⟩ : ∃ y_ : List (S25), y_ = (x5_1 ++ [(⟨wrap64 (1 + (Int.tmod (wrap64 ((Int.tmod ((rd_T25 l0 x6_1).f0) 3) + 3)) 3)), ji24, (⟨#[]⟩ : ByteArray)⟩ : S25)]) := ⟨_, rfl⟩
          replace H : (epitomeref04_Fit.l0 kj4 l0 (wrap64 (x1_1 - (ji24))) y226 (wrap64 (x6_1 + 1))) = some r := by first | (rw [hy226]; with_reducible exact H) | (have H2_ := (Option.bind_some _ _).symm.trans H; rw [hy226]; with_reducible exact H2_) | (have H2_ := (Option.bind_some _ _).symm.trans H; with_reducible exact H2_) | with_reducible exact H | (rw [hy226]; exact H) | exact H
          have Ny226 := am hy226
          clear hy226
          have H' := am H
          clear H
          have p217 : 0 ≤ (x6_1 : Int) := of_decide_eq_true as0
          have q217 : x6_1 < (l0.length : Int) := of_decide_eq_true as0
          obtain ⟨ad217, e217, hx217_0, hx217_1, hx217_2⟩ := at_T25 HR0.out x6_1 p217 q217
          cases e217
          replace hx217_0 := (HB.out.cell (World.block_lt_of_cell? w _ hx217_0)).trans hx217_0
          replace hx217_1 := (HB.out.cell (World.block_lt_of_cell? w _ hx217_1)).trans hx217_1
          replace hx217_2 := (HB.out.cell (World.block_lt_of_cell? w _ hx217_2)).trans hx217_2
          replace p217 := eq_true p217
          replace q217 := eq_true q217
          go_wp2_with (first | ((with_reducible refine gate_dst (N := 7) rfl ?_); refine box_event ?hg (N := 7) ?hd (cs := #[.int .i64 0, .int .i64 0, .string (⟨#[]⟩ : ByteArray)]) (t := 25) ?hr ?_; (case hd => rfl); (case hg => rfl); (case hr => first | (go_simp; done) | (go_simp; rfl)); intro gb218 hg w26 hbox hb; have n0_ := am (Kd.R_below (Kd.R_elderB (by refine kR ?_; exact HO_5.out) gb218 (Nat.le_of_eq hg.symm)) hb); have n1_ := am (below_step bl hb); have n2_ := am (hbox); have n3_ := am ((gs : w.heap.size ≤ gb218)); have n4_ := am ((gs : w.heap.size ≤ gb218)); clear HO_5; clear HB; have HO_5 := n0_; have HB := n1_; have BK218 := n2_; have GW218 := n3_; have GE218 := n4_; clear n0_ n1_ n2_ n3_ n4_; clear hb hbox hg; have hcz27_0 : w26.cell? ⟨gb218, 0, none⟩ = some (.int .i64 0) := (blk_cell BK218.out 0).trans rfl; have hcz27_1 : w26.cell? ⟨gb218, 1, none⟩ = some (.int .i64 0) := (blk_cell BK218.out 1).trans rfl; have hcz27_2 : w26.cell? ⟨gb218, 2, none⟩ = some (.string (⟨#[]⟩ : ByteArray)) := (blk_cell BK218.out 2).trans rfl; have hfz27_0 := blk_frozen BK218.out 0; have hfz27_1 := blk_frozen BK218.out 1; have hfz27_2 := blk_frozen BK218.out 2; have hcw_ : ((((w26.setCell ⟨gb218, 0, none⟩ (.int .i64 (wrap64 (1 + (Int.tmod (wrap64 ((Int.tmod ((rd_T25 l0 x6_1).f0) 3) + 3)) 3))))).setCell ⟨gb218, 1, none⟩ (.int .i64 0)).setCell ⟨gb218, 2, none⟩ (.string (⟨#[]⟩ : ByteArray))).setCell ⟨gb218, 1, none⟩ (.int .i64 ji24)).cell? ⟨gb218, 1, none⟩ = some (.int .i64 ji24) := (blk_cell (blk_put (blk_put (blk_put (blk_put BK218.out 0 _ rfl) 1 _ rfl) 2 _ rfl) 1 _ rfl) 1).trans rfl; have p225 : 0 ≤ (x6_1 : Int) := of_decide_eq_true as0; have q225 : x6_1 < (l0.length : Int) := of_decide_eq_true as0; obtain ⟨ad225, e225, hx225_0, hx225_1, hx225_2⟩ := at_T25 HR0.out x6_1 p225 q225; obtain rfl : ad217 = ad225 := (by injection e225); have hn225_0 : ad217.block ≠ gb218 := Nat.ne_of_lt (Nat.lt_of_lt_of_le (by have := World.block_lt_of_cell? _ _ hx225_0; first | rwa [add_block] at this | exact this) GW218.out); have hn225_1 : ad217.block ≠ gb218 := Nat.ne_of_lt (Nat.lt_of_lt_of_le (by have := World.block_lt_of_cell? _ _ hx225_0; first | rwa [add_block] at this | exact this) GW218.out); have hn225_2 : ad217.block ≠ gb218 := Nat.ne_of_lt (Nat.lt_of_lt_of_le (by have := World.block_lt_of_cell? _ _ hx225_0; first | rwa [add_block] at this | exact this) GW218.out); replace hx225_0 := (HB.out.cell (World.block_lt_of_cell? w _ hx225_0)).trans hx225_0; replace hx225_1 := (HB.out.cell (World.block_lt_of_cell? w _ hx225_1)).trans hx225_1; replace hx225_2 := (HB.out.cell (World.block_lt_of_cell? w _ hx225_2)).trans hx225_2; replace hx225_0 := (cell_far (p := ⟨gb218, 0, none⟩) (by first | (rw [add_block]; exact hn225_0) | (show (Addr.add _ _).block ≠ _; rw [add_block]; exact hn225_0) | exact hn225_0) (.int .i64 (wrap64 (1 + (Int.tmod (wrap64 ((Int.tmod ((rd_T25 l0 x6_1).f0) 3) + 3)) 3))))).trans hx225_0; replace hx225_1 := (cell_far (p := ⟨gb218, 0, none⟩) (by first | (rw [add_block]; exact hn225_0) | (show (Addr.add _ _).block ≠ _; rw [add_block]; exact hn225_0) | exact hn225_0) (.int .i64 (wrap64 (1 + (Int.tmod (wrap64 ((Int.tmod ((rd_T25 l0 x6_1).f0) 3) + 3)) 3))))).trans hx225_1; replace hx225_2 := (cell_far (p := ⟨gb218, 0, none⟩) (by first | (rw [add_block]; exact hn225_0) | (show (Addr.add _ _).block ≠ _; rw [add_block]; exact hn225_0) | exact hn225_0) (.int .i64 (wrap64 (1 + (Int.tmod (wrap64 ((Int.tmod ((rd_T25 l0 x6_1).f0) 3) + 3)) 3))))).trans hx225_2; replace hx225_0 := (cell_far (p := ⟨gb218, 1, none⟩) (by first | (rw [add_block]; exact hn225_1) | (show (Addr.add _ _).block ≠ _; rw [add_block]; exact hn225_1) | exact hn225_1) (.int .i64 0)).trans hx225_0; replace hx225_1 := (cell_far (p := ⟨gb218, 1, none⟩) (by first | (rw [add_block]; exact hn225_1) | (show (Addr.add _ _).block ≠ _; rw [add_block]; exact hn225_1) | exact hn225_1) (.int .i64 0)).trans hx225_1; replace hx225_2 := (cell_far (p := ⟨gb218, 1, none⟩) (by first | (rw [add_block]; exact hn225_1) | (show (Addr.add _ _).block ≠ _; rw [add_block]; exact hn225_1) | exact hn225_1) (.int .i64 0)).trans hx225_2; replace hx225_0 := (cell_far (p := ⟨gb218, 2, none⟩) (by first | (rw [add_block]; exact hn225_2) | (show (Addr.add _ _).block ≠ _; rw [add_block]; exact hn225_2) | exact hn225_2) (.string (⟨#[]⟩ : ByteArray))).trans hx225_0; replace hx225_1 := (cell_far (p := ⟨gb218, 2, none⟩) (by first | (rw [add_block]; exact hn225_2) | (show (Addr.add _ _).block ≠ _; rw [add_block]; exact hn225_2) | exact hn225_2) (.string (⟨#[]⟩ : ByteArray))).trans hx225_1; replace hx225_2 := (cell_far (p := ⟨gb218, 2, none⟩) (by first | (rw [add_block]; exact hn225_2) | (show (Addr.add _ _).block ≠ _; rw [add_block]; exact hn225_2) | exact hn225_2) (.string (⟨#[]⟩ : ByteArray))).trans hx225_2; clear hn225_0; clear hn225_1; clear hn225_2; replace p225 := eq_true p225; replace q225 := eq_true q225) | ((with_reducible refine gate_builtin (b := .append) (xs := #[.tmp 62, .tmp 64]) rfl ?_); at_builtin; refine Kd.R_append k25 (w0 := w) w.heap.size rfl (.tmp 62) (.tmp 64) 27 25 (.agg #[(.int .i64 0), (.int .i64 0), (.string ⟨#[]⟩)]) 32 rfl Tryd.underlying27 info25 rfl (by decide) (by omega) u5 x5_1 (⟨wrap64 (1 + (Int.tmod (wrap64 ((Int.tmod ((rd_T25 l0 x6_1).f0) 3) + 3)) 3)), ji24, (⟨#[]⟩ : ByteArray)⟩ : S25) [.int .i64 (wrap64 (1 + (Int.tmod (wrap64 ((Int.tmod ((rd_T25 l0 x6_1).f0) 3) + 3)) 3))), .int .i64 ji24, .string (⟨#[]⟩ : ByteArray)] (fun k_ => k_ ≠ gb218) (fun _ => False) rfl (by first | (go_simp; done) | (go_simp; rfl)) ?aP (fun _ hk => hk.elim) ?aF ?aO ?aB ?aS ?aL ?_; (case aP => exact k25_mkM _ _ _ (⟨wrap64 (1 + (Int.tmod (wrap64 ((Int.tmod ((rd_T25 l0 x6_1).f0) 3) + 3)) 3)), ji24, (⟨#[]⟩ : ByteArray)⟩ : S25)); (case aB => exact bl); (case aF => exact (fun k_ hk => Kd.freshB (g := gb218) (o := .cells #[.int .i64 (wrap64 (1 + (Int.tmod (wrap64 ((Int.tmod ((rd_T25 l0 x6_1).f0) 3) + 3)) 3))), .int .i64 ji24, .string (⟨#[]⟩ : ByteArray)] 25 (0, 0)) (by refine bk ?_; refine blk_put (cs := #[.int .i64 (wrap64 (1 + (Int.tmod (wrap64 ((Int.tmod ((rd_T25 l0 x6_1).f0) 3) + 3)) 3))), .int .i64 0, .string (⟨#[]⟩ : ByteArray)]) ?_ 1 _ rfl; refine bk ?_; refine blk_put (cs := #[.int .i64 (wrap64 (1 + (Int.tmod (wrap64 ((Int.tmod ((rd_T25 l0 x6_1).f0) 3) + 3)) 3))), .int .i64 0, .string (⟨#[]⟩ : ByteArray)]) ?_ 2 _ rfl; refine bk ?_; refine blk_put (cs := #[.int .i64 (wrap64 (1 + (Int.tmod (wrap64 ((Int.tmod ((rd_T25 l0 x6_1).f0) 3) + 3)) 3))), .int .i64 0, .string (⟨#[]⟩ : ByteArray)]) ?_ 1 _ rfl; refine bk ?_; refine blk_put (cs := #[.int .i64 0, .int .i64 0, .string (⟨#[]⟩ : ByteArray)]) ?_ 0 _ rfl; refine bk ?_; exact BK218.out) k_ hk)); (case aO => exact (by refine kR ?_; exact Kd.R_mono (Kd.R_far (p := ⟨gb218, 1, none⟩) (Kd.R_far (p := ⟨gb218, 2, none⟩) (Kd.R_far (p := ⟨gb218, 1, none⟩) (Kd.R_far (p := ⟨gb218, 0, none⟩) (Kd.R_mono HO_5.out (fun k_ hk => (⟨hk, hk.2⟩ : _ ∧ k_ ≠ gb218))) (fun _ hk => hk.2) (.int .i64 (wrap64 (1 + (Int.tmod (wrap64 ((Int.tmod ((rd_T25 l0 x6_1).f0) 3) + 3)) 3))))) (fun _ hk => hk.2) (.int .i64 0)) (fun _ hk => hk.2) (.string (⟨#[]⟩ : ByteArray))) (fun _ hk => hk.2) (.int .i64 ji24)) (fun _ hk => hk.1.2))); (case aS => exact (below_size bl)); (case aL => have := LMc25.out; omega); intro v227 w28 ho hb hg hat; rw [← Ny226.out] at ho; have n0_ := am (blk_grown (g := gb218) (o := .cells #[.int .i64 (wrap64 (1 + (Int.tmod (wrap64 ((Int.tmod ((rd_T25 l0 x6_1).f0) 3) + 3)) 3))), .int .i64 ji24, .string (⟨#[]⟩ : ByteArray)] 25 (0, 0)) (by refine bk ?_; refine blk_put (cs := #[.int .i64 (wrap64 (1 + (Int.tmod (wrap64 ((Int.tmod ((rd_T25 l0 x6_1).f0) 3) + 3)) 3))), .int .i64 0, .string (⟨#[]⟩ : ByteArray)]) ?_ 1 _ rfl; refine bk ?_; refine blk_put (cs := #[.int .i64 (wrap64 (1 + (Int.tmod (wrap64 ((Int.tmod ((rd_T25 l0 x6_1).f0) 3) + 3)) 3))), .int .i64 0, .string (⟨#[]⟩ : ByteArray)]) ?_ 2 _ rfl; refine bk ?_; refine blk_put (cs := #[.int .i64 (wrap64 (1 + (Int.tmod (wrap64 ((Int.tmod ((rd_T25 l0 x6_1).f0) 3) + 3)) 3))), .int .i64 0, .string (⟨#[]⟩ : ByteArray)]) ?_ 1 _ rfl; refine bk ?_; refine blk_put (cs := #[.int .i64 0, .int .i64 0, .string (⟨#[]⟩ : ByteArray)]) ?_ 0 _ rfl; refine bk ?_; exact BK218.out) hg (Kd.R_away HO_5.out (fun _ hk => hk.2))); have n1_ := am (hb); have n2_ := am (ho); clear BK218; clear HB; clear HO_5; have BK218 := n0_; have HB := n1_; have HO228 := n2_; clear n0_ n1_ n2_; clear ho hb hg hat))
          go_roundg kj4
          case measure => have := HK1.out; have := HJ4.out; omega
          case rel => exact ⟨(wrap64 (x1_1 - (ji24))), (y226), (wrap64 (x6_1 + 1)), (by first | rfl | (simp; done) | (simp only [← hji24] <;> (first | rfl | simp)) | (simp [*]; done)), pj, H', ⟨by have := HK1.out; have := HJ4.out; omega⟩, ⟨by refine kR ?_; exact Kd.R_mono HO228.out (fun _ hk => trivial)⟩, ⟨bl⟩⟩
         ·rw [if_neg c25] at H
          exact absurd H (by simp)
       ·rw [if_neg c9] at H
        exact absurd H (by simp)
      ·rw [if_neg c8] at H
       exact absurd H (by simp)
     ·replace c7 := Bool.eq_false_iff.mpr c7
      subst c7
      have H1 : (if x1_1 > 0 then (if x5_1.length < 4398046511104 then (some (x5_1 ++ [(⟨1, x1_1, (⟨#[]⟩ : ByteArray)⟩ : S25)])) else (none)) else (some x5_1)) = some r := by rw [if_neg (show ¬ (false = true) by decide)] at H; exact H
      clear H
      have H := H1
      clear H1
      by_cases c29 : x1_1 > 0
      ·rw [if_pos c29] at H
       have c29b0 : decide (0 < x1_1) = true := decide_eq_true c29
       clear c29
       by_cases c30 : x5_1.length < 4398046511104
       ·rw [if_pos c30] at H
        have LMc30 := am c30
        clear c30
        obtain ⟨y229, hy229⟩ : ∃ y_ : List (S25), y_ = (x5_1 ++ [(⟨1, x1_1, (⟨#[]⟩ : ByteArray)⟩ : S25)]) := ⟨_, rfl⟩
        replace H : (some y229) = some r := by first | (rw [hy229]; with_reducible exact H) | (have H2_ := (Option.bind_some _ _).symm.trans H; rw [hy229]; with_reducible exact H2_) | (have H2_ := (Option.bind_some _ _).symm.trans H; with_reducible exact H2_) | with_reducible exact H | (rw [hy229]; exact H) | exact H
        have Ny229 := am hy229
        clear hy229
        obtain rfl := Option.some.inj H
        simp only [Option.some.injEq, Prod.mk.injEq] at H
        obtain ⟨rfl⟩ := H
        go_wp2_with (first | ((with_reducible refine gate_builtin (b := .append) (xs := #[.tmp 68, .tmp 71]) rfl ?_); at_builtin; refine Kd.R_append k25 (w0 := w) w.heap.size rfl (.tmp 68) (.tmp 71) 27 25 (.agg #[(.int .i64 0), (.int .i64 0), (.string ⟨#[]⟩)]) 32 rfl Tryd.underlying27 info25 rfl (by decide) (by omega) u5 x5_1 (⟨1, x1_1, (⟨#[]⟩ : ByteArray)⟩ : S25) [.int .i64 1, .int .i64 x1_1, .string (⟨#[]⟩ : ByteArray)] (fun _ => True) (fun _ => False) rfl rfl ?aP (fun _ hk => hk.elim) ?aF ?aO ?aB ?aS ?aL ?_; (case aP => exact k25_mkM _ _ _ (⟨1, x1_1, (⟨#[]⟩ : ByteArray)⟩ : S25)); (case aB => exact bl); (case aF => exact (fun _ _ => trivial)); (case aO => exact (by refine kR ?_; exact HO_5.out)); (case aS => exact (below_size bl)); (case aL => have := LMc30.out; omega); intro v230 w31 ho hb hg hat; rw [← Ny229.out] at ho; have n0_ := am (hb); have n1_ := am (ho); clear HB; clear HO_5; have HB := n0_; have HO231 := n1_; clear n0_ n1_; clear ho hb hg hat))
        go_ret
        exact ⟨_, by first | rfl | (simp [errW_none, errW_some] <;> rfl) | (simp [*, errW_none, errW_some] <;> rfl), by refine kR ?_; exact HO231.out, bl⟩
       ·rw [if_neg c30] at H
        exact absurd H (by simp)
      ·rw [if_neg c29] at H
       have c29b0 : decide (0 < x1_1) = false := decide_eq_false c29
       clear c29
       obtain rfl := Option.some.inj H
       simp only [Option.some.injEq, Prod.mk.injEq] at H
       obtain ⟨rfl⟩ := H
       go_wp2
       go_ret
       exact ⟨_, by first | rfl | (simp [errW_none, errW_some] <;> rfl) | (simp [*, errW_none, errW_some] <;> rfl), by refine kR ?_; exact HO_5.out, bl⟩
def epitomeref04_Out.l0 : Nat → List (S25) → Int → Int → Option (Int)
 | 0, _, _, _ => none
 | k + 1, x0, x3, x4 => if x4 < (x0.length : Int) then (if 0 ≤ x4 then ((epitomeref03_Out.f k ((rd_T25 x0 x4).f0) ((rd_T25 x0 x4).f1) ((rd_T25 x0 x4).f2)).bind fun t248 => (epitomeref04_Out.l0 k x0 (wrap64 (x3 + t248)) (wrap64 (x4 + 1)))) else (none)) else (some x3)
def epitomeref04_Out.f (k : Nat) (l0 : List (S25)) : Option (Int) := epitomeref04_Out.l0 k l0 0 0
set_option maxHeartbeats 8000000 in
set_option maxRecDepth 100000 in
theorem epitomeref04_Out.calls (k : Nat) (A0 : Option Addr) (c0 : Nat) (l0 : List (S25)) (r : Int) (w : World) (hr0 : Kd.C k25 w A0 l0.length l0) (hc0 : l0.length ≤ c0) (h : epitomeref04_Out.f k l0 = some r) :
  Calls Tryd.prog 86 #[.slice A0 l0.length c0] w fun e w' => e = .returned (.int .i64 r) ∧ Below w.heap.size w w' := by
 have hu25 := Tryd.underlying25
 have HR0 := am hr0
 have HC0 := am hc0
 clear hr0 hc0
 have HB := am (Below.refl w.heap.size w)
 have H : (epitomeref04_Out.l0 k l0 0 0) = some r := h
 clear h
 have H' := am H
 clear H
 go_enter Tryd.func86, Tryd.ntmps86
 go_wp2
 go_loopg [3, 4] k (fun kq v3 v4 w' => ∃ (x3_1 : Int) (x4_1 : Int), v3 = .int .i64 x3_1 ∧ v4 = .int .i64 x4_1 ∧ Aside0 (epitomeref04_Out.l0 kq l0 x3_1 x4_1 = some r) ∧ Aside0 (kq ≤ k) ∧ Aside0 (Below w.heap.size w w'))
 case atStart => exact ⟨(0), (0), pj, pj, H', ⟨Nat.le_refl _⟩, ⟨bl⟩⟩
 case round =>
  clear H'
  obtain ⟨x3_1, x4_1, rfl, rfl, HA, HK1, HB⟩ := hrel
  cases gk with
  | zero => exact absurd HA.out (by simp [epitomeref04_Out.l0])
  | succ k1 =>
   have H := HA.out
   clear HA
   simp only [epitomeref04_Out.l0] at H
   by_cases c2 : x4_1 < (l0.length : Int)
   ·rw [if_pos c2] at H
    have c2b0 : decide (x4_1 < (l0.length : Int)) = true := decide_eq_true c2
    clear c2
    by_cases c3 : 0 ≤ x4_1
    ·rw [if_pos c3] at H
     have c3b0 : decide (0 ≤ x4_1) = true := decide_eq_true c3
     clear c3
     replace H := Option.bind_eq_some_iff.mp H
     obtain ⟨t248, A40, H⟩ := H
     replace H : (epitomeref04_Out.l0 k1 l0 (wrap64 (x3_1 + t248)) (wrap64 (x4_1 + 1))) = some r := H
     have A4 := am A40
     clear A40
     have H' := am H
     clear H
     have p247 : 0 ≤ (x4_1 : Int) := of_decide_eq_true as0
     have q247 : x4_1 < (l0.length : Int) := of_decide_eq_true as0
     obtain ⟨ad247, e247, hx247_0, hx247_1, hx247_2⟩ := at_T25 HR0.out x4_1 p247 q247
     cases e247
     replace hx247_0 := (HB.out.cell (World.block_lt_of_cell? w _ hx247_0)).trans hx247_0
     replace hx247_1 := (HB.out.cell (World.block_lt_of_cell? w _ hx247_1)).trans hx247_1
     replace hx247_2 := (HB.out.cell (World.block_lt_of_cell? w _ hx247_2)).trans hx247_2
     replace p247 := eq_true p247
     replace q247 := eq_true q247
     go_wp2_with (first | ((with_reducible refine gate_callee (f := 95) rfl ?_); refine goesL_ (some 16) rfl rfl Tryd.func95 (by kernel_rfl) rfl #[.agg #[.int .i64 ((rd_T25 l0 x4_1).f0), .int .i64 ((rd_T25 l0 x4_1).f1), .string ((rd_T25 l0 x4_1).f2)]] rfl ar ?_; (with_reducible refine (epitomeref03_Out.calls k1 ((rd_T25 l0 x4_1).f0) ((rd_T25 l0 x4_1).f1) ((rd_T25 l0 x4_1).f2) t248 _ A4.out).mono ?_); rintro e w5 ⟨rfl, hb⟩; refine ⟨_, rfl, ?_⟩; have n0_ := am (below_step bl hb); clear HB; have HB := n0_; clear n0_; (try clear hb); (try clear hb2); (try clear hk); (try clear hi)))
     go_roundg k1
     case measure => have := HK1.out; omega
     case rel => exact ⟨(wrap64 (x3_1 + t248)), (wrap64 (x4_1 + 1)), pj, pj, H', ⟨by have := HK1.out; omega⟩, ⟨bl⟩⟩
    ·rw [if_neg c3] at H
     exact absurd H (by simp)
   ·rw [if_neg c2] at H
    have c2b0 : decide (x4_1 < (l0.length : Int)) = false := decide_eq_false c2
    clear c2
    obtain rfl := Option.some.inj H
    simp only [Option.some.injEq, Prod.mk.injEq] at H
    obtain ⟨rfl⟩ := H
    go_wp2
    go_ret
    exact ⟨by first | rfl | (simp [errW_none, errW_some] <;> rfl) | (simp [*, errW_none, errW_some] <;> rfl), bl⟩
mutual
def epitomeref04_Chain.l0 : Nat → List (List (S25)) → Int → List (List (S25)) → Int → Option ((List (List (S25))))
 | 0, _, _, _, _ => none
 | k + 1, x0, x1, x5, x6 => if x6 < (x0.length : Int) then (epitomeref04_Chain.j1 k x0 x1 x5 x6 (decide (x6 < 20))) else (epitomeref04_Chain.j1 k x0 x1 x5 x6 false)
def epitomeref04_Chain.j1 : Nat → List (List (S25)) → Int → List (List (S25)) → Int → Bool → Option ((List (List (S25))))
 | 0, _, _, _, _, _ => none
 | k + 1, x0, x1, x5, x6, x16 => if x16 = true then (if 0 ≤ x6 then (if x6 < (x0.length : Int) then ((epitomeref04_Fit.f k (rd_L3 x0 x6) x1).bind fun t253 => (if x5.length < 5864062014805 then ((epitomeref04_Out.f k t253).bind fun t259 => (epitomeref04_Chain.l0 k x0 t259 (x5 ++ [t253]) (wrap64 (x6 + 1)))) else (none))) else (none)) else (none)) else (some x5)
end
def epitomeref04_Chain.f (k : Nat) (l0 : List (List (S25))) (a1 : Int) : Option ((List (List (S25)))) := epitomeref04_Chain.l0 k l0 a1 (([] : List (List (S25)))) 0
set_option maxHeartbeats 8000000 in
set_option maxRecDepth 100000 in
theorem epitomeref04_Chain.calls (k : Nat) (A0 : Option Addr) (c0 : Nat) (l0 : List (List (S25))) (a1 : Int) (r : List (List (S25))) (w : World) (hr0 : Kd.C (Kd.slice 25 k25) w A0 l0.length l0) (hc0 : l0.length ≤ c0) (h : epitomeref04_Chain.f k l0 a1 = some r) :
  Calls Tryd.prog 51 #[.slice A0 l0.length c0, .int .i64 a1] w fun e w' => ∃ v0_ : Value, e = .returned (v0_) ∧ Kd.S (Kd.slice 25 k25) 27 w' w.heap.size (fun _ => True) v0_ r ∧ Below w.heap.size w w' := by
 have HR0 := am hr0
 have HC0 := am hc0
 clear hr0 hc0
 have HB := am (Below.refl w.heap.size w)
 have H : (epitomeref04_Chain.l0 k l0 a1 (([] : List (List (S25)))) 0) = some r := h
 clear h
 obtain ⟨y249, hy249⟩ : ∃ y_ : List (List (S25)), y_ = (([] : List (List (S25)))) := ⟨_, rfl⟩
 replace H : (epitomeref04_Chain.l0 k l0 a1 y249 0) = some r := by first | (rw [hy249]; with_reducible exact H) | (have H2_ := (Option.bind_some _ _).symm.trans H; rw [hy249]; with_reducible exact H2_) | (have H2_ := (Option.bind_some _ _).symm.trans H; with_reducible exact H2_) | with_reducible exact H | (rw [hy249]; exact H) | exact H
 have Ny249 := am hy249
 clear hy249
 have H' := am H
 clear H
 go_enter Tryd.func51, Tryd.ntmps51
 go_wp2_with (first | ((with_reducible refine gate_dst (N := 8) rfl ?_); refine Kd.S_lit (Kd.slice 25 k25) _ 27 ?hg (N := 8) ?hd (xs := ([] : List (List (S25)))) (inner := []) (ok := fun _ => True) (okp := fun _ => True) ?hr ?hp (fun _ hk => hk) trivial (Below.refl _ _) (Nat.le_refl _) (by simp) ?_; (case hd => rfl); (case hg => rfl); (case hr => first | (go_simp; done) | (go_simp; rfl)); (case hp => exact (Reps.none _ _)); intro v250 w3 ho4 hb hg_ hnew_; clear hg_ hnew_; (first | rw [← Ny249.out] at ho4 | (simp only [Int.reduceToNat] at ho4; rw [← Ny249.out] at ho4)); have n0_ := am (Kd.S_lower ho4 (below_size bl)); have n1_ := am (below_step bl hb); clear HB; have HO251 := n0_; have HB := n1_; clear n0_ n1_; clear hb ho4))
 go_loopg [1, 5, 6] k (fun kq v1 v5 v6 w' => ∃ (x1_1 : Int) (x5_1 : List (List (S25))) (x6_1 : Int), v1 = .int .i64 x1_1 ∧ v6 = .int .i64 x6_1 ∧ Aside0 (epitomeref04_Chain.l0 kq l0 x1_1 x5_1 x6_1 = some r) ∧ Aside0 (kq ≤ k) ∧ Aside0 (Kd.S (Kd.slice 25 k25) 27 w' w.heap.size (fun _ => True) v5 x5_1) ∧ Aside0 (Below w.heap.size w w'))
 case atStart => exact ⟨(a1), (y249), (0), pj, pj, H', ⟨Nat.le_refl _⟩, ⟨by refine kS ?_; exact HO251.out⟩, ⟨bl⟩⟩
 case round =>
  clear H'
  try clear p2
  obtain ⟨x1_1, x5_1, x6_1, rfl, rfl, HA, HK1, HO_5, HB⟩ := hrel
  cases gk with
  | zero => exact absurd HA.out (by simp [epitomeref04_Chain.l0])
  | succ k1 =>
   have H := HA.out
   clear HA
   simp only [epitomeref04_Chain.l0] at H
   have HC5 := am H
   clear H
   go_upto_region 3 with (fail)
   go_cut [16] (fun v16 wc => ∃ (kq : Nat) (x16_4 : Bool), v16 = .bool x16_4 ∧ Aside0 (epitomeref04_Chain.j1 kq l0 x1_1 x5_1 x6_1 x16_4 = some r) ∧ Aside0 (kq ≤ k1) ∧ Aside0 (Kd.S (Kd.slice 25 k25) 27 wc w.heap.size (fun _ => True) u5 x5_1) ∧ Aside0 (Below w.heap.size w wc))
   case first =>
    have H := HC5.out
    clear HC5
    by_cases c6 : x6_1 < (l0.length : Int)
    ·rw [if_pos c6] at H
     have c6b0 : decide (x6_1 < (l0.length : Int)) = true := decide_eq_true c6
     clear c6
     (first | rw [c6b0] | (simp only [i64_w, i32_w]; rw [c6b0]) | skip)
     have H' := am H
     clear H
     go_wp2
     go_meet
     case rel => exact ⟨_, (decide (x6_1 < 20)), pj, H', ⟨by have := HK1.out; first | omega | exact Nat.le_refl _⟩, ⟨by refine kS ?_; exact HO_5.out⟩, ⟨bl⟩⟩
    ·rw [if_neg c6] at H
     have c6b0 : decide (x6_1 < (l0.length : Int)) = false := decide_eq_false c6
     clear c6
     (first | rw [c6b0] | (simp only [i64_w, i32_w]; rw [c6b0]) | skip)
     have H' := am H
     clear H
     go_wp2
     go_meet
     case rel => exact ⟨_, (false), pj, H', ⟨by have := HK1.out; first | omega | exact Nat.le_refl _⟩, ⟨by refine kS ?_; exact HO_5.out⟩, ⟨bl⟩⟩
   case rest =>
    clear HC5
    try clear p2
    try clear c5
    try clear c6
    try clear c6b0
    try clear p2
    obtain ⟨kq, x16_4, rfl, HA, HJ4, HO_5, HB⟩ := hcut
    cases kq with
    | zero => exact absurd HA.out (by simp [epitomeref04_Chain.j1])
    | succ kj4 =>
     have H := HA.out
     clear HA
     simp only [epitomeref04_Chain.j1] at H
     by_cases c7 : x16_4 = true
     ·subst c7
      have H1 : (if 0 ≤ x6_1 then (if x6_1 < (l0.length : Int) then ((epitomeref04_Fit.f kj4 (rd_L3 l0 x6_1) x1_1).bind fun t253 => (if x5_1.length < 5864062014805 then ((epitomeref04_Out.f kj4 t253).bind fun t259 => (epitomeref04_Chain.l0 kj4 l0 t259 (x5_1 ++ [t253]) (wrap64 (x6_1 + 1)))) else (none))) else (none)) else (none)) = some r := by rw [if_pos rfl] at H; exact H
      clear H
      have H := H1
      clear H1
      by_cases c8 : 0 ≤ x6_1
      ·rw [if_pos c8] at H
       have c8b0 : decide (0 ≤ x6_1) = true := decide_eq_true c8
       clear c8
       by_cases c9 : x6_1 < (l0.length : Int)
       ·rw [if_pos c9] at H
        have c9b0 : decide (x6_1 < (l0.length : Int)) = true := decide_eq_true c9
        clear c9
        replace H := Option.bind_eq_some_iff.mp H
        obtain ⟨t253, A100, H⟩ := H
        replace H : (if x5_1.length < 5864062014805 then ((epitomeref04_Out.f kj4 t253).bind fun t259 => (epitomeref04_Chain.l0 kj4 l0 t259 (x5_1 ++ [t253]) (wrap64 (x6_1 + 1)))) else (none)) = some r := H
        have A10 := am A100
        clear A100
        by_cases c11 : x5_1.length < 5864062014805
        ·rw [if_pos c11] at H
         have LMc11 := am c11
         clear c11
         obtain ⟨y256, hy256⟩ : ∃ y_ : List (List (S25)), y_ = (x5_1 ++ [t253]) := ⟨_, rfl⟩
         replace H : ((epitomeref04_Out.f kj4 t253).bind fun t259 => (epitomeref04_Chain.l0 kj4 l0 t259 y256 (wrap64 (x6_1 + 1)))) = some r := by first | (rw [hy256]; with_reducible exact H) | (have H2_ := (Option.bind_some _ _).symm.trans H; rw [hy256]; with_reducible exact H2_) | (have H2_ := (Option.bind_some _ _).symm.trans H; with_reducible exact H2_) | with_reducible exact H | (rw [hy256]; exact H) | exact H
         have Ny256 := am hy256
         clear hy256
         replace H := Option.bind_eq_some_iff.mp H
         obtain ⟨t259, A120, H⟩ := H
         replace H : (epitomeref04_Chain.l0 kj4 l0 t259 y256 (wrap64 (x6_1 + 1))) = some r := H
         have A12 := am A120
         clear A120
         have H' := am H
         clear H
         have p252 : 0 ≤ (x6_1 : Int) := of_decide_eq_true as0
         have q252 : x6_1 < (l0.length : Int) := of_decide_eq_true as0
         obtain ⟨ad252, A252_0, c252_0, e252, hx252_0, hl252_0, hi252_0⟩ := at_L3 HR0.out x6_1 p252 q252
         cases e252
         replace hx252_0 := (HB.out.cell (World.block_lt_of_cell? w _ hx252_0)).trans hx252_0
         have HR252_0 := am hi252_0
         have HC252_0 := am hl252_0
         clear hi252_0 hl252_0
         replace p252 := eq_true p252
         replace q252 := eq_true q252
         go_wp2_with (first | ((with_reducible refine gate_callee (f := 28) rfl ?_); refine goesL_ (some 24) rfl rfl Tryd.func28 (by kernel_rfl) rfl #[.slice A252_0 (rd_L3 l0 x6_1).length c252_0, .int .i64 x1_1] rfl ar ?_; (with_reducible refine (epitomeref04_Fit.calls kj4 _ _ (rd_L3 l0 x6_1) x1_1 t253 _ ?side1 ?side2 A10.out).mono ?_); (case side1 => repeat (first | exact (Kd.C_below HR252_0.out HB.out) | (with_reducible refine Kd.C_alloc ?_ _) | (with_reducible refine Kd.C_drewN ?_ _) | (with_reducible refine Kd.C_drew ?_))); (case side2 => exact HC252_0.out); rintro e w13 ⟨v254, rfl, ho0, hb⟩; refine ⟨_, rfl, ?_⟩; have n0_ := am (Kd.S_elder' (by refine kS ?_; exact HO_5.out) (Kd.R_base ho0) hb); have n1_ := am (Kd.R_lower ho0 (below_size bl)); have n2_ := am (below_step bl hb); clear HO_5; clear HB; have HO_5 := n0_; have HO255 := n1_; have HB := n2_; clear n0_ n1_ n2_; (try clear hb); (try clear hb2); (try clear hk); (try clear hi); (try clear ho0); obtain ⟨Ao15, co15, eo15⟩ := Kd.R_slice HO255.out; subst eo15) | ((with_reducible refine gate_builtin (b := .append) (xs := #[.tmp 25, .tmp 27]) rfl ?_); at_builtin; refine Kd.S_append (Kd.slice 25 k25) (w0 := w) w.heap.size rfl (.tmp 25) (.tmp 27) 28 27 (.slice none 0 0) 24 rfl Tryd.underlying28 info27 rfl (by decide) (by omega) u5 x5_1 t253 [.slice Ao15 t253.length co15] (fun _ => True) (fun k_ => some k_ = (.slice Ao15 t253.length co15 : Value).ownBlock) rfl rfl ?aP (fun k_ hk_ => ((Kd.R_mono (ok' := fun k_ => ((fun _ => True)) k_ ∧ some k_ ≠ (u5 : Value).ownBlock) (Kd.R_apart' (HO255.out) (Kd.S_typed HO_5.out) (by decide)) (fun k_ hk => ⟨trivial, hk.2⟩))).1 k_ hk_.symm) ?aF ?aO ?aB ?aS ?aL ?_; (case aP => exact Kd.M_row (Kd.R_mono (Kd.R_tight rfl (Kd.R_mono (ok' := fun k_ => ((fun _ => True)) k_ ∧ some k_ ≠ (u5 : Value).ownBlock) (Kd.R_apart' (HO255.out) (Kd.S_typed HO_5.out) (by decide)) (fun k_ hk => ⟨trivial, hk.2⟩))) (fun _ h_ => h_))); (case aB => exact bl); (case aF => exact (fun _ _ => trivial)); (case aO => exact (by refine kS ?_; exact Kd.S_mono HO_5.out (fun k_ hk => ⟨trivial, fun e_ => hk.2 e_⟩))); (case aS => exact (below_size bl)); (case aL => have := LMc11.out; omega); intro v257 w14 ho hb hg hat; have Rk_ := am (Kd.R_grown (Kd.R_mono (ok' := fun k_ => ((fun _ => True)) k_ ∧ some k_ ≠ (u5 : Value).ownBlock) (Kd.R_apart' (HO255.out) (Kd.S_typed HO_5.out) (by decide)) (fun k_ hk => ⟨trivial, hk.2⟩)) hg (fun _ hk => hk.2)); rw [← Ny256.out] at ho; have n0_ := am (hb); have n1_ := am (ho); clear HB; clear HO_5; clear HO255; have HB := n0_; have HO258 := n1_; clear n0_ n1_; clear ho hb hg hat) | ((with_reducible refine gate_callee (f := 86) rfl ?_); refine goesL_ (some 30) rfl rfl Tryd.func86 (by kernel_rfl) rfl #[.slice Ao15 t253.length co15] rfl ar ?_; (with_reducible refine (epitomeref04_Out.calls kj4 _ _ t253 t259 _ ?side1 ?side2 A12.out).mono ?_); (case side1 => repeat (first | exact (Kd.R_reads' Rk_.out).2.2 | (with_reducible refine Kd.C_alloc ?_ _) | (with_reducible refine Kd.C_drewN ?_ _) | (with_reducible refine Kd.C_drew ?_))); (case side2 => exact (Kd.R_reads' Rk_.out).2.1); rintro e w16 ⟨rfl, hb⟩; refine ⟨_, rfl, ?_⟩; have n0_ := am (Kd.S_below (by refine kS ?_; exact HO258.out) hb); have n1_ := am (below_step bl hb); clear HO258; clear HB; have HO258 := n0_; have HB := n1_; clear n0_ n1_; (try clear hb); (try clear hb2); (try clear hk); (try clear hi)))
         go_roundg kj4
         case measure => have := HK1.out; have := HJ4.out; omega
         case rel => exact ⟨(t259), (y256), (wrap64 (x6_1 + 1)), pj, pj, H', ⟨by have := HK1.out; have := HJ4.out; omega⟩, ⟨by refine kS ?_; exact HO258.out⟩, ⟨bl⟩⟩
        ·rw [if_neg c11] at H
         exact absurd H (by simp)
       ·rw [if_neg c9] at H
        exact absurd H (by simp)
      ·rw [if_neg c8] at H
       exact absurd H (by simp)
     ·replace c7 := Bool.eq_false_iff.mpr c7
      subst c7
      have H1 : (some x5_1) = some r := by rw [if_neg (show ¬ (false = true) by decide)] at H; exact H
      clear H
      have H := H1
      clear H1
      obtain rfl := Option.some.inj H
      simp only [Option.some.injEq, Prod.mk.injEq] at H
      obtain ⟨rfl⟩ := H
      go_wp2
      go_ret
      exact ⟨_, by first | rfl | (simp [errW_none, errW_some] <;> rfl) | (simp [*, errW_none, errW_some] <;> rfl), by refine kS ?_; exact HO_5.out, bl⟩
mutual
def epitomeref05_Of.l0 : Nat → List (S25) → List (S25) → Int → Option ((List (S25)))
 | 0, _, _, _ => none
 | k + 1, x0, x3, x4 => if x4 < (x0.length : Int) then (if 0 ≤ x4 then (if ((rd_T25 x0 x4).f1) = 0 then (epitomeref05_Of.j1 k x0 x3 x4 (((rd_T25 x0 x4).f2).toList == ([] : List UInt8)) ((rd_T25 x0 x4).f0) ((rd_T25 x0 x4).f1) ((rd_T25 x0 x4).f2)) else (epitomeref05_Of.j1 k x0 x3 x4 false ((rd_T25 x0 x4).f0) ((rd_T25 x0 x4).f1) ((rd_T25 x0 x4).f2))) else (none)) else (some x3)
def epitomeref05_Of.j1 : Nat → List (S25) → List (S25) → Int → Bool → Int → Int → ByteArray → Option ((List (S25)))
 | 0, _, _, _, _, _, _, _ => none
 | k + 1, x0, x3, x4, x25, x265000, x265001, x265002 => if x25 = true then (epitomeref05_Of.l0 k x0 x3 (wrap64 (x4 + 1))) else (if (x3.length : Int) > 0 then (if 0 ≤ (wrap64 ((x3.length : Int) - 1)) then (if (wrap64 ((x3.length : Int) - 1)) < (x3.length : Int) then (if ((rd_T25 x3 (wrap64 ((x3.length : Int) - 1))).f0) = x265000 then ((some (x3.set ((wrap64 ((x3.length : Int) - 1)) : Int).toNat (⟨(rd_T25 x3 (wrap64 ((x3.length : Int) - 1))).f0, wrap64 (((rd_T25 x3 (wrap64 ((x3.length : Int) - 1))).f1) + x265001), (rd_T25 x3 (wrap64 ((x3.length : Int) - 1))).f2⟩ : S25) : List (S25))).bind fun y267 => (if ((rd_T25 y267 (wrap64 ((x3.length : Int) - 1))).f2).size + x265002.size ≤ 9223372036854775807 then (epitomeref05_Of.l0 k x0 (y267.set ((wrap64 ((x3.length : Int) - 1)) : Int).toNat (⟨(rd_T25 y267 (wrap64 ((x3.length : Int) - 1))).f0, (rd_T25 y267 (wrap64 ((x3.length : Int) - 1))).f1, ((rd_T25 y267 (wrap64 ((x3.length : Int) - 1))).f2) ++ x265002⟩ : S25)) (wrap64 (x4 + 1))) else (none))) else (if x3.length < 4398046511104 then (epitomeref05_Of.l0 k x0 (x3 ++ [(⟨x265000, x265001, x265002⟩ : S25)]) (wrap64 (x4 + 1))) else (none))) else (none)) else (none)) else (if x3.length < 4398046511104 then (epitomeref05_Of.l0 k x0 (x3 ++ [(⟨x265000, x265001, x265002⟩ : S25)]) (wrap64 (x4 + 1))) else (none)))
end
def epitomeref05_Of.f (k : Nat) (l0 : List (S25)) : Option ((List (S25))) := epitomeref05_Of.l0 k l0 (([] : List (S25))) 0
def epitomeref05_Of.T8 : Bool × List (List Nat × List Nat) := (true, [([], []), ([0], [0]), ([1], [1]), ([2], [2]), ([2], [2]), ([4, 2], [2, 4]), ([3, 5, 2], [2, 3, 5]), ([6, 2], [2, 6]), ([7, 2], [2, 7]), ([2], [2]), ([9, 2], [2, 9]), ([8, 10, 2], [2, 8, 10]), ([2, 11], [2, 11])])
def epitomeref05_Of.B8 : List Nat := [0, 1, 3, 7, 7, 23, 63, 127, 255, 7, 519, 2047, 4095]
theorem epitomeref05_Of.tab8 : rtab .any (opsOf Tryd.f53 8) = epitomeref05_Of.T8 := by kernel_rfl
theorem epitomeref05_Of.bits8 : waitsOk epitomeref05_Of.T8.2 epitomeref05_Of.B8 = true := by kernel_rfl
def epitomeref05_Of.T9 : Bool × List (List Nat × List Nat) := (true, [([], []), ([], []), ([1], [1]), ([], []), ([], []), ([4], [4]), ([3, 5], [3, 5]), ([6], [6]), ([7], [7]), ([], []), ([9], [9]), ([8, 10], [8, 10]), ([0, 2, 0, 1, 2, 3, 4, 5, 6, 7, 8, 9, 10, 11], [0, 2]), ([12, 0, 1, 2, 3, 4, 5, 6, 7, 8, 9, 10, 11], [12]), ([13, 11, 0, 1, 2, 3, 4, 5, 6, 7, 8, 9, 10, 11], [11, 13])])
def epitomeref05_Of.B9 : List Nat := [0, 0, 2, 0, 0, 16, 56, 120, 248, 0, 512, 2040, 4095, 8191, 16383]
theorem epitomeref05_Of.tab9 : rtab .any (opsOf Tryd.f53 9) = epitomeref05_Of.T9 := by kernel_rfl
theorem epitomeref05_Of.bits9 : waitsOk epitomeref05_Of.T9.2 epitomeref05_Of.B9 = true := by kernel_rfl
def epitomeref05_Of.T10 : Bool × List (List Nat × List Nat) := (true, [([], []), ([], []), ([1], [1]), ([], []), ([], []), ([4], [4]), ([3, 5], [3, 5]), ([6], [6]), ([7], [7]), ([], []), ([9], [9]), ([8, 10], [8, 10]), ([0, 2, 0, 1, 2, 3, 4, 5, 6, 7, 8, 9, 10, 11], [0, 2]), ([12, 0, 1, 2, 3, 4, 5, 6, 7, 8, 9, 10, 11], [12]), ([13, 11, 0, 1, 2, 3, 4, 5, 6, 7, 8, 9, 10, 11], [11, 13])])
def epitomeref05_Of.B10 : List Nat := [0, 0, 2, 0, 0, 16, 56, 120, 248, 0, 512, 2040, 4095, 8191, 16383]
theorem epitomeref05_Of.tab10 : rtab .any (opsOf Tryd.f53 10) = epitomeref05_Of.T10 := by kernel_rfl
theorem epitomeref05_Of.bits10 : waitsOk epitomeref05_Of.T10.2 epitomeref05_Of.B10 = true := by kernel_rfl
set_option maxHeartbeats 8000000 in
set_option maxRecDepth 100000 in
theorem epitomeref05_Of.calls (k : Nat) (A0 : Option Addr) (c0 : Nat) (l0 : List (S25)) (r : List (S25)) (w : World) (hr0 : Kd.C k25 w A0 l0.length l0) (hc0 : l0.length ≤ c0) (h : epitomeref05_Of.f k l0 = some r) :
  Calls Tryd.prog 53 #[.slice A0 l0.length c0] w fun e w' => ∃ v0_ : Value, e = .returned (v0_) ∧ Kd.R k25 25 w' w.heap.size (fun _ => True) v0_ r ∧ Below w.heap.size w w' := by
 have hu25 := Tryd.underlying25
 have HR0 := am hr0
 have HC0 := am hc0
 clear hr0 hc0
 have HB := am (Below.refl w.heap.size w)
 have H : (epitomeref05_Of.l0 k l0 (([] : List (S25))) 0) = some r := h
 clear h
 obtain ⟨y260, hy260⟩ : ∃ y_ : List (S25), y_ = (([] : List (S25))) := ⟨_, rfl⟩
 replace H : (epitomeref05_Of.l0 k l0 y260 0) = some r := by first | (rw [hy260]; with_reducible exact H) | (have H2_ := (Option.bind_some _ _).symm.trans H; rw [hy260]; with_reducible exact H2_) | (have H2_ := (Option.bind_some _ _).symm.trans H; with_reducible exact H2_) | with_reducible exact H | (rw [hy260]; exact H) | exact H
 have Ny260 := am hy260
 clear hy260
 have H' := am H
 clear H
 go_enter Tryd.func53, Tryd.ntmps53
 go_wp2_with (first | ((with_reducible refine gate_dst (N := 7) rfl ?_); refine Kd.R_lit k25 _ 25 ?hg (N := 7) ?hd (xs := ([] : List (S25))) (inner := []) (ok := fun _ => True) (okp := fun _ => True) ?hr ?hp (fun _ hk => hk) trivial (Below.refl _ _) (Nat.le_refl _) (by simp) ?_; (case hd => rfl); (case hg => rfl); (case hr => first | (go_simp; done) | (go_simp; rfl)); (case hp => exact (Reps.none _ _)); intro v261 w2 ho3 hb hg_ hnew_; clear hg_ hnew_; (first | rw [← Ny260.out] at ho3 | (simp only [Int.reduceToNat] at ho3; rw [← Ny260.out] at ho3)); have n0_ := am (Kd.R_lower ho3 (below_size bl)); have n1_ := am (below_step bl hb); clear HB; have HO262 := n0_; have HB := n1_; clear n0_ n1_; clear hb ho3))
 go_loopg [3, 4] k (fun kq v3 v4 w' => ∃ (x3_1 : List (S25)) (x4_1 : Int), v4 = .int .i64 x4_1 ∧ Aside0 (epitomeref05_Of.l0 kq l0 x3_1 x4_1 = some r) ∧ Aside0 (kq ≤ k) ∧ Aside0 (Kd.R k25 25 w' w.heap.size (fun _ => True) v3 x3_1) ∧ Aside0 (Below w.heap.size w w'))
 case atStart => exact ⟨(y260), (0), pj, H', ⟨Nat.le_refl _⟩, ⟨by refine kR ?_; exact HO262.out⟩, ⟨bl⟩⟩
 case round =>
  clear H'
  try clear p2
  obtain ⟨x3_1, x4_1, rfl, HA, HK1, HO_3, HB⟩ := hrel
  cases gk with
  | zero => exact absurd HA.out (by simp [epitomeref05_Of.l0])
  | succ k1 =>
   have H := HA.out
   clear HA
   simp only [epitomeref05_Of.l0] at H
   by_cases c4 : x4_1 < (l0.length : Int)
   ·rw [if_pos c4] at H
    have c4b0 : decide (x4_1 < (l0.length : Int)) = true := decide_eq_true c4
    clear c4
    by_cases c5 : 0 ≤ x4_1
    ·rw [if_pos c5] at H
     have c5b0 : decide (0 ≤ x4_1) = true := decide_eq_true c5
     clear c5
     have HC6 := am H
     clear H
     have p263 : 0 ≤ (x4_1 : Int) := of_decide_eq_true as0
     have q263 : x4_1 < (l0.length : Int) := of_decide_eq_true as0
     obtain ⟨ad263, e263, hx263_0, hx263_1, hx263_2⟩ := at_T25 HR0.out x4_1 p263 q263
     cases e263
     replace hx263_0 := (HB.out.cell (World.block_lt_of_cell? w _ hx263_0)).trans hx263_0
     replace hx263_1 := (HB.out.cell (World.block_lt_of_cell? w _ hx263_1)).trans hx263_1
     replace hx263_2 := (HB.out.cell (World.block_lt_of_cell? w _ hx263_2)).trans hx263_2
     replace p263 := eq_true p263
     replace q263 := eq_true q263
     go_upto_region 6 with (first | ((with_reducible refine gate_dst (N := 5) rfl ?_); refine box_event ?hg (N := 5) ?hd (cs := #[.int .i64 0, .int .i64 0, .string (⟨#[]⟩ : ByteArray)]) (t := 25) ?hr ?_; (case hd => rfl); (case hg => rfl); (case hr => first | (go_simp; done) | (go_simp; rfl)); intro gb264 hg w7 hbox hb; have n0_ := am (Kd.R_below (Kd.R_elderB (by refine kR ?_; exact HO_3.out) gb264 (Nat.le_of_eq hg.symm)) hb); have n1_ := am (below_step bl hb); have n2_ := am (hbox); have n3_ := am ((gs : w.heap.size ≤ gb264)); have n4_ := am ((gs : w.heap.size ≤ gb264)); clear HO_3; clear HB; have HO_3 := n0_; have HB := n1_; have BK264 := n2_; have GW264 := n3_; have GE264 := n4_; clear n0_ n1_ n2_ n3_ n4_; clear hb hbox hg; have hcz8_0 : w7.cell? ⟨gb264, 0, none⟩ = some (.int .i64 0) := (blk_cell BK264.out 0).trans rfl; have hcz8_1 : w7.cell? ⟨gb264, 1, none⟩ = some (.int .i64 0) := (blk_cell BK264.out 1).trans rfl; have hcz8_2 : w7.cell? ⟨gb264, 2, none⟩ = some (.string (⟨#[]⟩ : ByteArray)) := (blk_cell BK264.out 2).trans rfl; have hfz8_0 := blk_frozen BK264.out 0; have hfz8_1 := blk_frozen BK264.out 1; have hfz8_2 := blk_frozen BK264.out 2))
     (try simp only [Act.put, List.setIfInBounds_toArray, List.set_cons_zero, List.set_cons_succ])
     go_cut [25] (fun v25 wc => ∃ (kq : Nat) (x25_5 : Bool), v25 = .bool x25_5 ∧ Aside0 (epitomeref05_Of.j1 kq l0 x3_1 x4_1 x25_5 ((rd_T25 l0 x4_1).f0) ((rd_T25 l0 x4_1).f1) ((rd_T25 l0 x4_1).f2) = some r) ∧ Aside0 (kq ≤ k1) ∧ Aside0 (Kd.R k25 25 wc w.heap.size (fun k_ => k_ ≠ gb264) u3 x3_1) ∧ Aside0 (wc.heap[gb264]? = some (.cells #[.int .i64 ((rd_T25 l0 x4_1).f0), .int .i64 ((rd_T25 l0 x4_1).f1), .string ((rd_T25 l0 x4_1).f2)] 25 (0, 0))) ∧ Aside0 (Below w.heap.size w wc))
     case first =>
      have H := HC6.out
      clear HC6
      by_cases c9 : ((rd_T25 l0 x4_1).f1) = 0
      ·rw [if_pos c9] at H
       have c9b0 : (((rd_T25 l0 x4_1).f1) == 0) = true := beq_iff_eq.mpr c9
       have c9b1 : (((rd_T25 l0 x4_1).f1) != 0) = false := bne_eq_false_iff_eq.mpr c9
       clear c9
       (first | rw [c9b0] | (simp only [i64_w, i32_w]; rw [c9b0]) | skip)
       have H' := am H
       clear H
       have hcz10_0 : w7.cell? ⟨gb264, 0, none⟩ = some (.int .i64 0) := (blk_cell BK264.out 0).trans rfl
       have hcz10_1 : w7.cell? ⟨gb264, 1, none⟩ = some (.int .i64 0) := (blk_cell BK264.out 1).trans rfl
       have hcz10_2 : w7.cell? ⟨gb264, 2, none⟩ = some (.string (⟨#[]⟩ : ByteArray)) := (blk_cell BK264.out 2).trans rfl
       have hfz10_0 := blk_frozen BK264.out 0
       have hfz10_1 := blk_frozen BK264.out 1
       have hfz10_2 := blk_frozen BK264.out 2
       go_wp2
       go_meet
       case rel => exact ⟨_, ((((rd_T25 l0 x4_1).f2).toList == ([] : List UInt8))), pj, H', ⟨by have := HK1.out; first | omega | exact Nat.le_refl _⟩, ⟨by refine kR ?_; exact Kd.R_mono (Kd.R_far (p := ⟨gb264, 2, none⟩) (Kd.R_far (p := ⟨gb264, 1, none⟩) (Kd.R_far (p := ⟨gb264, 0, none⟩) (Kd.R_mono HO_3.out (fun k_ hk => (⟨hk, hk.2⟩ : _ ∧ k_ ≠ gb264))) (fun _ hk => hk.2) (.int .i64 ((rd_T25 l0 x4_1).f0))) (fun _ hk => hk.2) (.int .i64 ((rd_T25 l0 x4_1).f1))) (fun _ hk => hk.2) (.string ((rd_T25 l0 x4_1).f2))) (fun _ hk => hk.1.2)⟩, ⟨by refine bk ?_; refine blk_put (cs := #[.int .i64 ((rd_T25 l0 x4_1).f0), .int .i64 ((rd_T25 l0 x4_1).f1), .string (⟨#[]⟩ : ByteArray)]) ?_ 2 _ rfl; refine bk ?_; refine blk_put (cs := #[.int .i64 ((rd_T25 l0 x4_1).f0), .int .i64 0, .string (⟨#[]⟩ : ByteArray)]) ?_ 1 _ rfl; refine bk ?_; refine blk_put (cs := #[.int .i64 0, .int .i64 0, .string (⟨#[]⟩ : ByteArray)]) ?_ 0 _ rfl; refine bk ?_; exact BK264.out⟩, ⟨bl⟩⟩
      ·rw [if_neg c9] at H
       have c9b0 : (((rd_T25 l0 x4_1).f1) == 0) = false := beq_eq_false_iff_ne.mpr c9
       have c9b1 : (((rd_T25 l0 x4_1).f1) != 0) = true := bne_iff_ne.mpr c9
       (first | rw [c9b0] | (simp only [i64_w, i32_w]; rw [c9b0]) | skip)
       have H' := am H
       clear H
       have hcz11_0 : w7.cell? ⟨gb264, 0, none⟩ = some (.int .i64 0) := (blk_cell BK264.out 0).trans rfl
       have hcz11_1 : w7.cell? ⟨gb264, 1, none⟩ = some (.int .i64 0) := (blk_cell BK264.out 1).trans rfl
       have hcz11_2 : w7.cell? ⟨gb264, 2, none⟩ = some (.string (⟨#[]⟩ : ByteArray)) := (blk_cell BK264.out 2).trans rfl
       have hfz11_0 := blk_frozen BK264.out 0
       have hfz11_1 := blk_frozen BK264.out 1
       have hfz11_2 := blk_frozen BK264.out 2
       go_wp2
       go_meet
       case rel => exact ⟨_, (false), pj, H', ⟨by have := HK1.out; first | omega | exact Nat.le_refl _⟩, ⟨by refine kR ?_; exact Kd.R_mono (Kd.R_far (p := ⟨gb264, 2, none⟩) (Kd.R_far (p := ⟨gb264, 1, none⟩) (Kd.R_far (p := ⟨gb264, 0, none⟩) (Kd.R_mono HO_3.out (fun k_ hk => (⟨hk, hk.2⟩ : _ ∧ k_ ≠ gb264))) (fun _ hk => hk.2) (.int .i64 ((rd_T25 l0 x4_1).f0))) (fun _ hk => hk.2) (.int .i64 ((rd_T25 l0 x4_1).f1))) (fun _ hk => hk.2) (.string ((rd_T25 l0 x4_1).f2))) (fun _ hk => hk.1.2)⟩, ⟨by refine bk ?_; refine blk_put (cs := #[.int .i64 ((rd_T25 l0 x4_1).f0), .int .i64 ((rd_T25 l0 x4_1).f1), .string (⟨#[]⟩ : ByteArray)]) ?_ 2 _ rfl; refine bk ?_; refine blk_put (cs := #[.int .i64 ((rd_T25 l0 x4_1).f0), .int .i64 0, .string (⟨#[]⟩ : ByteArray)]) ?_ 1 _ rfl; refine bk ?_; refine blk_put (cs := #[.int .i64 0, .int .i64 0, .string (⟨#[]⟩ : ByteArray)]) ?_ 0 _ rfl; refine bk ?_; exact BK264.out⟩, ⟨bl⟩⟩
     case rest =>
      clear HC6
      try clear p2
      try clear q2
      try clear hx2
      try clear c4
      try clear c4b0
      try clear c5
      try clear c5b0
      try clear c9
      try clear c9b0
      try clear c9b1
      try clear hcz10_0
      try clear hcz10_1
      try clear hcz10_2
      try clear hcz11_0
      try clear hcz11_1
      try clear hcz11_2
      try clear hcz8_0
      try clear hcz8_1
      try clear hcz8_2
      try clear hfz10_0
      try clear hfz10_1
      try clear hfz10_2
      try clear hfz11_0
      try clear hfz11_1
      try clear hfz11_2
      try clear hfz8_0
      try clear hfz8_1
      try clear hfz8_2
      try clear hx263_0
      try clear hx263_1
      try clear hx263_2
      try clear p2
      try clear p263
      try clear q263
      obtain ⟨kq, x25_5, rfl, HA, HJ5, HO_3, BK264, HB⟩ := hcut
      cases kq with
      | zero => exact absurd HA.out (by simp [epitomeref05_Of.j1])
      | succ kj5 =>
       have H := HA.out
       clear HA
       simp only [epitomeref05_Of.j1] at H
       by_cases c12 : x25_5 = true
       ·subst c12
        have H1 : (epitomeref05_Of.l0 kj5 l0 x3_1 (wrap64 (x4_1 + 1))) = some r := by rw [if_pos rfl] at H; exact H
        clear H
        have H := H1
        clear H1
        have H' := am H
        clear H
        go_wp2
        go_roundg kj5
        case measure => have := HK1.out; have := HJ5.out; omega
        case rel => exact ⟨(x3_1), (wrap64 (x4_1 + 1)), pj, H', ⟨by have := HK1.out; have := HJ5.out; omega⟩, ⟨by refine kR ?_; exact Kd.R_mono HO_3.out (fun _ hk => trivial)⟩, ⟨bl⟩⟩
       ·replace c12 := Bool.eq_false_iff.mpr c12
        subst c12
        have H1 : (if (x3_1.length : Int) > 0 then (if 0 ≤ (wrap64 ((x3_1.length : Int) - 1)) then (if (wrap64 ((x3_1.length : Int) - 1)) < (x3_1.length : Int) then (if ((rd_T25 x3_1 (wrap64 ((x3_1.length : Int) - 1))).f0) = ((rd_T25 l0 x4_1).f0) then ((some (x3_1.set ((wrap64 ((x3_1.length : Int) - 1)) : Int).toNat (⟨(rd_T25 x3_1 (wrap64 ((x3_1.length : Int) - 1))).f0, wrap64 (((rd_T25 x3_1 (wrap64 ((x3_1.length : Int) - 1))).f1) + ((rd_T25 l0 x4_1).f1)), (rd_T25 x3_1 (wrap64 ((x3_1.length : Int) - 1))).f2⟩ : S25) : List (S25))).bind fun y267 => (if ((rd_T25 y267 (wrap64 ((x3_1.length : Int) - 1))).f2).size + ((rd_T25 l0 x4_1).f2).size ≤ 9223372036854775807 then (epitomeref05_Of.l0 kj5 l0 (y267.set ((wrap64 ((x3_1.length : Int) - 1)) : Int).toNat (⟨(rd_T25 y267 (wrap64 ((x3_1.length : Int) - 1))).f0, (rd_T25 y267 (wrap64 ((x3_1.length : Int) - 1))).f1, ((rd_T25 y267 (wrap64 ((x3_1.length : Int) - 1))).f2) ++ ((rd_T25 l0 x4_1).f2)⟩ : S25)) (wrap64 (x4_1 + 1))) else (none))) else (if x3_1.length < 4398046511104 then (epitomeref05_Of.l0 kj5 l0 (x3_1 ++ [(⟨((rd_T25 l0 x4_1).f0), ((rd_T25 l0 x4_1).f1), ((rd_T25 l0 x4_1).f2)⟩ : S25)]) (wrap64 (x4_1 + 1))) else (none))) else (none)) else (none)) else (if x3_1.length < 4398046511104 then (epitomeref05_Of.l0 kj5 l0 (x3_1 ++ [(⟨((rd_T25 l0 x4_1).f0), ((rd_T25 l0 x4_1).f1), ((rd_T25 l0 x4_1).f2)⟩ : S25)]) (wrap64 (x4_1 + 1))) else (none))) = some r := by rw [if_neg (show ¬ (false = true) by decide)] at H; exact H
        clear H
        have H := H1
        clear H1
        by_cases c13 : (x3_1.length : Int) > 0
        ·rw [if_pos c13] at H
         have c13b0 : decide (0 < (x3_1.length : Int)) = true := decide_eq_true c13
         have c13b1 : decide (0 < x3_1.length) = true := decide_eq_true (by omega)
         clear c13
         obtain ⟨ji14, hji14⟩ : ∃ j_ : Int, (wrap64 ((x3_1.length : Int) - 1)) = j_ := ⟨_, rfl⟩
         replace H : (if 0 ≤ (ji14) then (if (ji14) < (x3_1.length : Int) then (if ((rd_T25 x3_1 (ji14)).f0) = ((rd_T25 l0 x4_1).f0) then ((some (x3_1.set ((ji14) : Int).toNat (⟨(rd_T25 x3_1 (ji14)).f0, wrap64 (((rd_T25 x3_1 (ji14)).f1) + ((rd_T25 l0 x4_1).f1)), (rd_T25 x3_1 (ji14)).f2⟩ : S25) : List (S25))).bind fun y267 => (if ((rd_T25 y267 (ji14)).f2).size + ((rd_T25 l0 x4_1).f2).size ≤ 9223372036854775807 then (epitomeref05_Of.l0 kj5 l0 (y267.set ((ji14) : Int).toNat (⟨(rd_T25 y267 (ji14)).f0, (rd_T25 y267 (ji14)).f1, ((rd_T25 y267 (ji14)).f2) ++ ((rd_T25 l0 x4_1).f2)⟩ : S25)) (wrap64 (x4_1 + 1))) else (none))) else (if x3_1.length < 4398046511104 then (epitomeref05_Of.l0 kj5 l0 (x3_1 ++ [(⟨((rd_T25 l0 x4_1).f0), ((rd_T25 l0 x4_1).f1), ((rd_T25 l0 x4_1).f2)⟩ : S25)]) (wrap64 (x4_1 + 1))) else (none))) else (none)) else (none)) = some r := by first | (rw [hji14] at H; exact H) | (simp only [hji14] at H ⊢; exact H)
         have hji14w : (IntKind.i64.wrap ((x3_1.length : Int) - 1)) = ji14 := (i64_w _).trans hji14
         by_cases c15 : 0 ≤ (ji14)
         ·rw [if_pos c15] at H
          have c15b0 : decide (0 ≤ (ji14)) = true := decide_eq_true c15
          clear c15
          by_cases c16 : (ji14) < (x3_1.length : Int)
          ·rw [if_pos c16] at H
           have c16b0 : decide ((ji14) < (x3_1.length : Int)) = true := decide_eq_true c16
           clear c16
           by_cases c17 : ((rd_T25 x3_1 (ji14)).f0) = ((rd_T25 l0 x4_1).f0)
           ·rw [if_pos c17] at H
            have c17b0 : (((rd_T25 x3_1 (ji14)).f0) == ((rd_T25 l0 x4_1).f0)) = true := beq_iff_eq.mpr c17
            have c17b1 : (((rd_T25 x3_1 (ji14)).f0) != ((rd_T25 l0 x4_1).f0)) = false := bne_eq_false_iff_eq.mpr c17
            clear c17
            obtain ⟨y267, hy267⟩ : ∃ y_ : List (S25), y_ = (x3_1.set ((ji14) : Int).toNat (⟨(rd_T25 x3_1 (ji14)).f0, wrap64 (((rd_T25 x3_1 (ji14)).f1) + ((rd_T25 l0 x4_1).f1)), (rd_T25 x3_1 (ji14)).f2⟩ : S25)) := ⟨_, rfl⟩
            replace H : (if ((rd_T25 y267 (ji14)).f2).size + ((rd_T25 l0 x4_1).f2).size ≤ 9223372036854775807 then (epitomeref05_Of.l0 kj5 l0 (y267.set ((ji14) : Int).toNat (⟨(rd_T25 y267 (ji14)).f0, (rd_T25 y267 (ji14)).f1, ((rd_T25 y267 (ji14)).f2) ++ ((rd_T25 l0 x4_1).f2)⟩ : S25)) (wrap64 (x4_1 + 1))) else (none)) = some r := by first | (rw [hy267]; with_reducible exact H) | (have H2_ := (Option.bind_some _ _).symm.trans H; rw [hy267]; with_reducible exact H2_) | (have H2_ := (Option.bind_some _ _).symm.trans H; with_reducible exact H2_) | with_reducible exact H | (rw [hy267]; exact H) | exact H
            have Ny267 := am hy267
            clear hy267
            by_cases c19 : ((rd_T25 y267 (ji14)).f2).size + ((rd_T25 l0 x4_1).f2).size ≤ 9223372036854775807
            ·rw [if_pos c19] at H
             have c19b0 := eq_true c19
             have c19b1 : decide (((rd_T25 y267 (ji14)).f2).size + ((rd_T25 l0 x4_1).f2).size ≤ 9223372036854775807) = true := decide_eq_true c19
             try have c19b2 : (9223372036854775807 < ((rd_T25 y267 (ji14)).f2).size + ((rd_T25 l0 x4_1).f2).size) = False := eq_false (Nat.not_lt.2 c19)
             obtain ⟨y269, hy269⟩ : ∃ y_ : List (S25), y_ = (y267.set ((ji14) : Int).toNat (⟨(rd_T25 y267 (ji14)).f0, (rd_T25 y267 (ji14)).f1, ((rd_T25 y267 (ji14)).f2) ++ ((rd_T25 l0 x4_1).f2)⟩ : S25)) := ⟨_, rfl⟩
             replace H : (epitomeref05_Of.l0 kj5 l0 y269 (wrap64 (x4_1 + 1))) = some r := by first | (rw [hy269]; with_reducible exact H) | (have H2_ := (Option.bind_some _ _).symm.trans H; rw [hy269]; with_reducible exact H2_) | (have H2_ := (Option.bind_some _ _).symm.trans H; with_reducible exact H2_) | with_reducible exact H | (rw [hy269]; exact H) | exact H
             have Ny269 := am hy269
             clear hy269
             have H' := am H
             clear H
             obtain ⟨Ao21, co21, eo21⟩ := Kd.R_slice HO_3.out
             subst eo21
             try go_wp2
             have n0_ := am (Kd.R_drew HO_3.out)
             have n1_ := am (blk_drew BK264.out)
             have n2_ := am (below_drew1 HB.out)
             clear HO_3
             clear BK264
             clear HB
             have HO_3 := n0_
             have BK264 := n1_
             have HB := n2_
             clear n0_ n1_ n2_
             have p265 : 0 ≤ ((ji14) : Int) := of_decide_eq_true as0
             have q265 : (ji14) < (x3_1.length : Int) := of_decide_eq_true as0
             obtain ⟨ad265, e265, hx265_0, hx265_1, hx265_2⟩ := at_T25 (Kd.R_reads' HO_3.out).2.2 (ji14) p265 q265
             cases e265
             replace p265 := eq_true p265
             replace q265 := eq_true q265
             refine start_ (n := 13) (S := fun w' => w'.cell? ⟨gb264, 0, none⟩ = some (.int .i64 ((rd_T25 l0 x4_1).f0)) ∧ w'.cell? ⟨gb264, 1, none⟩ = some (.int .i64 ((rd_T25 l0 x4_1).f1)) ∧ w'.cell? ⟨gb264, 2, none⟩ = some (.string ((rd_T25 l0 x4_1).f2)) ∧ w'.cell? (ad265.add (((ji14)).toNat * 3)) = some (.int .i64 ((rd_T25 x3_1 (ji14)).f0)) ∧ w'.cell? ⟨(ad265.add (((ji14)).toNat * 3)).block, (ad265.add (((ji14)).toNat * 3)).off + 1, none⟩ = some (.int .i64 ((rd_T25 x3_1 (ji14)).f1)) ∧ w'.cell? ⟨(ad265.add (((ji14)).toNat * 3)).block, (ad265.add (((ji14)).toNat * 3)).off + 2, none⟩ = some (.string ((rd_T25 x3_1 (ji14)).f2))) (ds := []) #[false, false, false, false, false, false, false, false, false, false, false, false, false] (by kernel_rfl) rfl rfl ⟨(blk_cell BK264.out 0).trans rfl, (blk_cell BK264.out 1).trans rfl, (blk_cell BK264.out 2).trans rfl, hx265_0, hx265_1, hx265_2⟩ (fun hHeld => ?_); refine with_tabW epitomeref05_Of.tab8 epitomeref05_Of.bits8 (fun HT_ HW_ => ?_)
             generalize wc.drew = w22 at HO_3 BK264 HB hx265_0 hx265_1 hx265_2 hHeld ⊢
             refine pure_ (i := 0) (N := some 28) #[true, false, false, false, false, false, false, false, false, false, false, false, false] rfl rfl (aT HT_.out) (fun _ _ _ h => h) (Or.inl ⟨rfl, rn⟩) ap ?_
             refine pure_ (i := 1) (N := some 29) #[true, true, false, false, false, false, false, false, false, false, false, false, false] rfl rfl (aT HT_.out) (fun _ _ _ h => h) (Or.inl ⟨rfl, rn⟩) ap ?_
             refine pure_ (i := 2) (N := some 30) #[true, true, true, false, false, false, false, false, false, false, false, false, false] rfl rfl (aT HT_.out) (fun _ _ _ h => h) (Or.inl ⟨rfl, rn⟩) ap ?_
             refine pure_ (i := 3) (N := some 31) #[true, true, true, true, false, false, false, false, false, false, false, false, false] rfl rfl (aT HT_.out) (fun _ _ _ h => h) (Or.inl ⟨rfl, rn⟩) ap ?_
             refine pure_ (i := 4) (N := some 32) #[true, true, true, true, true, false, false, false, false, false, false, false, false] rfl rfl (aT HT_.out) (fun _ _ _ h => h) (Or.inl ⟨rfl, rn⟩) ap ?_
             refine pure_ (i := 5) (N := some 33) #[true, true, true, true, true, true, false, false, false, false, false, false, false] rfl rfl (aT HT_.out) (fun _ _ _ h => h) (Or.inl ⟨rfl, rn⟩) ap ?_
             refine pure_ (i := 6) (N := some 34) #[true, true, true, true, true, true, true, false, false, false, false, false, false] rfl rfl (aT HT_.out) (fun _ _ _ h => h) (Or.inl ⟨rfl, rn⟩) ap ?_
             refine pure_ (i := 7) (N := some 35) #[true, true, true, true, true, true, true, true, false, false, false, false, false] rfl rfl (aT HT_.out) (fun _ _ _ h => h) (Or.inl ⟨rfl, rn⟩) ap ?_
             refine pure_ (i := 9) (N := some 37) #[true, true, true, true, true, true, true, true, false, true, false, false, false] rfl rfl (aT HT_.out) (fun _ _ _ h => h) (Or.inl ⟨rfl, rn⟩) ap ?_
             refine take_ (i := 8) (N := some 36) (v := ?_) (a' := ?_) #[true, true, true, true, true, true, true, true, true, true, false, false, false] rfl rfl (take_ofW HT_.out HW_.out (by kernel_rfl)) (fun _ _ _ h => h) (Or.inl ⟨by rfl, ?_⟩) hHeld ?_ ?_
             rotate_left
             ·rintro w' ⟨s0, s1, s2, s3, s4, s5⟩
              go_simp
              with_reducible rfl
             rotate_left
             ·exact ap
             refine take_ (i := 10) (N := some 38) (v := ?_) (a' := ?_) #[true, true, true, true, true, true, true, true, true, true, true, false, false] rfl rfl (take_ofW HT_.out HW_.out (by kernel_rfl)) (fun _ _ _ h => h) (Or.inl ⟨by rfl, ?_⟩) hHeld ?_ ?_
             rotate_left
             ·rintro w' ⟨s0, s1, s2, s3, s4, s5⟩
              go_simp
              with_reducible rfl
             rotate_left
             ·exact ap
             refine pure_ (i := 11) (N := some 39) #[true, true, true, true, true, true, true, true, true, true, true, true, false] rfl rfl (aT HT_.out) (fun _ _ _ h => h) (Or.inl ⟨rfl, rn⟩) ap ?_
             refine pure_ (i := 12) (N := some 40) #[true, true, true, true, true, true, true, true, true, true, true, true, true] rfl rfl (aT HT_.out) (fun _ _ _ h => h) (Or.inl ⟨rfl, rn⟩) ap ?_
             refine done_ (done_of HT_.out (by kernel_rfl)) ?_
             try go_wp2
             have n0_ := am (Kd.R_drew HO_3.out)
             have n1_ := am (blk_drew BK264.out)
             have n2_ := am (below_drew1 HB.out)
             clear HO_3
             clear BK264
             clear HB
             have HO_3 := n0_
             have BK264 := n1_
             have HB := n2_
             clear n0_ n1_ n2_
             have p266 : 0 ≤ ((ji14) : Int) := of_decide_eq_true as0
             have q266 : (ji14) < (x3_1.length : Int) := of_decide_eq_true as0
             obtain ⟨ad266, e266, hx266_0, hx266_1, hx266_2⟩ := at_T25 (Kd.R_reads' HO_3.out).2.2 (ji14) p266 q266
             obtain rfl : ad265 = ad266 := (by injection e266)
             replace p266 := eq_true p266
             replace q266 := eq_true q266
             have p18 : 0 ≤ ((ji14) : Int) := of_decide_eq_true as0
             have q18 : ((ji14) : Int) < ((x3_1.length : Int) : Int) := of_decide_eq_true as0
             obtain ⟨go18, co18, eo18, gb18, gl18, cl18, HG18⟩ := Kd.R_form HO_3.out (by omega)
             (first | cases eo18 | (injection eo18 with ea_ en_ ec_; (first | subst ea_ | (injection ea_ with ea_; subst ea_)); subst ec_; clear en_))
             have GB18 := am gb18
             have GG18 := am HG18
             clear gb18 gl18 HG18
             (first | simp only [add_plain] at hx265_0 | skip)
             (first | simp only [add_plain] at hx265_1 | skip)
             (first | simp only [add_plain] at hx265_2 | skip)
             (first | simp only [add_plain] at hx266_0 | skip)
             (first | simp only [add_plain] at hx266_1 | skip)
             (first | simp only [add_plain] at hx266_2 | skip)
             obtain ⟨ce18, hcl18, hM18, hcc18, hfr18⟩ := Kd.R_elem HO_3.out z25 ((ji14) : Int) p18 q18
             obtain rfl := k25_openM hM18
             have hx18_0 : World.cell? _ ⟨go18, ((ji14) : Int).toNat * 3, none⟩ = some (.int .i64 ((rd_T25 x3_1 (ji14)).f0)) := hcc18 0 _ rfl
             have hx18_1 : World.cell? _ ⟨go18, ((ji14) : Int).toNat * 3 + 1, none⟩ = some (.int .i64 ((rd_T25 x3_1 (ji14)).f1)) := hcc18 1 _ rfl
             have hx18_2 : World.cell? _ ⟨go18, ((ji14) : Int).toNat * 3 + 2, none⟩ = some (.string ((rd_T25 x3_1 (ji14)).f2)) := hcc18 2 _ rfl
             have hf18_0 : World.frozen? _ ⟨go18, ((ji14) : Int).toNat * 3, none⟩ = false := hfr18 0
             have hf18_1 : World.frozen? _ ⟨go18, ((ji14) : Int).toNat * 3 + 1, none⟩ = false := hfr18 1
             have hf18_2 : World.frozen? _ ⟨go18, ((ji14) : Int).toNat * 3 + 2, none⟩ = false := hfr18 2
             clear hcl18 hcc18 hfr18 hM18
             replace p18 := eq_true p18
             replace q18 := eq_true q18
             obtain ⟨ce24, hcl24, hM24, hcc24, hfr24⟩ := Kd.R_elem HO_3.out z25 ((ji14) : Int) (of_decide_eq_true as0) (by have h_ : ((ji14) : Int) < ((x3_1.length : Int) : Int) := of_decide_eq_true as0; first | exact h_ | (have e_ := (Kd.R_reads' HO_3.out).1; omega) | simpa using h_)
             obtain rfl := k25_openM hM24
             have HP24 := (Kd.R_seg HO_3.out ((ji14) : Int) (of_decide_eq_true as0) (by have h_ : ((ji14) : Int) < ((x3_1.length : Int) : Int) := of_decide_eq_true as0; first | exact h_ | (have e_ := (Kd.R_reads' HO_3.out).1; omega) | simpa using h_) (seg := [.int .i64 (wrap64 (((rd_T25 x3_1 (ji14)).f1) + ((rd_T25 l0 x4_1).f1)))]) (j := 1) hcl24 hcc24 (show 2 ≤ 3 from by decide) (x' := (⟨(rd_T25 x3_1 (ji14)).f0, wrap64 (((rd_T25 x3_1 (ji14)).f1) + ((rd_T25 l0 x4_1).f1)), (rd_T25 x3_1 (ji14)).f2⟩ : S25)) (k25_mkM _ _ _ (⟨(rd_T25 x3_1 (ji14)).f0, wrap64 (((rd_T25 x3_1 (ji14)).f1) + ((rd_T25 l0 x4_1).f1)), (rd_T25 x3_1 (ji14)).f2⟩ : S25) ) (fun _ hk => hk)).1
             rw [← Ny267.out] at HP24
             have HQ24 := am HP24
             clear hcl24 hcc24 hfr24 hM24 HP24
             refine start_ (n := 15) (S := fun w' => w'.cell? ⟨gb264, 0, none⟩ = some (.int .i64 ((rd_T25 l0 x4_1).f0)) ∧ w'.cell? ⟨gb264, 1, none⟩ = some (.int .i64 ((rd_T25 l0 x4_1).f1)) ∧ w'.cell? ⟨gb264, 2, none⟩ = some (.string ((rd_T25 l0 x4_1).f2)) ∧ w'.cell? ⟨go18, ((ji14) : Int).toNat * 3, none⟩ = some (.int .i64 ((rd_T25 x3_1 (ji14)).f0)) ∧ w'.cell? ⟨go18, ((ji14) : Int).toNat * 3 + 1, none⟩ = some (.int .i64 ((rd_T25 x3_1 (ji14)).f1)) ∧ w'.cell? ⟨go18, ((ji14) : Int).toNat * 3 + 2, none⟩ = some (.string ((rd_T25 x3_1 (ji14)).f2))) (ds := [14]) #[false, false, false, false, false, false, false, false, false, false, false, false, false, false, false] (by kernel_rfl) rfl rfl ⟨(blk_cell BK264.out 0).trans rfl, (blk_cell BK264.out 1).trans rfl, (blk_cell BK264.out 2).trans rfl, hx18_0, hx18_1, hx18_2⟩ (fun hHeld => ?_); refine with_tabW epitomeref05_Of.tab9 epitomeref05_Of.bits9 (fun HT_ HW_ => ?_)
             generalize w22.drew = w23 at HO_3 BK264 HB GG18 HQ24 hf18_0 hf18_1 hf18_2 hx18_0 hx18_1 hx18_2 hx265_0 hx265_1 hx265_2 hx266_0 hx266_1 hx266_2 hHeld ⊢
             refine pure_ (i := 0) (N := some 41) #[true, false, false, false, false, false, false, false, false, false, false, false, false, false, false] rfl rfl (aT HT_.out) (fun _ _ _ h => h) (Or.inl ⟨rfl, rn⟩) ap ?_
             refine pure_ (i := 1) (N := some 42) #[true, true, false, false, false, false, false, false, false, false, false, false, false, false, false] rfl rfl (aT HT_.out) (fun _ _ _ h => h) (Or.inl ⟨rfl, rn⟩) ap ?_
             refine pure_ (i := 2) (N := some 43) #[true, true, true, false, false, false, false, false, false, false, false, false, false, false, false] rfl rfl (aT HT_.out) (fun _ _ _ h => h) (Or.inl ⟨rfl, rn⟩) ap ?_
             refine pure_ (i := 3) (N := some 44) #[true, true, true, true, false, false, false, false, false, false, false, false, false, false, false] rfl rfl (aT HT_.out) (fun _ _ _ h => h) (Or.inl ⟨rfl, rn⟩) ap ?_
             refine pure_ (i := 4) (N := some 45) #[true, true, true, true, true, false, false, false, false, false, false, false, false, false, false] rfl rfl (aT HT_.out) (fun _ _ _ h => h) (Or.inl ⟨rfl, rn⟩) ap ?_
             refine pure_ (i := 5) (N := some 46) #[true, true, true, true, true, true, false, false, false, false, false, false, false, false, false] rfl rfl (aT HT_.out) (fun _ _ _ h => h) (Or.inl ⟨rfl, rn⟩) ap ?_
             refine pure_ (i := 6) (N := some 47) #[true, true, true, true, true, true, true, false, false, false, false, false, false, false, false] rfl rfl (aT HT_.out) (fun _ _ _ h => h) (Or.inl ⟨rfl, rn⟩) ap ?_
             refine pure_ (i := 7) (N := some 48) #[true, true, true, true, true, true, true, true, false, false, false, false, false, false, false] rfl rfl (aT HT_.out) (fun _ _ _ h => h) (Or.inl ⟨rfl, rn⟩) ap ?_
             refine pure_ (i := 9) (N := some 50) #[true, true, true, true, true, true, true, true, false, true, false, false, false, false, false] rfl rfl (aT HT_.out) (fun _ _ _ h => h) (Or.inl ⟨rfl, rn⟩) ap ?_
             refine take_ (i := 8) (N := some 49) (v := ?_) (a' := ?_) #[true, true, true, true, true, true, true, true, true, true, false, false, false, false, false] rfl rfl (take_ofW HT_.out HW_.out (by kernel_rfl)) (fun _ _ _ h => h) (Or.inl ⟨by rfl, ?_⟩) hHeld ?_ ?_
             rotate_left
             ·rintro w' ⟨s0, s1, s2, s3, s4, s5⟩
              go_simp
              with_reducible rfl
             rotate_left
             ·exact ap
             refine take_ (i := 10) (N := some 51) (v := ?_) (a' := ?_) #[true, true, true, true, true, true, true, true, true, true, true, false, false, false, false] rfl rfl (take_ofW HT_.out HW_.out (by kernel_rfl)) (fun _ _ _ h => h) (Or.inl ⟨by rfl, ?_⟩) hHeld ?_ ?_
             rotate_left
             ·rintro w' ⟨s0, s1, s2, s3, s4, s5⟩
              go_simp
              with_reducible rfl
             rotate_left
             ·exact ap
             refine pure_ (i := 11) (N := some 52) #[true, true, true, true, true, true, true, true, true, true, true, true, false, false, false] rfl rfl (aT HT_.out) (fun _ _ _ h => h) (Or.inl ⟨rfl, rn⟩) ap ?_
             refine pure_ (i := 12) (N := some 53) #[true, true, true, true, true, true, true, true, true, true, true, true, true, false, false] rfl rfl (aT HT_.out) (fun _ _ _ h => h) (Or.inl ⟨rfl, rn⟩) ap ?_
             refine pure_ (i := 13) (N := some 54) #[true, true, true, true, true, true, true, true, true, true, true, true, true, true, false] rfl rfl (aT HT_.out) (fun _ _ _ h => h) (Or.inl ⟨rfl, rn⟩) ap ?_
             refine last_ (i := 14) (N := none) #[true, true, true, true, true, true, true, true, true, true, true, true, true, true, true] rfl rfl (one_of HT_.out (by kernel_rfl)) (by decide) (fun K hK => ?_)
             refine skip_ (w1 := ?_) (by rfl) rfl ?_ ?_
             rotate_left
             ·go_simp
              rfl
             refine hK.out _ _ ?_
             clear hK K
             refine done_ (done_of HT_.out (by kernel_rfl)) ?_
             try go_wp2
             have n0_ : Aside0 (Kd.R k25 25 (w23.setCell ⟨go18, ((ji14) : Int).toNat * 3 + 1, none⟩ (.int .i64 (wrap64 (((rd_T25 x3_1 (ji14)).f1) + ((rd_T25 l0 x4_1).f1))))) w.heap.size (fun k_ => k_ ≠ gb264) (.slice (some ⟨go18, 0, none⟩) x3_1.length co21) y267) := ⟨by refine kR ?_; exact HQ24.out⟩
             have n1_ : Aside0 ((w23.setCell ⟨go18, ((ji14) : Int).toNat * 3 + 1, none⟩ (.int .i64 (wrap64 (((rd_T25 x3_1 (ji14)).f1) + ((rd_T25 l0 x4_1).f1))))).heap[gb264]? = some (.cells #[.int .i64 ((rd_T25 l0 x4_1).f0), .int .i64 ((rd_T25 l0 x4_1).f1), .string ((rd_T25 l0 x4_1).f2)] 25 (0, 0))) := ⟨by refine bk ?_; refine blk_far ?_ (by have h_ := Kd.R_away HO_3.out (fun _ hk => hk); intro e_; exact h_ (by rw [e_]; rfl)) _; refine bk ?_; exact BK264.out⟩
             have n2_ : Aside0 (Below w.heap.size w (w23.setCell ⟨go18, ((ji14) : Int).toNat * 3 + 1, none⟩ (.int .i64 (wrap64 (((rd_T25 x3_1 (ji14)).f1) + ((rd_T25 l0 x4_1).f1)))))) := ⟨bl⟩
             (try clear HO_3)
             (try clear BK264)
             (try clear HB)
             generalize (w23.setCell ⟨go18, ((ji14) : Int).toNat * 3 + 1, none⟩ (.int .i64 (wrap64 (((rd_T25 x3_1 (ji14)).f1) + ((rd_T25 l0 x4_1).f1))))) = w25 at n0_ n1_ n2_ ⊢
             have HO_3 := n0_
             have BK264 := n1_
             have HB := n2_
             clear n0_ n1_ n2_
             have n0_ := am (Kd.R_drew HO_3.out)
             have n1_ := am (blk_drew BK264.out)
             have n2_ := am (below_drew1 HB.out)
             clear HO_3
             clear BK264
             clear HB
             have HO_3 := n0_
             have BK264 := n1_
             have HB := n2_
             clear n0_ n1_ n2_
             have p268 : 0 ≤ ((ji14) : Int) := of_decide_eq_true as0
             have q268 : (ji14) < (y267.length : Int) := (by have h_ : ((ji14) : Int) < ((x3_1.length : Int) : Int) := of_decide_eq_true as0; first | (have e_ := (Kd.R_reads' HO_3.out).1; omega) | simpa only [Ny267.out, List.length_set] using h_)
             have ql268 : (((ji14) : Int) < ((x3_1.length : Int) : Int)) = True := eq_true (of_decide_eq_true as0)
             obtain ⟨ad268, e268, hx268_0, hx268_1, hx268_2⟩ := at_T25 (Kd.R_reads' HO_3.out).2.2 (ji14) p268 q268
             obtain rfl : (⟨go18, 0, none⟩ : Addr) = ad268 := (by injection e268)
             (first | simp only [add_plain] at hx268_0 | simp only [add_at] at hx268_0 | simp only [Addr.add, Nat.zero_add] at hx268_0 | skip)
             (first | simp only [add_plain] at hx268_1 | simp only [add_at] at hx268_1 | simp only [Addr.add, Nat.zero_add] at hx268_1 | skip)
             (first | simp only [add_plain] at hx268_2 | simp only [add_at] at hx268_2 | simp only [Addr.add, Nat.zero_add] at hx268_2 | skip)
             replace p268 := eq_true p268
             replace q268 := eq_true q268
             have p20 : 0 ≤ ((ji14) : Int) := of_decide_eq_true as0
             have q20 : ((ji14) : Int) < ((x3_1.length : Int) : Int) := of_decide_eq_true as0
             obtain ⟨ce20, hcl20, hM20, hcc20, hfr20⟩ := Kd.R_elem HO_3.out z25 ((ji14) : Int) p20 q20
             obtain rfl := k25_openM hM20
             have hx20_0 : World.cell? _ ⟨go18, ((ji14) : Int).toNat * 3, none⟩ = some (.int .i64 ((rd_T25 y267 (ji14)).f0)) := hcc20 0 _ rfl
             have hx20_1 : World.cell? _ ⟨go18, ((ji14) : Int).toNat * 3 + 1, none⟩ = some (.int .i64 ((rd_T25 y267 (ji14)).f1)) := hcc20 1 _ rfl
             have hx20_2 : World.cell? _ ⟨go18, ((ji14) : Int).toNat * 3 + 2, none⟩ = some (.string ((rd_T25 y267 (ji14)).f2)) := hcc20 2 _ rfl
             have hf20_0 : World.frozen? _ ⟨go18, ((ji14) : Int).toNat * 3, none⟩ = false := hfr20 0
             have hf20_1 : World.frozen? _ ⟨go18, ((ji14) : Int).toNat * 3 + 1, none⟩ = false := hfr20 1
             have hf20_2 : World.frozen? _ ⟨go18, ((ji14) : Int).toNat * 3 + 2, none⟩ = false := hfr20 2
             clear hcl20 hcc20 hfr20 hM20
             replace p20 := eq_true p20
             replace q20 := eq_true q20
             obtain ⟨ce27, hcl27, hM27, hcc27, hfr27⟩ := Kd.R_elem HO_3.out z25 ((ji14) : Int) (of_decide_eq_true as0) (by have h_ : ((ji14) : Int) < ((x3_1.length : Int) : Int) := of_decide_eq_true as0; first | exact h_ | (have e_ := (Kd.R_reads' HO_3.out).1; omega) | simpa using h_)
             obtain rfl := k25_openM hM27
             have HP27 := (Kd.R_seg HO_3.out ((ji14) : Int) (of_decide_eq_true as0) (by have h_ : ((ji14) : Int) < ((x3_1.length : Int) : Int) := of_decide_eq_true as0; first | exact h_ | (have e_ := (Kd.R_reads' HO_3.out).1; omega) | simpa using h_) (seg := [.string (((rd_T25 y267 (ji14)).f2) ++ ((rd_T25 l0 x4_1).f2))]) (j := 2) hcl27 hcc27 (show 3 ≤ 3 from by decide) (x' := (⟨(rd_T25 y267 (ji14)).f0, (rd_T25 y267 (ji14)).f1, ((rd_T25 y267 (ji14)).f2) ++ ((rd_T25 l0 x4_1).f2)⟩ : S25)) (k25_mkM _ _ _ (⟨(rd_T25 y267 (ji14)).f0, (rd_T25 y267 (ji14)).f1, ((rd_T25 y267 (ji14)).f2) ++ ((rd_T25 l0 x4_1).f2)⟩ : S25) ) (fun _ hk => hk)).1
             rw [← Ny269.out] at HP27
             have HQ27 := am HP27
             clear hcl27 hcc27 hfr27 hM27 HP27
             refine start_ (n := 15) (S := fun w' => w'.cell? ⟨gb264, 0, none⟩ = some (.int .i64 ((rd_T25 l0 x4_1).f0)) ∧ w'.cell? ⟨gb264, 1, none⟩ = some (.int .i64 ((rd_T25 l0 x4_1).f1)) ∧ w'.cell? ⟨gb264, 2, none⟩ = some (.string ((rd_T25 l0 x4_1).f2)) ∧ w'.cell? ⟨go18, ((ji14)).toNat * 3, none⟩ = some (.int .i64 ((rd_T25 y267 (ji14)).f0)) ∧ w'.cell? ⟨go18, ((ji14)).toNat * 3 + 1, none⟩ = some (.int .i64 ((rd_T25 y267 (ji14)).f1)) ∧ w'.cell? ⟨go18, ((ji14)).toNat * 3 + 2, none⟩ = some (.string ((rd_T25 y267 (ji14)).f2))) (ds := [14]) #[false, false, false, false, false, false, false, false, false, false, false, false, false, false, false] (by kernel_rfl) rfl rfl ⟨(blk_cell BK264.out 0).trans rfl, (blk_cell BK264.out 1).trans rfl, (blk_cell BK264.out 2).trans rfl, hx268_0, hx268_1, hx268_2⟩ (fun hHeld => ?_); refine with_tabW epitomeref05_Of.tab10 epitomeref05_Of.bits10 (fun HT_ HW_ => ?_)
             generalize w25.drew = w26 at HO_3 BK264 HB HQ24 HQ27 hf20_0 hf20_1 hf20_2 hx20_0 hx20_1 hx20_2 hx268_0 hx268_1 hx268_2 hHeld ⊢
             refine pure_ (i := 0) (N := some 55) #[true, false, false, false, false, false, false, false, false, false, false, false, false, false, false] rfl rfl (aT HT_.out) (fun _ _ _ h => h) (Or.inl ⟨rfl, rn⟩) ap ?_
             refine pure_ (i := 1) (N := some 56) #[true, true, false, false, false, false, false, false, false, false, false, false, false, false, false] rfl rfl (aT HT_.out) (fun _ _ _ h => h) (Or.inl ⟨rfl, rn⟩) ap ?_
             refine pure_ (i := 2) (N := some 57) #[true, true, true, false, false, false, false, false, false, false, false, false, false, false, false] rfl rfl (aT HT_.out) (fun _ _ _ h => h) (Or.inl ⟨rfl, rn⟩) ap ?_
             refine pure_ (i := 3) (N := some 58) #[true, true, true, true, false, false, false, false, false, false, false, false, false, false, false] rfl rfl (aT HT_.out) (fun _ _ _ h => h) (Or.inl ⟨rfl, rn⟩) ap ?_
             refine pure_ (i := 4) (N := some 59) #[true, true, true, true, true, false, false, false, false, false, false, false, false, false, false] rfl rfl (aT HT_.out) (fun _ _ _ h => h) (Or.inl ⟨rfl, rn⟩) ap ?_
             refine pure_ (i := 5) (N := some 60) #[true, true, true, true, true, true, false, false, false, false, false, false, false, false, false] rfl rfl (aT HT_.out) (fun _ _ _ h => h) (Or.inl ⟨rfl, rn⟩) ap ?_
             refine pure_ (i := 6) (N := some 61) #[true, true, true, true, true, true, true, false, false, false, false, false, false, false, false] rfl rfl (aT HT_.out) (fun _ _ _ h => h) (Or.inl ⟨rfl, rn⟩) ap ?_
             refine pure_ (i := 7) (N := some 62) #[true, true, true, true, true, true, true, true, false, false, false, false, false, false, false] rfl rfl (aT HT_.out) (fun _ _ _ h => h) (Or.inl ⟨rfl, rn⟩) ap ?_
             refine pure_ (i := 9) (N := some 64) #[true, true, true, true, true, true, true, true, false, true, false, false, false, false, false] rfl rfl (aT HT_.out) (fun _ _ _ h => h) (Or.inl ⟨rfl, rn⟩) ap ?_
             refine take_ (i := 8) (N := some 63) (v := ?_) (a' := ?_) #[true, true, true, true, true, true, true, true, true, true, false, false, false, false, false] rfl rfl (take_ofW HT_.out HW_.out (by kernel_rfl)) (fun _ _ _ h => h) (Or.inl ⟨by rfl, ?_⟩) hHeld ?_ ?_
             rotate_left
             ·rintro w' ⟨s0, s1, s2, s3, s4, s5⟩
              go_simp
              with_reducible rfl
             rotate_left
             ·exact ap
             refine take_ (i := 10) (N := some 65) (v := ?_) (a' := ?_) #[true, true, true, true, true, true, true, true, true, true, true, false, false, false, false] rfl rfl (take_ofW HT_.out HW_.out (by kernel_rfl)) (fun _ _ _ h => h) (Or.inl ⟨by rfl, ?_⟩) hHeld ?_ ?_
             rotate_left
             ·rintro w' ⟨s0, s1, s2, s3, s4, s5⟩
              go_simp
              with_reducible rfl
             rotate_left
             ·exact ap
             refine pure_ (i := 11) (N := some 66) #[true, true, true, true, true, true, true, true, true, true, true, true, false, false, false] rfl rfl (aT HT_.out) (fun _ _ _ h => h) (Or.inl ⟨rfl, rn⟩) ap ?_
             refine pure_ (i := 12) (N := some 67) #[true, true, true, true, true, true, true, true, true, true, true, true, true, false, false] rfl rfl (aT HT_.out) (fun _ _ _ h => h) (Or.inl ⟨rfl, rn⟩) ap ?_
             refine pure_ (i := 13) (N := some 68) #[true, true, true, true, true, true, true, true, true, true, true, true, true, true, false] rfl rfl (aT HT_.out) (fun _ _ _ h => h) (Or.inl ⟨rfl, rn⟩) ap ?_
             refine last_ (i := 14) (N := none) #[true, true, true, true, true, true, true, true, true, true, true, true, true, true, true] rfl rfl (one_of HT_.out (by kernel_rfl)) (by decide) (fun K hK => ?_)
             refine skip_ (w1 := ?_) (by rfl) rfl ?_ ?_
             rotate_left
             ·go_simp
              rfl
             refine hK.out _ _ ?_
             clear hK K
             refine done_ (done_of HT_.out (by kernel_rfl)) ?_
             try go_wp2
             go_roundg kj5
             case measure => have := HK1.out; have := HJ5.out; omega
             case rel => exact ⟨(y269), (wrap64 (x4_1 + 1)), pj, H', ⟨by have := HK1.out; have := HJ5.out; omega⟩, ⟨by refine kR ?_; exact Kd.R_mono HQ27.out (fun _ hk => trivial)⟩, ⟨bl⟩⟩
            ·rw [if_neg c19] at H
             exact absurd H (by simp)
           ·rw [if_neg c17] at H
            have c17b0 : (((rd_T25 x3_1 (ji14)).f0) == ((rd_T25 l0 x4_1).f0)) = false := beq_eq_false_iff_ne.mpr c17
            have c17b1 : (((rd_T25 x3_1 (ji14)).f0) != ((rd_T25 l0 x4_1).f0)) = true := bne_iff_ne.mpr c17
            by_cases c28 : x3_1.length < 4398046511104
            ·rw [if_pos c28] at H
             have LMc28 := am c28
             clear c28
             obtain ⟨y270, hy270⟩ : ∃ y_ : List (S25), y_ = (x3_1 ++ [(⟨((rd_T25 l0 x4_1).f0), ((rd_T25 l0 x4_1).f1), ((rd_T25 l0 x4_1).f2)⟩ : S25)]) := ⟨_, rfl⟩
             replace H : (epitomeref05_Of.l0 kj5 l0 y270 (wrap64 (x4_1 + 1))) = some r := by first | (rw [hy270]; with_reducible exact H) | (have H2_ := (Option.bind_some _ _).symm.trans H; rw [hy270]; with_reducible exact H2_) | (have H2_ := (Option.bind_some _ _).symm.trans H; with_reducible exact H2_) | with_reducible exact H | (rw [hy270]; exact H) | exact H
             have Ny270 := am hy270
             clear hy270
             have H' := am H
             clear H
             obtain ⟨Ao29, co29, eo29⟩ := Kd.R_slice HO_3.out
             subst eo29
             try go_wp2
             have n0_ := am (Kd.R_drew HO_3.out)
             have n1_ := am (blk_drew BK264.out)
             have n2_ := am (below_drew1 HB.out)
             clear HO_3
             clear BK264
             clear HB
             have HO_3 := n0_
             have BK264 := n1_
             have HB := n2_
             clear n0_ n1_ n2_
             have p265 : 0 ≤ ((ji14) : Int) := of_decide_eq_true as0
             have q265 : (ji14) < (x3_1.length : Int) := of_decide_eq_true as0
             obtain ⟨ad265, e265, hx265_0, hx265_1, hx265_2⟩ := at_T25 (Kd.R_reads' HO_3.out).2.2 (ji14) p265 q265
             cases e265
             replace p265 := eq_true p265
             replace q265 := eq_true q265
             refine start_ (n := 13) (S := fun w' => w'.cell? ⟨gb264, 0, none⟩ = some (.int .i64 ((rd_T25 l0 x4_1).f0)) ∧ w'.cell? ⟨gb264, 1, none⟩ = some (.int .i64 ((rd_T25 l0 x4_1).f1)) ∧ w'.cell? ⟨gb264, 2, none⟩ = some (.string ((rd_T25 l0 x4_1).f2)) ∧ w'.cell? (ad265.add (((ji14)).toNat * 3)) = some (.int .i64 ((rd_T25 x3_1 (ji14)).f0)) ∧ w'.cell? ⟨(ad265.add (((ji14)).toNat * 3)).block, (ad265.add (((ji14)).toNat * 3)).off + 1, none⟩ = some (.int .i64 ((rd_T25 x3_1 (ji14)).f1)) ∧ w'.cell? ⟨(ad265.add (((ji14)).toNat * 3)).block, (ad265.add (((ji14)).toNat * 3)).off + 2, none⟩ = some (.string ((rd_T25 x3_1 (ji14)).f2))) (ds := []) #[false, false, false, false, false, false, false, false, false, false, false, false, false] (by kernel_rfl) rfl rfl ⟨(blk_cell BK264.out 0).trans rfl, (blk_cell BK264.out 1).trans rfl, (blk_cell BK264.out 2).trans rfl, hx265_0, hx265_1, hx265_2⟩ (fun hHeld => ?_); refine with_tabW epitomeref05_Of.tab8 epitomeref05_Of.bits8 (fun HT_ HW_ => ?_)
             generalize wc.drew = w30 at HO_3 BK264 HB hx265_0 hx265_1 hx265_2 hHeld ⊢
             refine pure_ (i := 0) (N := some 28) #[true, false, false, false, false, false, false, false, false, false, false, false, false] rfl rfl (aT HT_.out) (fun _ _ _ h => h) (Or.inl ⟨rfl, rn⟩) ap ?_
             refine pure_ (i := 1) (N := some 29) #[true, true, false, false, false, false, false, false, false, false, false, false, false] rfl rfl (aT HT_.out) (fun _ _ _ h => h) (Or.inl ⟨rfl, rn⟩) ap ?_
             refine pure_ (i := 2) (N := some 30) #[true, true, true, false, false, false, false, false, false, false, false, false, false] rfl rfl (aT HT_.out) (fun _ _ _ h => h) (Or.inl ⟨rfl, rn⟩) ap ?_
             refine pure_ (i := 3) (N := some 31) #[true, true, true, true, false, false, false, false, false, false, false, false, false] rfl rfl (aT HT_.out) (fun _ _ _ h => h) (Or.inl ⟨rfl, rn⟩) ap ?_
             refine pure_ (i := 4) (N := some 32) #[true, true, true, true, true, false, false, false, false, false, false, false, false] rfl rfl (aT HT_.out) (fun _ _ _ h => h) (Or.inl ⟨rfl, rn⟩) ap ?_
             refine pure_ (i := 5) (N := some 33) #[true, true, true, true, true, true, false, false, false, false, false, false, false] rfl rfl (aT HT_.out) (fun _ _ _ h => h) (Or.inl ⟨rfl, rn⟩) ap ?_
             refine pure_ (i := 6) (N := some 34) #[true, true, true, true, true, true, true, false, false, false, false, false, false] rfl rfl (aT HT_.out) (fun _ _ _ h => h) (Or.inl ⟨rfl, rn⟩) ap ?_
             refine pure_ (i := 7) (N := some 35) #[true, true, true, true, true, true, true, true, false, false, false, false, false] rfl rfl (aT HT_.out) (fun _ _ _ h => h) (Or.inl ⟨rfl, rn⟩) ap ?_
             refine pure_ (i := 9) (N := some 37) #[true, true, true, true, true, true, true, true, false, true, false, false, false] rfl rfl (aT HT_.out) (fun _ _ _ h => h) (Or.inl ⟨rfl, rn⟩) ap ?_
             refine take_ (i := 8) (N := some 36) (v := ?_) (a' := ?_) #[true, true, true, true, true, true, true, true, true, true, false, false, false] rfl rfl (take_ofW HT_.out HW_.out (by kernel_rfl)) (fun _ _ _ h => h) (Or.inl ⟨by rfl, ?_⟩) hHeld ?_ ?_
             rotate_left
             ·rintro w' ⟨s0, s1, s2, s3, s4, s5⟩
              go_simp
              with_reducible rfl
             rotate_left
             ·exact ap
             refine take_ (i := 10) (N := some 38) (v := ?_) (a' := ?_) #[true, true, true, true, true, true, true, true, true, true, true, false, false] rfl rfl (take_ofW HT_.out HW_.out (by kernel_rfl)) (fun _ _ _ h => h) (Or.inl ⟨by rfl, ?_⟩) hHeld ?_ ?_
             rotate_left
             ·rintro w' ⟨s0, s1, s2, s3, s4, s5⟩
              go_simp
              with_reducible rfl
             rotate_left
             ·exact ap
             refine pure_ (i := 11) (N := some 39) #[true, true, true, true, true, true, true, true, true, true, true, true, false] rfl rfl (aT HT_.out) (fun _ _ _ h => h) (Or.inl ⟨rfl, rn⟩) ap ?_
             refine pure_ (i := 12) (N := some 40) #[true, true, true, true, true, true, true, true, true, true, true, true, true] rfl rfl (aT HT_.out) (fun _ _ _ h => h) (Or.inl ⟨rfl, rn⟩) ap ?_
             refine done_ (done_of HT_.out (by kernel_rfl)) ?_
             have hcz31_0 : w30.cell? ⟨gb264, 0, none⟩ = some (.int .i64 ((rd_T25 l0 x4_1).f0)) := (blk_cell BK264.out 0).trans rfl
             have hcz31_1 : w30.cell? ⟨gb264, 1, none⟩ = some (.int .i64 ((rd_T25 l0 x4_1).f1)) := (blk_cell BK264.out 1).trans rfl
             have hcz31_2 : w30.cell? ⟨gb264, 2, none⟩ = some (.string ((rd_T25 l0 x4_1).f2)) := (blk_cell BK264.out 2).trans rfl
             have hfz31_0 := blk_frozen BK264.out 0
             have hfz31_1 := blk_frozen BK264.out 1
             have hfz31_2 := blk_frozen BK264.out 2
             try go_wp2_with (first | ((with_reducible refine gate_builtin (b := .append) (xs := #[.tmp 69, .tmp 71]) rfl ?_); at_builtin; refine Kd.R_append k25 (w0 := w) w.heap.size rfl (.tmp 69) (.tmp 71) 27 25 (.agg #[(.int .i64 0), (.int .i64 0), (.string ⟨#[]⟩)]) 32 rfl Tryd.underlying27 info25 rfl (by decide) (by omega) (.slice (some ad265) x3_1.length co29) x3_1 (⟨((rd_T25 l0 x4_1).f0), ((rd_T25 l0 x4_1).f1), ((rd_T25 l0 x4_1).f2)⟩ : S25) [.int .i64 ((rd_T25 l0 x4_1).f0), .int .i64 ((rd_T25 l0 x4_1).f1), .string ((rd_T25 l0 x4_1).f2)] (fun k_ => k_ ≠ gb264) (fun _ => False) rfl rfl ?aP (fun _ hk => hk.elim) ?aF ?aO ?aB ?aS ?aL ?_; (case aP => exact k25_mkM _ _ _ (⟨((rd_T25 l0 x4_1).f0), ((rd_T25 l0 x4_1).f1), ((rd_T25 l0 x4_1).f2)⟩ : S25)); (case aB => exact bl); (case aF => exact (fun k_ hk => Kd.freshB (g := gb264) (o := .cells #[.int .i64 ((rd_T25 l0 x4_1).f0), .int .i64 ((rd_T25 l0 x4_1).f1), .string ((rd_T25 l0 x4_1).f2)] 25 (0, 0)) (by refine bk ?_; exact BK264.out) k_ hk)); (case aO => exact (by refine kR ?_; exact HO_3.out)); (case aS => exact (below_size bl)); (case aL => have := LMc28.out; omega); intro v271 w32 ho hb hg hat; rw [← Ny270.out] at ho; have n0_ := am (blk_grown (g := gb264) (o := .cells #[.int .i64 ((rd_T25 l0 x4_1).f0), .int .i64 ((rd_T25 l0 x4_1).f1), .string ((rd_T25 l0 x4_1).f2)] 25 (0, 0)) (by refine bk ?_; exact BK264.out) hg (Kd.R_away HO_3.out (fun _ hk => hk))); have n1_ := am (hb); have n2_ := am (ho); clear BK264; clear HB; clear HO_3; have BK264 := n0_; have HB := n1_; have HO272 := n2_; clear n0_ n1_ n2_; clear ho hb hg hat))
             go_roundg kj5
             case measure => have := HK1.out; have := HJ5.out; omega
             case rel => exact ⟨(y270), (wrap64 (x4_1 + 1)), pj, H', ⟨by have := HK1.out; have := HJ5.out; omega⟩, ⟨by refine kR ?_; exact Kd.R_mono HO272.out (fun _ hk => trivial)⟩, ⟨bl⟩⟩
            ·rw [if_neg c28] at H
             exact absurd H (by simp)
          ·rw [if_neg c16] at H
           exact absurd H (by simp)
         ·rw [if_neg c15] at H
          exact absurd H (by simp)
        ·rw [if_neg c13] at H
         have c13b0 : decide (0 < (x3_1.length : Int)) = false := decide_eq_false c13
         have c13b1 : decide (0 < x3_1.length) = false := decide_eq_false (by omega)
         clear c13
         by_cases c33 : x3_1.length < 4398046511104
         ·rw [if_pos c33] at H
          have LMc33 := am c33
          clear c33
          obtain ⟨y273, hy273⟩ : ∃ y_ : List (S25), y_ = (x3_1 ++ [(⟨((rd_T25 l0 x4_1).f0), ((rd_T25 l0 x4_1).f1), ((rd_T25 l0 x4_1).f2)⟩ : S25)]) := ⟨_, rfl⟩
          replace H : (epitomeref05_Of.l0 kj5 l0 y273 (wrap64 (x4_1 + 1))) = some r := by first | (rw [hy273]; with_reducible exact H) | (have H2_ := (Option.bind_some _ _).symm.trans H; rw [hy273]; with_reducible exact H2_) | (have H2_ := (Option.bind_some _ _).symm.trans H; with_reducible exact H2_) | with_reducible exact H | (rw [hy273]; exact H) | exact H
          have Ny273 := am hy273
          clear hy273
          have H' := am H
          clear H
          obtain ⟨Ao34, co34, eo34⟩ := Kd.R_slice HO_3.out
          subst eo34
          try go_wp2
          have n0_ := am (Kd.R_drew HO_3.out)
          have n1_ := am (blk_drew BK264.out)
          have n2_ := am (below_drew1 HB.out)
          clear HO_3
          clear BK264
          clear HB
          have HO_3 := n0_
          have BK264 := n1_
          have HB := n2_
          clear n0_ n1_ n2_
          refine start_ (n := 13) (S := fun w' => True) (ds := []) #[false, false, false, false, false, false, false, false, false, false, false, false, false] (by kernel_rfl) rfl rfl trivial (fun hHeld => ?_); refine with_tabW epitomeref05_Of.tab8 epitomeref05_Of.bits8 (fun HT_ HW_ => ?_)
          generalize wc.drew = w35 at HO_3 BK264 HB hHeld ⊢
          refine pure_ (i := 0) (N := some 28) #[true, false, false, false, false, false, false, false, false, false, false, false, false] rfl rfl (aT HT_.out) (fun _ _ _ h => h) (Or.inl ⟨rfl, rn⟩) ap ?_
          refine pure_ (i := 1) (N := some 29) #[true, true, false, false, false, false, false, false, false, false, false, false, false] rfl rfl (aT HT_.out) (fun _ _ _ h => h) (Or.inl ⟨rfl, rn⟩) ap ?_
          refine pure_ (i := 2) (N := some 30) #[true, true, true, false, false, false, false, false, false, false, false, false, false] rfl rfl (aT HT_.out) (fun _ _ _ h => h) (Or.inl ⟨rfl, rn⟩) ap ?_
          refine pure_ (i := 3) (N := some 31) (v := undef) (a' := ?_) #[true, true, true, true, false, false, false, false, false, false, false, false, false] rfl rfl (aT HT_.out) (fun _ _ _ h => h) (Or.inr ⟨by rfl, rfl⟩) ?_ ?_
          rotate_left
          ·exact ap
          refine pure_ (i := 4) (N := some 32) (v := undef) (a' := ?_) #[true, true, true, true, true, false, false, false, false, false, false, false, false] rfl rfl (aT HT_.out) (fun _ _ _ h => h) (Or.inr ⟨by rfl, rfl⟩) ?_ ?_
          rotate_left
          ·exact ap
          refine pure_ (i := 5) (N := some 33) (v := undef) (a' := ?_) #[true, true, true, true, true, true, false, false, false, false, false, false, false] rfl rfl (aT HT_.out) (fun _ _ _ h => h) (Or.inr ⟨by rfl, rfl⟩) ?_ ?_
          rotate_left
          ·exact ap
          refine pure_ (i := 6) (N := some 34) (v := undef) (a' := ?_) #[true, true, true, true, true, true, true, false, false, false, false, false, false] rfl rfl (aT HT_.out) (fun _ _ _ h => h) (Or.inr ⟨by rfl, rfl⟩) ?_ ?_
          rotate_left
          ·exact ap
          refine pure_ (i := 7) (N := some 35) (v := undef) (a' := ?_) #[true, true, true, true, true, true, true, true, false, false, false, false, false] rfl rfl (aT HT_.out) (fun _ _ _ h => h) (Or.inr ⟨by rfl, rfl⟩) ?_ ?_
          rotate_left
          ·exact ap
          refine pure_ (i := 8) (N := some 36) (v := undef) (a' := ?_) #[true, true, true, true, true, true, true, true, true, false, false, false, false] rfl rfl (aT HT_.out) (fun _ _ _ h => h) (Or.inr ⟨by rfl, rfl⟩) ?_ ?_
          rotate_left
          ·exact ap
          refine pure_ (i := 9) (N := some 37) (v := undef) (a' := ?_) #[true, true, true, true, true, true, true, true, true, true, false, false, false] rfl rfl (aT HT_.out) (fun _ _ _ h => h) (Or.inr ⟨by rfl, rfl⟩) ?_ ?_
          rotate_left
          ·exact ap
          refine pure_ (i := 10) (N := some 38) (v := undef) (a' := ?_) #[true, true, true, true, true, true, true, true, true, true, true, false, false] rfl rfl (aT HT_.out) (fun _ _ _ h => h) (Or.inr ⟨by rfl, rfl⟩) ?_ ?_
          rotate_left
          ·exact ap
          refine pure_ (i := 11) (N := some 39) (v := undef) (a' := ?_) #[true, true, true, true, true, true, true, true, true, true, true, true, false] rfl rfl (aT HT_.out) (fun _ _ _ h => h) (Or.inr ⟨by rfl, rfl⟩) ?_ ?_
          rotate_left
          ·exact ap
          refine pure_ (i := 12) (N := some 40) #[true, true, true, true, true, true, true, true, true, true, true, true, true] rfl rfl (aT HT_.out) (fun _ _ _ h => h) (Or.inl ⟨rfl, rn⟩) ap ?_
          refine done_ (done_of HT_.out (by kernel_rfl)) ?_
          have hcz36_0 : w35.cell? ⟨gb264, 0, none⟩ = some (.int .i64 ((rd_T25 l0 x4_1).f0)) := (blk_cell BK264.out 0).trans rfl
          have hcz36_1 : w35.cell? ⟨gb264, 1, none⟩ = some (.int .i64 ((rd_T25 l0 x4_1).f1)) := (blk_cell BK264.out 1).trans rfl
          have hcz36_2 : w35.cell? ⟨gb264, 2, none⟩ = some (.string ((rd_T25 l0 x4_1).f2)) := (blk_cell BK264.out 2).trans rfl
          have hfz36_0 := blk_frozen BK264.out 0
          have hfz36_1 := blk_frozen BK264.out 1
          have hfz36_2 := blk_frozen BK264.out 2
          try go_wp2_with (first | ((with_reducible refine gate_builtin (b := .append) (xs := #[.tmp 69, .tmp 71]) rfl ?_); at_builtin; refine Kd.R_append k25 (w0 := w) w.heap.size rfl (.tmp 69) (.tmp 71) 27 25 (.agg #[(.int .i64 0), (.int .i64 0), (.string ⟨#[]⟩)]) 32 rfl Tryd.underlying27 info25 rfl (by decide) (by omega) (.slice Ao34 x3_1.length co34) x3_1 (⟨((rd_T25 l0 x4_1).f0), ((rd_T25 l0 x4_1).f1), ((rd_T25 l0 x4_1).f2)⟩ : S25) [.int .i64 ((rd_T25 l0 x4_1).f0), .int .i64 ((rd_T25 l0 x4_1).f1), .string ((rd_T25 l0 x4_1).f2)] (fun k_ => k_ ≠ gb264) (fun _ => False) rfl rfl ?aP (fun _ hk => hk.elim) ?aF ?aO ?aB ?aS ?aL ?_; (case aP => exact k25_mkM _ _ _ (⟨((rd_T25 l0 x4_1).f0), ((rd_T25 l0 x4_1).f1), ((rd_T25 l0 x4_1).f2)⟩ : S25)); (case aB => exact bl); (case aF => exact (fun k_ hk => Kd.freshB (g := gb264) (o := .cells #[.int .i64 ((rd_T25 l0 x4_1).f0), .int .i64 ((rd_T25 l0 x4_1).f1), .string ((rd_T25 l0 x4_1).f2)] 25 (0, 0)) (by refine bk ?_; exact BK264.out) k_ hk)); (case aO => exact (by refine kR ?_; exact HO_3.out)); (case aS => exact (below_size bl)); (case aL => have := LMc33.out; omega); intro v274 w37 ho hb hg hat; rw [← Ny273.out] at ho; have n0_ := am (blk_grown (g := gb264) (o := .cells #[.int .i64 ((rd_T25 l0 x4_1).f0), .int .i64 ((rd_T25 l0 x4_1).f1), .string ((rd_T25 l0 x4_1).f2)] 25 (0, 0)) (by refine bk ?_; exact BK264.out) hg (Kd.R_away HO_3.out (fun _ hk => hk))); have n1_ := am (hb); have n2_ := am (ho); clear BK264; clear HB; clear HO_3; have BK264 := n0_; have HB := n1_; have HO275 := n2_; clear n0_ n1_ n2_; clear ho hb hg hat))
          go_roundg kj5
          case measure => have := HK1.out; have := HJ5.out; omega
          case rel => exact ⟨(y273), (wrap64 (x4_1 + 1)), pj, H', ⟨by have := HK1.out; have := HJ5.out; omega⟩, ⟨by refine kR ?_; exact Kd.R_mono HO275.out (fun _ hk => trivial)⟩, ⟨bl⟩⟩
         ·rw [if_neg c33] at H
          exact absurd H (by simp)
    ·rw [if_neg c5] at H
     exact absurd H (by simp)
   ·rw [if_neg c4] at H
    have c4b0 : decide (x4_1 < (l0.length : Int)) = false := decide_eq_false c4
    clear c4
    obtain rfl := Option.some.inj H
    simp only [Option.some.injEq, Prod.mk.injEq] at H
    obtain ⟨rfl⟩ := H
    go_wp2
    go_ret
    exact ⟨_, by first | rfl | (simp [errW_none, errW_some] <;> rfl) | (simp [*, errW_none, errW_some] <;> rfl), by refine kR ?_; exact HO_3.out, bl⟩
end Go.Proofs.YtegjegihcebimaaDoor.P
end
