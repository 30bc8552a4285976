/- Part 7 of the proof of topLogs_holds: out of the texts that this session's programs wrote, what the theorem reaches. -/
import Derived.Test.YtegjegihcebimaaDoorZ2
import Derived.Test.YtegjegihcebimaaDoorZ3
import Derived.Test.YtegjegihcebimaaDoorZ4
import Derived.Test.YtegjegihcebimaaDoorZ5
import Derived.Test.YtegjegihcebimaaDoorZ6
section
namespace Go.Proofs.YtegjegihcebimaaDoor.P
open Go.RowKit Go.Proofs.YtegjegihcebimaaDoorW.PrintWords Go.Proofs.YtegjegihcebimaaDoorW.PrintLast Go.Proofs.YtegjegihcebimaaDoorW.PrintMore
attribute [local go_sem] max2_int min2_int max_two min_two max_three min_three max_four min_four
set_option linter.unusedVariables false
set_option linter.unusedSimpArgs false
def epitometop_shown.f (k : Nat)  : Option (Bool) := (epitometop_row.f k (⟨#[107, 50, 120, 49, 107, 49]⟩ : ByteArray)).bind fun t140 => ((epitometop_row.f k (⟨#[107, 49, 100, 49, 107, 50]⟩ : ByteArray)).bind fun t143 => ((fuse_Of.f k 3 (([t140, t143] : List (List (S25))))).bind fun bt149 => ((epitometop_row.f k (⟨#[107, 49, 100, 49, 107, 49]⟩ : ByteArray)).bind fun t153 => ((epitometop_row.f k (⟨#[107, 49, 120, 49, 107, 49]⟩ : ByteArray)).bind fun t156 => ((fuse_Of.f k 3 (([t153, t156] : List (List (S25))))).bind fun bt162 => ((epitometop_row.f k (⟨#[107, 49, 121, 49, 107, 50]⟩ : ByteArray)).bind fun t166 => ((over_Of.f k t166 bt149.1).bind fun bt169 => ((epitometop_row.f k (⟨#[107, 49, 121, 49, 107, 50]⟩ : ByteArray)).bind fun t173 => ((over_Of.f k t173 bt162.1).bind fun bt176 => (if bt149.2 = 0 then (if bt162.2 = 0 then (if bt169.2 = 0 then (if bt176.2 = 0 then ((epitometop_row.f k (⟨#[107, 49, 121, 49, 107, 50]⟩ : ByteArray)).bind fun t180 => ((epitomeref04_Same.f k bt169.1 t180).bind fun t183 => (if t183 = true then ((epitometop_row.f k (⟨#[107, 50, 121, 49, 107, 49]⟩ : ByteArray)).bind fun t184 => ((epitomeref04_Same.f k bt176.1 t184).bind fun t187 => (some t187))) else (some false)))) else (some false)) else (some false)) else (some false)) else (some false)))))))))))
theorem epitometop_shown.mono : ∀ k, LeO (epitometop_shown.f k ) (epitometop_shown.f (k + 1) ) := by
 intro  k
 unfold epitometop_shown.f
 repeat' first
   | (with_reducible exact epitomeref04_Same.mono _ _ _)
   | (with_reducible exact epitometop_row.mono _ _)
   | (with_reducible exact fuse_Of.mono _ _ _)
   | (with_reducible exact over_Of.mono _ _ _)
   | (with_reducible exact LeO.refl _)
   | (with_reducible exact LeO.none _)
   | (with_reducible refine LeO.ite ?_ ?_)
   | (with_reducible refine LeO.bind ?_ (fun _ => ?_))
   | exact epitomeref04_Same.mono _ _ _
   | exact epitometop_row.mono _ _
   | exact fuse_Of.mono _ _ _
   | exact over_Of.mono _ _ _
   | exact LeO.none _
   | refine LeO.ite ?_ ?_
   | refine LeO.bind ?_ (fun _ => ?_)
set_option maxHeartbeats 8000000 in
set_option maxRecDepth 100000 in
theorem epitometop_shown.calls (k : Nat)  (r : Bool) (w : World) (hT : Tabs w) (h : epitometop_shown.f k  = some r) (hlaw : r = true) :
  Calls Tryd.prog 8 #[] w fun e w' => e = .returned (.bool r) ∧ Below w.heap.size w w' := by
 have HLAW := am hlaw
 clear hlaw
 have HT := am hT
 clear hT
 have HB := am (Below.refl w.heap.size w)
 have H : ((epitometop_row.f k (⟨#[107, 50, 120, 49, 107, 49]⟩ : ByteArray)).bind fun t140 => ((epitometop_row.f k (⟨#[107, 49, 100, 49, 107, 50]⟩ : ByteArray)).bind fun t143 => ((fuse_Of.f k 3 (([t140, t143] : List (List (S25))))).bind fun bt149 => ((epitometop_row.f k (⟨#[107, 49, 100, 49, 107, 49]⟩ : ByteArray)).bind fun t153 => ((epitometop_row.f k (⟨#[107, 49, 120, 49, 107, 49]⟩ : ByteArray)).bind fun t156 => ((fuse_Of.f k 3 (([t153, t156] : List (List (S25))))).bind fun bt162 => ((epitometop_row.f k (⟨#[107, 49, 121, 49, 107, 50]⟩ : ByteArray)).bind fun t166 => ((over_Of.f k t166 bt149.1).bind fun bt169 => ((epitometop_row.f k (⟨#[107, 49, 121, 49, 107, 50]⟩ : ByteArray)).bind fun t173 => ((over_Of.f k t173 bt162.1).bind fun bt176 => (if bt149.2 = 0 then (if bt162.2 = 0 then (if bt169.2 = 0 then (if bt176.2 = 0 then ((epitometop_row.f k (⟨#[107, 49, 121, 49, 107, 50]⟩ : ByteArray)).bind fun t180 => ((epitomeref04_Same.f k bt169.1 t180).bind fun t183 => (if t183 = true then ((epitometop_row.f k (⟨#[107, 50, 121, 49, 107, 49]⟩ : ByteArray)).bind fun t184 => ((epitomeref04_Same.f k bt176.1 t184).bind fun t187 => (some t187))) else (some false)))) else (some false)) else (some false)) else (some false)) else (some false)))))))))))) = some r := h
 clear h
 replace H := Option.bind_eq_some_iff.mp H
 obtain ⟨t140, A10, H⟩ := H
 try dsimp only at H
 have A1 := am A10
 clear A10
 replace H := Option.bind_eq_some_iff.mp H
 obtain ⟨t143, A20, H⟩ := H
 try dsimp only at H
 have A2 := am A20
 clear A20
 obtain ⟨y146, hy146⟩ : ∃ y_ : List (List (S25)), y_ = (([t140, t143] : List (List (S25)))) := ⟨_, rfl⟩
 replace H : ((fuse_Of.f k 3 y146).bind fun bt149 => ((epitometop_row.f k (⟨#[107, 49, 100, 49, 107, 49]⟩ : ByteArray)).bind fun t153 => ((epitometop_row.f k (⟨#[107, 49, 120, 49, 107, 49]⟩ : ByteArray)).bind fun t156 => ((fuse_Of.f k 3 (([t153, t156] : List (List (S25))))).bind fun bt162 => ((epitometop_row.f k (⟨#[107, 49, 121, 49, 107, 50]⟩ : ByteArray)).bind fun t166 => ((over_Of.f k t166 bt149.1).bind fun bt169 => ((epitometop_row.f k (⟨#[107, 49, 121, 49, 107, 50]⟩ : ByteArray)).bind fun t173 => ((over_Of.f k t173 bt162.1).bind fun bt176 => (if bt149.2 = 0 then (if bt162.2 = 0 then (if bt169.2 = 0 then (if bt176.2 = 0 then ((epitometop_row.f k (⟨#[107, 49, 121, 49, 107, 50]⟩ : ByteArray)).bind fun t180 => ((epitomeref04_Same.f k bt169.1 t180).bind fun t183 => (if t183 = true then ((epitometop_row.f k (⟨#[107, 50, 121, 49, 107, 49]⟩ : ByteArray)).bind fun t184 => ((epitomeref04_Same.f k bt176.1 t184).bind fun t187 => (some t187))) else (some false)))) else (some false)) else (some false)) else (some false)) else (some false)))))))))) = some r := by first | (rw [hy146]; with_reducible exact H) | (have H2_ := (Option.bind_some _ _).symm.trans H; rw [hy146]; with_reducible exact H2_) | (have H2_ := (Option.bind_some _ _).symm.trans H; with_reducible exact H2_) | with_reducible exact H | (rw [hy146]; exact H) | exact H
 have Ny146 := am hy146
 clear hy146
 replace H := Option.bind_eq_some_iff.mp H
 obtain ⟨⟨t149, t150⟩, A30, H⟩ := H
 try dsimp only at H
 have A3 := am A30
 clear A30
 replace H := Option.bind_eq_some_iff.mp H
 obtain ⟨t153, A40, H⟩ := H
 try dsimp only at H
 have A4 := am A40
 clear A40
 replace H := Option.bind_eq_some_iff.mp H
 obtain ⟨t156, A50, H⟩ := H
 try dsimp only at H
 have A5 := am A50
 clear A50
 obtain ⟨y159, hy159⟩ : ∃ y_ : List (List (S25)), y_ = (([t153, t156] : List (List (S25)))) := ⟨_, rfl⟩
 replace H : ((fuse_Of.f k 3 y159).bind fun bt162 => ((epitometop_row.f k (⟨#[107, 49, 121, 49, 107, 50]⟩ : ByteArray)).bind fun t166 => ((over_Of.f k t166 t149).bind fun bt169 => ((epitometop_row.f k (⟨#[107, 49, 121, 49, 107, 50]⟩ : ByteArray)).bind fun t173 => ((over_Of.f k t173 bt162.1).bind fun bt176 => (if t150 = 0 then (if bt162.2 = 0 then (if bt169.2 = 0 then (if bt176.2 = 0 then ((epitometop_row.f k (⟨#[107, 49, 121, 49, 107, 50]⟩ : ByteArray)).bind fun t180 => ((epitomeref04_Same.f k bt169.1 t180).bind fun t183 => (if t183 = true then ((epitometop_row.f k (⟨#[107, 50, 121, 49, 107, 49]⟩ : ByteArray)).bind fun t184 => ((epitomeref04_Same.f k bt176.1 t184).bind fun t187 => (some t187))) else (some false)))) else (some false)) else (some false)) else (some false)) else (some false))))))) = some r := by first | (rw [hy159]; with_reducible exact H) | (have H2_ := (Option.bind_some _ _).symm.trans H; rw [hy159]; with_reducible exact H2_) | (have H2_ := (Option.bind_some _ _).symm.trans H; with_reducible exact H2_) | with_reducible exact H | (rw [hy159]; exact H) | exact H
 have Ny159 := am hy159
 clear hy159
 replace H := Option.bind_eq_some_iff.mp H
 obtain ⟨⟨t162, t163⟩, A60, H⟩ := H
 try dsimp only at H
 have A6 := am A60
 clear A60
 replace H := Option.bind_eq_some_iff.mp H
 obtain ⟨t166, A70, H⟩ := H
 try dsimp only at H
 have A7 := am A70
 clear A70
 replace H := Option.bind_eq_some_iff.mp H
 obtain ⟨⟨t169, t170⟩, A80, H⟩ := H
 try dsimp only at H
 have A8 := am A80
 clear A80
 replace H := Option.bind_eq_some_iff.mp H
 obtain ⟨t173, A90, H⟩ := H
 try dsimp only at H
 have A9 := am A90
 clear A90
 replace H := Option.bind_eq_some_iff.mp H
 obtain ⟨⟨t176, t177⟩, A100, H⟩ := H
 try dsimp only at H
 have A10 := am A100
 clear A100
 by_cases c11 : t150 = 0
 ·rw [if_pos c11] at H
  have c11b0 : (t150 == 0) = true := beq_iff_eq.mpr c11
  have c11b1 : (t150 != 0) = false := bne_eq_false_iff_eq.mpr c11
  clear c11
  by_cases c12 : t163 = 0
  ·rw [if_pos c12] at H
   have c12b0 : (t163 == 0) = true := beq_iff_eq.mpr c12
   have c12b1 : (t163 != 0) = false := bne_eq_false_iff_eq.mpr c12
   clear c12
   by_cases c13 : t170 = 0
   ·rw [if_pos c13] at H
    have c13b0 : (t170 == 0) = true := beq_iff_eq.mpr c13
    have c13b1 : (t170 != 0) = false := bne_eq_false_iff_eq.mpr c13
    clear c13
    by_cases c14 : t177 = 0
    ·rw [if_pos c14] at H
     have c14b0 : (t177 == 0) = true := beq_iff_eq.mpr c14
     have c14b1 : (t177 != 0) = false := bne_eq_false_iff_eq.mpr c14
     clear c14
     replace H := Option.bind_eq_some_iff.mp H
     obtain ⟨t180, A150, H⟩ := H
     replace H : ((epitomeref04_Same.f k t169 t180).bind fun t183 => (if t183 = true then ((epitometop_row.f k (⟨#[107, 50, 121, 49, 107, 49]⟩ : ByteArray)).bind fun t184 => ((epitomeref04_Same.f k t176 t184).bind fun t187 => (some t187))) else (some false))) = some r := H
     have A15 := am A150
     clear A150
     replace H := Option.bind_eq_some_iff.mp H
     obtain ⟨t183, A160, H⟩ := H
     replace H : (if t183 = true then ((epitometop_row.f k (⟨#[107, 50, 121, 49, 107, 49]⟩ : ByteArray)).bind fun t184 => ((epitomeref04_Same.f k t176 t184).bind fun t187 => (some t187))) else (some false)) = some r := H
     have A16 := am A160
     clear A160
     by_cases c17 : t183 = true
     ·subst c17
      have H1 : ((epitometop_row.f k (⟨#[107, 50, 121, 49, 107, 49]⟩ : ByteArray)).bind fun t184 => ((epitomeref04_Same.f k t176 t184).bind fun t187 => (some t187))) = some r := by rw [if_pos rfl] at H; exact H
      clear H
      have H := H1
      clear H1
      replace H := Option.bind_eq_some_iff.mp H
      obtain ⟨t184, A180, H⟩ := H
      replace H : ((epitomeref04_Same.f k t176 t184).bind fun t187 => (some t187)) = some r := H
      have A18 := am A180
      clear A180
      replace H := Option.bind_eq_some_iff.mp H
      obtain ⟨t187, A190, H⟩ := H
      replace H : (some t187) = some r := H
      have A19 := am A190
      clear A190
      obtain rfl := Option.some.inj H
      simp only [Option.some.injEq, Prod.mk.injEq] at H
      obtain ⟨rfl⟩ := H
      go_enter Tryd.func8, Tryd.ntmps8
      go_wp2_with (first | ((with_reducible refine gate_callee (f := 39) rfl ?_); refine goesL_ (some 10) rfl rfl Tryd.func39 (by kernel_rfl) rfl #[.string (⟨#[107, 50, 120, 49, 107, 49]⟩ : ByteArray)] rfl ar ?_; (with_reducible refine (epitometop_row.calls k (⟨#[107, 50, 120, 49, 107, 49]⟩ : ByteArray) t140 _ A1.out).mono ?_); rintro e w20 ⟨v141, rfl, ho0, hb⟩; refine ⟨_, rfl, ?_⟩; have n0_ := am (Kd.R_lower ho0 (below_size bl)); have n1_ := am (below_step bl hb); clear HB; have HO142 := n0_; have HB := n1_; clear n0_ n1_; (try clear hb); (try clear hb2); (try clear hk); (try clear hi); (try clear ho0)) | ((with_reducible refine gate_callee (f := 39) rfl ?_); refine goesL_ (some 11) rfl rfl Tryd.func39 (by kernel_rfl) rfl #[.string (⟨#[107, 49, 100, 49, 107, 50]⟩ : ByteArray)] rfl ar ?_; (with_reducible refine (epitometop_row.calls k (⟨#[107, 49, 100, 49, 107, 50]⟩ : ByteArray) t143 _ A2.out).mono ?_); rintro e w21 ⟨v144, rfl, ho0, hb⟩; refine ⟨_, rfl, ?_⟩; have n0_ := am (Kd.R_elder' (by refine kR ?_; exact HO142.out) (Kd.R_base ho0) hb); have n1_ := am (Kd.R_lower (Kd.R_new' ho0 (Kd.R_lt (by refine kR ?_; exact HO142.out))) (below_size bl)); have n2_ := am (below_step bl hb); clear HO142; clear HB; have HO142 := n0_; have HO145 := n1_; have HB := n2_; clear n0_ n1_ n2_; (try clear hb); (try clear hb2); (try clear hk); (try clear hi); (try clear ho0); obtain ⟨Ao22, co22, eo22⟩ := Kd.R_slice HO142.out; subst eo22; obtain ⟨Ao23, co23, eo23⟩ := Kd.R_slice HO145.out; subst eo23) | ((with_reducible refine gate_dst (N := 12) rfl ?_); refine Kd.N_lit (Kd.slice 25 k25) _ 27 ?hg (N' := 12) ?hd (xs := ([t140, t143] : List (List (S25)))) (inner := [.slice Ao22 t140.length co22, .slice Ao23 t143.length co23]) (ok := (fun _ => True)) (okp := (fun _ => True)) ?hr ?hp (fun _ hk => hk) ((show ∀ k_, w21.heap.size ≤ k_ → (fun _ => True) k_ from fun k_ hk => trivial) _ (Nat.le_refl _)) (Below.refl _ _) (Nat.le_refl _) (by simp) ?_; (case hd => rfl); (case hg => rfl); (case hr => first | (go_simp; done) | (go_simp; rfl)); (case hp => exact (Reps.one (show Kd.FK (Kd.slice 25 k25) _ _ t140 [.slice Ao22 t140.length co22] from (Kd.FK_slice_mk (Kd.R_reads' (Kd.R_mono (ok' := (fun _ => True)) (HO142.out) (fun k_ hk => trivial))).2.1 (Kd.R_F (Kd.R_mono (ok' := (fun _ => True)) (HO142.out) (fun k_ hk => trivial))))) (Reps.one (show Kd.FK (Kd.slice 25 k25) _ _ t143 [.slice Ao23 t143.length co23] from (Kd.FK_slice_mk (Kd.R_reads' (Kd.R_mono (ok' := (fun _ => True)) (HO145.out) (fun k_ hk => trivial))).2.1 (Kd.R_F (Kd.R_mono (ok' := (fun _ => True)) (HO145.out) (fun k_ hk => trivial))))) (Reps.none _ _)))); intro v147 w24 ho25 hb hg_ hnew_; clear hg_ hnew_; (first | rw [← Ny146.out] at ho25 | (simp only [Int.reduceToNat] at ho25; rw [← Ny146.out] at ho25)); have n0_ := am (Kd.N_lower ho25 (below_size bl)); have n1_ := am (below_step bl hb); clear HB; clear HO142; clear HO145; have HO148 := n0_; have HB := n1_; clear n0_ n1_; clear hb ho25; obtain ⟨Ao26, co26, eo26⟩ := Kd.N_slice HO148.out; subst eo26) | ((with_reducible refine gate_callee (f := 11) rfl ?_); refine goesL_ (some 13) rfl rfl Tryd.func11 (by kernel_rfl) rfl #[.int .i64 3, .slice Ao26 y146.length co26] rfl ar ?_; (with_reducible refine (fuse_Of.calls k 3 _ _ y146 t149 t150 _ ?side1 ?side2 ?side3 A3.out).mono ?_); (case side1 => repeat (first | exact (Kd.N_reads' HO148.out).2.2 | (with_reducible refine Kd.C_alloc ?_ _) | (with_reducible refine Kd.C_drewN ?_ _) | (with_reducible refine Kd.C_drew ?_))); (case side2 => exact (Kd.N_reads' HO148.out).2.1); (case side3 => exact Tabs.below HT.out bl); rintro e w27 ⟨v151, rfl, ho0, hb⟩; refine ⟨_, rfl, ?_⟩; have n0_ := am (Kd.N_elder' (by (with_reducible repeat (first | apply Kd.N_alloc | apply Kd.N_drewN | apply Kd.N_drew)); exact HO148.out) (Kd.R_base ho0) hb); have n1_ := am (Kd.R_lower ho0 (below_size bl)); have n2_ := am (below_step bl hb); clear HO148; clear HB; have HO148 := n0_; have HO152 := n1_; have HB := n2_; clear n0_ n1_ n2_; (try clear hb); (try clear hb2); (try clear hk); (try clear hi); (try clear ho0)) | ((with_reducible refine gate_callee (f := 39) rfl ?_); refine goesL_ (some 17) rfl rfl Tryd.func39 (by kernel_rfl) rfl #[.string (⟨#[107, 49, 100, 49, 107, 49]⟩ : ByteArray)] rfl ar ?_; (with_reducible refine (epitometop_row.calls k (⟨#[107, 49, 100, 49, 107, 49]⟩ : ByteArray) t153 _ A4.out).mono ?_); rintro e w28 ⟨v154, rfl, ho0, hb⟩; refine ⟨_, rfl, ?_⟩; have n0_ := am (Kd.N_elder' (by (with_reducible repeat (first | apply Kd.N_alloc | apply Kd.N_drewN | apply Kd.N_drew)); exact HO148.out) (Kd.R_base ho0) hb); have n1_ := am (Kd.R_elder' (by refine kR ?_; exact HO152.out) (Kd.R_base ho0) hb); have n2_ := am (Kd.R_lower (Kd.R_new' ho0 (Kd.R_lt (by refine kR ?_; exact HO152.out))) (below_size bl)); have n3_ := am (below_step bl hb); clear HO148; clear HO152; clear HB; have HO148 := n0_; have HO152 := n1_; have HO155 := n2_; have HB := n3_; clear n0_ n1_ n2_ n3_; (try clear hb); (try clear hb2); (try clear hk); (try clear hi); (try clear ho0)) | ((with_reducible refine gate_callee (f := 39) rfl ?_); refine goesL_ (some 18) rfl rfl Tryd.func39 (by kernel_rfl) rfl #[.string (⟨#[107, 49, 120, 49, 107, 49]⟩ : ByteArray)] rfl ar ?_; (with_reducible refine (epitometop_row.calls k (⟨#[107, 49, 120, 49, 107, 49]⟩ : ByteArray) t156 _ A5.out).mono ?_); rintro e w29 ⟨v157, rfl, ho0, hb⟩; refine ⟨_, rfl, ?_⟩; have n0_ := am (Kd.N_elder' (by (with_reducible repeat (first | apply Kd.N_alloc | apply Kd.N_drewN | apply Kd.N_drew)); exact HO148.out) (Kd.R_base ho0) hb); have n1_ := am (Kd.R_elder' (by refine kR ?_; exact HO152.out) (Kd.R_base ho0) hb); have n2_ := am (Kd.R_elder' (by refine kR ?_; exact HO155.out) (Kd.R_base ho0) hb); have n3_ := am (Kd.R_lower (Kd.R_new' (Kd.R_new' ho0 (Kd.R_lt (by refine kR ?_; exact HO152.out))) (Kd.R_lt (by refine kR ?_; exact HO155.out))) (below_size bl)); have n4_ := am (below_step bl hb); clear HO148; clear HO152; clear HO155; clear HB; have HO148 := n0_; have HO152 := n1_; have HO155 := n2_; have HO158 := n3_; have HB := n4_; clear n0_ n1_ n2_ n3_ n4_; (try clear hb); (try clear hb2); (try clear hk); (try clear hi); (try clear ho0); obtain ⟨Ao30, co30, eo30⟩ := Kd.R_slice HO155.out; subst eo30; obtain ⟨Ao31, co31, eo31⟩ := Kd.R_slice HO158.out; subst eo31) | ((with_reducible refine gate_dst (N := 19) rfl ?_); refine Kd.N_lit (Kd.slice 25 k25) _ 27 ?hg (N' := 19) ?hd (xs := ([t153, t156] : List (List (S25)))) (inner := [.slice Ao30 t153.length co30, .slice Ao31 t156.length co31]) (ok := (fun k_ => some k_ ≠ (.slice Ao26 y146.length co26 : Value).ownBlock ∧ some k_ ≠ (v151 : Value).ownBlock)) (okp := (fun k_ => some k_ ≠ (.slice Ao26 y146.length co26 : Value).ownBlock ∧ some k_ ≠ (v151 : Value).ownBlock)) ?hr ?hp (fun _ hk => hk) ((show ∀ k_, w29.heap.size ≤ k_ → (fun k_ => some k_ ≠ (.slice Ao26 y146.length co26 : Value).ownBlock ∧ some k_ ≠ (v151 : Value).ownBlock) k_ from fun k_ hk => ⟨Kd.fresh' (Kd.N_lt (by (with_reducible repeat (first | apply Kd.N_alloc | apply Kd.N_drewN | apply Kd.N_drew)); exact HO148.out)) k_ hk, Kd.fresh' (Kd.R_lt (by refine kR ?_; exact HO152.out)) k_ hk⟩) _ (Nat.le_refl _)) (Below.refl _ _) (Nat.le_refl _) (by simp) ?_; (case hd => rfl); (case hg => rfl); (case hr => first | (go_simp; done) | (go_simp; rfl)); (case hp => exact (Reps.one (show Kd.FK (Kd.slice 25 k25) _ _ t153 [.slice Ao30 t153.length co30] from (Kd.FK_slice_mk (Kd.R_reads' (Kd.R_mono (ok' := (fun k_ => some k_ ≠ (.slice Ao26 y146.length co26 : Value).ownBlock ∧ some k_ ≠ (v151 : Value).ownBlock)) (Kd.R_apart' (HO155.out) (Kd.N_typed HO148.out) (by decide)) (fun k_ hk => ⟨hk.2, hk.1.1.2⟩))).2.1 (Kd.R_F (Kd.R_mono (ok' := (fun k_ => some k_ ≠ (.slice Ao26 y146.length co26 : Value).ownBlock ∧ some k_ ≠ (v151 : Value).ownBlock)) (Kd.R_apart' (HO155.out) (Kd.N_typed HO148.out) (by decide)) (fun k_ hk => ⟨hk.2, hk.1.1.2⟩))))) (Reps.one (show Kd.FK (Kd.slice 25 k25) _ _ t156 [.slice Ao31 t156.length co31] from (Kd.FK_slice_mk (Kd.R_reads' (Kd.R_mono (ok' := (fun k_ => some k_ ≠ (.slice Ao26 y146.length co26 : Value).ownBlock ∧ some k_ ≠ (v151 : Value).ownBlock)) (Kd.R_apart' (HO158.out) (Kd.N_typed HO148.out) (by decide)) (fun k_ hk => ⟨hk.2, hk.1.1.2⟩))).2.1 (Kd.R_F (Kd.R_mono (ok' := (fun k_ => some k_ ≠ (.slice Ao26 y146.length co26 : Value).ownBlock ∧ some k_ ≠ (v151 : Value).ownBlock)) (Kd.R_apart' (HO158.out) (Kd.N_typed HO148.out) (by decide)) (fun k_ hk => ⟨hk.2, hk.1.1.2⟩))))) (Reps.none _ _)))); intro v160 w32 ho33 hb hg_ hnew_; clear hg_ hnew_; (first | rw [← Ny159.out] at ho33 | (simp only [Int.reduceToNat] at ho33; rw [← Ny159.out] at ho33)); have n0_ := am (Kd.N_elder' (by (with_reducible repeat (first | apply Kd.N_alloc | apply Kd.N_drewN | apply Kd.N_drew)); exact HO148.out) (Kd.N_base ho33) hb); have n1_ := am (Kd.R_below (by refine kR ?_; exact HO152.out) hb); have n2_ := am (Kd.N_lower ho33 (below_size bl)); have n3_ := am (below_step bl hb); clear HO148; clear HO152; clear HB; clear HO155; clear HO158; have HO148 := n0_; have HO152 := n1_; have HO161 := n2_; have HB := n3_; clear n0_ n1_ n2_ n3_; clear hb ho33; obtain ⟨Ao34, co34, eo34⟩ := Kd.N_slice HO161.out; subst eo34) | ((with_reducible refine gate_callee (f := 11) rfl ?_); refine goesL_ (some 20) rfl rfl Tryd.func11 (by kernel_rfl) rfl #[.int .i64 3, .slice Ao34 y159.length co34] rfl ar ?_; (with_reducible refine (fuse_Of.calls k 3 _ _ y159 t162 t163 _ ?side1 ?side2 ?side3 A6.out).mono ?_); (case side1 => repeat (first | exact (Kd.N_reads' HO161.out).2.2 | (with_reducible refine Kd.C_alloc ?_ _) | (with_reducible refine Kd.C_drewN ?_ _) | (with_reducible refine Kd.C_drew ?_))); (case side2 => exact (Kd.N_reads' HO161.out).2.1); (case side3 => exact Tabs.below HT.out bl); rintro e w35 ⟨v164, rfl, ho0, hb⟩; refine ⟨_, rfl, ?_⟩; have n0_ := am (Kd.N_elder' (by (with_reducible repeat (first | apply Kd.N_alloc | apply Kd.N_drewN | apply Kd.N_drew)); exact HO148.out) (Kd.R_base ho0) hb); have n1_ := am (Kd.R_elder' (by refine kR ?_; exact HO152.out) (Kd.R_base ho0) hb); have n2_ := am (Kd.N_elder' (by (with_reducible repeat (first | apply Kd.N_alloc | apply Kd.N_drewN | apply Kd.N_drew)); exact HO161.out) (Kd.R_base ho0) hb); have n3_ := am (Kd.R_lower (Kd.R_new' ho0 (Kd.R_lt (by refine kR ?_; exact HO152.out))) (below_size bl)); have n4_ := am (below_step bl hb); clear HO148; clear HO152; clear HO161; clear HB; have HO148 := n0_; have HO152 := n1_; have HO161 := n2_; have HO165 := n3_; have HB := n4_; clear n0_ n1_ n2_ n3_ n4_; (try clear hb); (try clear hb2); (try clear hk); (try clear hi); (try clear ho0)) | ((with_reducible refine gate_callee (f := 39) rfl ?_); refine goesL_ (some 24) rfl rfl Tryd.func39 (by kernel_rfl) rfl #[.string (⟨#[107, 49, 121, 49, 107, 50]⟩ : ByteArray)] rfl ar ?_; (with_reducible refine (epitometop_row.calls k (⟨#[107, 49, 121, 49, 107, 50]⟩ : ByteArray) t166 _ A7.out).mono ?_); rintro e w36 ⟨v167, rfl, ho0, hb⟩; refine ⟨_, rfl, ?_⟩; have n0_ := am (Kd.N_elder' (by (with_reducible repeat (first | apply Kd.N_alloc | apply Kd.N_drewN | apply Kd.N_drew)); exact HO148.out) (Kd.R_base ho0) hb); have n1_ := am (Kd.R_elder' (by refine kR ?_; exact HO152.out) (Kd.R_base ho0) hb); have n2_ := am (Kd.N_elder' (by (with_reducible repeat (first | apply Kd.N_alloc | apply Kd.N_drewN | apply Kd.N_drew)); exact HO161.out) (Kd.R_base ho0) hb); have n3_ := am (Kd.R_elder' (by refine kR ?_; exact HO165.out) (Kd.R_base ho0) hb); have n4_ := am (Kd.R_lower (Kd.R_new' (Kd.R_new' ho0 (Kd.R_lt (by refine kR ?_; exact HO152.out))) (Kd.R_lt (by refine kR ?_; exact HO165.out))) (below_size bl)); have n5_ := am (below_step bl hb); clear HO148; clear HO152; clear HO161; clear HO165; clear HB; have HO148 := n0_; have HO152 := n1_; have HO161 := n2_; have HO165 := n3_; have HO168 := n4_; have HB := n5_; clear n0_ n1_ n2_ n3_ n4_ n5_; (try clear hb); (try clear hb2); (try clear hk); (try clear hi); (try clear ho0); obtain ⟨Ao37, co37, eo37⟩ := Kd.R_slice HO168.out; subst eo37; obtain ⟨Ao38, co38, eo38⟩ := Kd.R_slice HO152.out; subst eo38) | ((with_reducible refine gate_callee (f := 13) rfl ?_); refine goesL_ (some 26) rfl rfl Tryd.func13 (by kernel_rfl) rfl #[.slice Ao37 t166.length co37, .slice Ao38 t149.length co38] rfl ar ?_; (with_reducible refine (over_Of.calls k _ _ t166 _ _ t149 t169 t170 _ ?side1 ?side2 ?side3 ?side4 ?side5 A8.out).mono ?_); (case side1 => repeat (first | exact (Kd.R_reads' HO168.out).2.2 | (with_reducible refine Kd.C_alloc ?_ _) | (with_reducible refine Kd.C_drewN ?_ _) | (with_reducible refine Kd.C_drew ?_))); (case side2 => exact (Kd.R_reads' HO168.out).2.1); (case side3 => repeat (first | exact (Kd.R_reads' HO152.out).2.2 | (with_reducible refine Kd.C_alloc ?_ _) | (with_reducible refine Kd.C_drewN ?_ _) | (with_reducible refine Kd.C_drew ?_))); (case side4 => exact (Kd.R_reads' HO152.out).2.1); (case side5 => exact Tabs.below HT.out bl); rintro e w39 ⟨v171, rfl, ho0, hb⟩; refine ⟨_, rfl, ?_⟩; have n0_ := am (Kd.N_elder' (by (with_reducible repeat (first | apply Kd.N_alloc | apply Kd.N_drewN | apply Kd.N_drew)); exact HO148.out) (Kd.R_base ho0) hb); have n1_ := am (Kd.R_elder' (by refine kR ?_; exact HO152.out) (Kd.R_base ho0) hb); have n2_ := am (Kd.N_elder' (by (with_reducible repeat (first | apply Kd.N_alloc | apply Kd.N_drewN | apply Kd.N_drew)); exact HO161.out) (Kd.R_base ho0) hb); have n3_ := am (Kd.R_elder' (by refine kR ?_; exact HO165.out) (Kd.R_base ho0) hb); have n4_ := am (Kd.R_elder' (by refine kR ?_; exact HO168.out) (Kd.R_base ho0) hb); have n5_ := am (Kd.R_lower (Kd.R_new' (Kd.R_new' (Kd.R_new' ho0 (Kd.R_lt (by refine kR ?_; exact HO152.out))) (Kd.R_lt (by refine kR ?_; exact HO165.out))) (Kd.R_lt (by refine kR ?_; exact HO168.out))) (below_size bl)); have n6_ := am (below_step bl hb); clear HO148; clear HO152; clear HO161; clear HO165; clear HO168; clear HB; have HO148 := n0_; have HO152 := n1_; have HO161 := n2_; have HO165 := n3_; have HO168 := n4_; have HO172 := n5_; have HB := n6_; clear n0_ n1_ n2_ n3_ n4_ n5_ n6_; (try clear hb); (try clear hb2); (try clear hk); (try clear hi); (try clear ho0)) | ((with_reducible refine gate_callee (f := 39) rfl ?_); refine goesL_ (some 30) rfl rfl Tryd.func39 (by kernel_rfl) rfl #[.string (⟨#[107, 49, 121, 49, 107, 50]⟩ : ByteArray)] rfl ar ?_; (with_reducible refine (epitometop_row.calls k (⟨#[107, 49, 121, 49, 107, 50]⟩ : ByteArray) t173 _ A9.out).mono ?_); rintro e w40 ⟨v174, rfl, ho0, hb⟩; refine ⟨_, rfl, ?_⟩; have n0_ := am (Kd.N_elder' (by (with_reducible repeat (first | apply Kd.N_alloc | apply Kd.N_drewN | apply Kd.N_drew)); exact HO148.out) (Kd.R_base ho0) hb); have n1_ := am (Kd.R_elder' (by refine kR ?_; exact HO152.out) (Kd.R_base ho0) hb); have n2_ := am (Kd.N_elder' (by (with_reducible repeat (first | apply Kd.N_alloc | apply Kd.N_drewN | apply Kd.N_drew)); exact HO161.out) (Kd.R_base ho0) hb); have n3_ := am (Kd.R_elder' (by refine kR ?_; exact HO165.out) (Kd.R_base ho0) hb); have n4_ := am (Kd.R_elder' (by refine kR ?_; exact HO168.out) (Kd.R_base ho0) hb); have n5_ := am (Kd.R_elder' (by refine kR ?_; exact HO172.out) (Kd.R_base ho0) hb); have n6_ := am (Kd.R_lower (Kd.R_new' (Kd.R_new' (Kd.R_new' (Kd.R_new' ho0 (Kd.R_lt (by refine kR ?_; exact HO152.out))) (Kd.R_lt (by refine kR ?_; exact HO165.out))) (Kd.R_lt (by refine kR ?_; exact HO168.out))) (Kd.R_lt (by refine kR ?_; exact HO172.out))) (below_size bl)); have n7_ := am (below_step bl hb); clear HO148; clear HO152; clear HO161; clear HO165; clear HO168; clear HO172; clear HB; have HO148 := n0_; have HO152 := n1_; have HO161 := n2_; have HO165 := n3_; have HO168 := n4_; have HO172 := n5_; have HO175 := n6_; have HB := n7_; clear n0_ n1_ n2_ n3_ n4_ n5_ n6_ n7_; (try clear hb); (try clear hb2); (try clear hk); (try clear hi); (try clear ho0); obtain ⟨Ao41, co41, eo41⟩ := Kd.R_slice HO175.out; subst eo41; obtain ⟨Ao42, co42, eo42⟩ := Kd.R_slice HO165.out; subst eo42) | ((with_reducible refine gate_callee (f := 13) rfl ?_); refine goesL_ (some 32) rfl rfl Tryd.func13 (by kernel_rfl) rfl #[.slice Ao41 t173.length co41, .slice Ao42 t162.length co42] rfl ar ?_; (with_reducible refine (over_Of.calls k _ _ t173 _ _ t162 t176 t177 _ ?side1 ?side2 ?side3 ?side4 ?side5 A10.out).mono ?_); (case side1 => repeat (first | exact (Kd.R_reads' HO175.out).2.2 | (with_reducible refine Kd.C_alloc ?_ _) | (with_reducible refine Kd.C_drewN ?_ _) | (with_reducible refine Kd.C_drew ?_))); (case side2 => exact (Kd.R_reads' HO175.out).2.1); (case side3 => repeat (first | exact (Kd.R_reads' HO165.out).2.2 | (with_reducible refine Kd.C_alloc ?_ _) | (with_reducible refine Kd.C_drewN ?_ _) | (with_reducible refine Kd.C_drew ?_))); (case side4 => exact (Kd.R_reads' HO165.out).2.1); (case side5 => exact Tabs.below HT.out bl); rintro e w43 ⟨v178, rfl, ho0, hb⟩; refine ⟨_, rfl, ?_⟩; have n0_ := am (Kd.N_elder' (by (with_reducible repeat (first | apply Kd.N_alloc | apply Kd.N_drewN | apply Kd.N_drew)); exact HO148.out) (Kd.R_base ho0) hb); have n1_ := am (Kd.R_elder' (by refine kR ?_; exact HO152.out) (Kd.R_base ho0) hb); have n2_ := am (Kd.N_elder' (by (with_reducible repeat (first | apply Kd.N_alloc | apply Kd.N_drewN | apply Kd.N_drew)); exact HO161.out) (Kd.R_base ho0) hb); have n3_ := am (Kd.R_elder' (by refine kR ?_; exact HO165.out) (Kd.R_base ho0) hb); have n4_ := am (Kd.R_elder' (by refine kR ?_; exact HO168.out) (Kd.R_base ho0) hb); have n5_ := am (Kd.R_elder' (by refine kR ?_; exact HO172.out) (Kd.R_base ho0) hb); have n6_ := am (Kd.R_elder' (by refine kR ?_; exact HO175.out) (Kd.R_base ho0) hb); have n7_ := am (Kd.R_lower (Kd.R_new' (Kd.R_new' (Kd.R_new' (Kd.R_new' (Kd.R_new' ho0 (Kd.R_lt (by refine kR ?_; exact HO152.out))) (Kd.R_lt (by refine kR ?_; exact HO165.out))) (Kd.R_lt (by refine kR ?_; exact HO168.out))) (Kd.R_lt (by refine kR ?_; exact HO172.out))) (Kd.R_lt (by refine kR ?_; exact HO175.out))) (below_size bl)); have n8_ := am (below_step bl hb); clear HO148; clear HO152; clear HO161; clear HO165; clear HO168; clear HO172; clear HO175; clear HB; have HO148 := n0_; have HO152 := n1_; have HO161 := n2_; have HO165 := n3_; have HO168 := n4_; have HO172 := n5_; have HO175 := n6_; have HO179 := n7_; have HB := n8_; clear n0_ n1_ n2_ n3_ n4_ n5_ n6_ n7_ n8_; (try clear hb); (try clear hb2); (try clear hk); (try clear hi); (try clear ho0)) | (go_at_call 39; (with_reducible refine (epitometop_row.calls k (⟨#[107, 49, 121, 49, 107, 50]⟩ : ByteArray) t180 _ A15.out).mono ?_); rintro e w44 ⟨v181, rfl, ho0, hb⟩; have n0_ := am (Kd.N_elder' (by (with_reducible repeat (first | apply Kd.N_alloc | apply Kd.N_drewN | apply Kd.N_drew)); exact HO148.out) (Kd.R_base ho0) hb); have n1_ := am (Kd.R_elder' (by refine kR ?_; exact HO152.out) (Kd.R_base ho0) hb); have n2_ := am (Kd.N_elder' (by (with_reducible repeat (first | apply Kd.N_alloc | apply Kd.N_drewN | apply Kd.N_drew)); exact HO161.out) (Kd.R_base ho0) hb); have n3_ := am (Kd.R_elder' (by refine kR ?_; exact HO165.out) (Kd.R_base ho0) hb); have n4_ := am (Kd.R_elder' (by refine kR ?_; exact HO168.out) (Kd.R_base ho0) hb); have n5_ := am (Kd.R_elder' (by refine kR ?_; exact HO172.out) (Kd.R_base ho0) hb); have n6_ := am (Kd.R_elder' (by refine kR ?_; exact HO175.out) (Kd.R_base ho0) hb); have n7_ := am (Kd.R_elder' (by refine kR ?_; exact HO179.out) (Kd.R_base ho0) hb); have n8_ := am (Kd.R_lower (Kd.R_new' (Kd.R_new' (Kd.R_new' (Kd.R_new' (Kd.R_new' (Kd.R_new' ho0 (Kd.R_lt (by refine kR ?_; exact HO152.out))) (Kd.R_lt (by refine kR ?_; exact HO165.out))) (Kd.R_lt (by refine kR ?_; exact HO168.out))) (Kd.R_lt (by refine kR ?_; exact HO172.out))) (Kd.R_lt (by refine kR ?_; exact HO175.out))) (Kd.R_lt (by refine kR ?_; exact HO179.out))) (below_size bl)); have n9_ := am (below_step bl hb); clear HO148; clear HO152; clear HO161; clear HO165; clear HO168; clear HO172; clear HO175; clear HO179; clear HB; have HO148 := n0_; have HO152 := n1_; have HO161 := n2_; have HO165 := n3_; have HO168 := n4_; have HO172 := n5_; have HO175 := n6_; have HO179 := n7_; have HO182 := n8_; have HB := n9_; clear n0_ n1_ n2_ n3_ n4_ n5_ n6_ n7_ n8_ n9_; (try clear hb); (try clear hb2); (try clear hk); (try clear hi); (try clear ho0); obtain ⟨Ao45, co45, eo45⟩ := Kd.R_slice HO172.out; subst eo45; obtain ⟨Ao46, co46, eo46⟩ := Kd.R_slice HO182.out; subst eo46) | (go_at_call 15; (with_reducible refine (epitomeref04_Same.calls k _ _ t169 _ _ t180 true _ ?side1 ?side2 ?side3 ?side4 A16.out).mono ?_); (case side1 => repeat (first | exact (Kd.R_reads' HO172.out).2.2 | (with_reducible refine Kd.C_alloc ?_ _) | (with_reducible refine Kd.C_drewN ?_ _) | (with_reducible refine Kd.C_drew ?_))); (case side2 => exact (Kd.R_reads' HO172.out).2.1); (case side3 => repeat (first | exact (Kd.R_reads' HO182.out).2.2 | (with_reducible refine Kd.C_alloc ?_ _) | (with_reducible refine Kd.C_drewN ?_ _) | (with_reducible refine Kd.C_drew ?_))); (case side4 => exact (Kd.R_reads' HO182.out).2.1); rintro e w' ⟨rfl, ⟨nd, rfl⟩⟩) | (go_at_call 39; (with_reducible refine (epitometop_row.calls k (⟨#[107, 50, 121, 49, 107, 49]⟩ : ByteArray) t184 _ A18.out).mono ?_); rintro e w47 ⟨v185, rfl, ho0, hb⟩; have n0_ := am (Kd.N_elder' (by (with_reducible repeat (first | apply Kd.N_alloc | apply Kd.N_drewN | apply Kd.N_drew)); exact HO148.out) (Kd.R_base ho0) hb); have n1_ := am (Kd.R_elder' (by refine kR ?_; exact HO152.out) (Kd.R_base ho0) hb); have n2_ := am (Kd.N_elder' (by (with_reducible repeat (first | apply Kd.N_alloc | apply Kd.N_drewN | apply Kd.N_drew)); exact HO161.out) (Kd.R_base ho0) hb); have n3_ := am (Kd.R_elder' (by refine kR ?_; exact HO165.out) (Kd.R_base ho0) hb); have n4_ := am (Kd.R_elder' (by refine kR ?_; exact HO168.out) (Kd.R_base ho0) hb); have n5_ := am (Kd.R_elder' (by refine kR ?_; exact HO172.out) (Kd.R_base ho0) hb); have n6_ := am (Kd.R_elder' (by refine kR ?_; exact HO175.out) (Kd.R_base ho0) hb); have n7_ := am (Kd.R_elder' (by refine kR ?_; exact HO179.out) (Kd.R_base ho0) hb); have n8_ := am (Kd.R_elder' (by refine kR ?_; exact HO182.out) (Kd.R_base ho0) hb); have n9_ := am (Kd.R_lower (Kd.R_new' (Kd.R_new' (Kd.R_new' (Kd.R_new' (Kd.R_new' (Kd.R_new' (Kd.R_new' ho0 (Kd.R_lt (by refine kR ?_; exact HO152.out))) (Kd.R_lt (by refine kR ?_; exact HO165.out))) (Kd.R_lt (by refine kR ?_; exact HO168.out))) (Kd.R_lt (by refine kR ?_; exact HO172.out))) (Kd.R_lt (by refine kR ?_; exact HO175.out))) (Kd.R_lt (by refine kR ?_; exact HO179.out))) (Kd.R_lt (by refine kR ?_; exact HO182.out))) (below_size bl)); have n10_ := am (below_step bl hb); clear HO148; clear HO152; clear HO161; clear HO165; clear HO168; clear HO172; clear HO175; clear HO179; clear HO182; clear HB; have HO148 := n0_; have HO152 := n1_; have HO161 := n2_; have HO165 := n3_; have HO168 := n4_; have HO172 := n5_; have HO175 := n6_; have HO179 := n7_; have HO182 := n8_; have HO186 := n9_; have HB := n10_; clear n0_ n1_ n2_ n3_ n4_ n5_ n6_ n7_ n8_ n9_ n10_; (try clear hb); (try clear hb2); (try clear hk); (try clear hi); (try clear ho0); obtain ⟨Ao48, co48, eo48⟩ := Kd.R_slice HO179.out; subst eo48; obtain ⟨Ao49, co49, eo49⟩ := Kd.R_slice HO186.out; subst eo49) | (go_at_call 15; (with_reducible refine (epitomeref04_Same.calls k _ _ t176 _ _ t184 t187 _ ?side1 ?side2 ?side3 ?side4 A19.out).mono ?_); (case side1 => repeat (first | exact (Kd.R_reads' HO179.out).2.2 | (with_reducible refine Kd.C_alloc ?_ _) | (with_reducible refine Kd.C_drewN ?_ _) | (with_reducible refine Kd.C_drew ?_))); (case side2 => exact (Kd.R_reads' HO179.out).2.1); (case side3 => repeat (first | exact (Kd.R_reads' HO186.out).2.2 | (with_reducible refine Kd.C_alloc ?_ _) | (with_reducible refine Kd.C_drewN ?_ _) | (with_reducible refine Kd.C_drew ?_))); (case side4 => exact (Kd.R_reads' HO186.out).2.1); rintro e w' ⟨rfl, ⟨nd, rfl⟩⟩))
      go_ret
      exact ⟨by first | rfl | (simp [errW_none, errW_some] <;> rfl) | (simp [*, errW_none, errW_some] <;> rfl), bl⟩
     ·replace c17 := Bool.eq_false_iff.mpr c17
      subst c17
      have H1 : (some false) = some r := by rw [if_neg (show ¬ (false = true) by decide)] at H; exact H
      clear H
      have H := H1
      clear H1
      obtain rfl := Option.some.inj H
      exact absurd HLAW.out (by decide)
    ·rw [if_neg c14] at H
     have c14b0 : (t177 == 0) = false := beq_eq_false_iff_ne.mpr c14
     have c14b1 : (t177 != 0) = true := bne_iff_ne.mpr c14
     obtain rfl := Option.some.inj H
     exact absurd HLAW.out (by decide)
   ·rw [if_neg c13] at H
    have c13b0 : (t170 == 0) = false := beq_eq_false_iff_ne.mpr c13
    have c13b1 : (t170 != 0) = true := bne_iff_ne.mpr c13
    obtain rfl := Option.some.inj H
    exact absurd HLAW.out (by decide)
  ·rw [if_neg c12] at H
   have c12b0 : (t163 == 0) = false := beq_eq_false_iff_ne.mpr c12
   have c12b1 : (t163 != 0) = true := bne_iff_ne.mpr c12
   obtain rfl := Option.some.inj H
   exact absurd HLAW.out (by decide)
 ·rw [if_neg c11] at H
  have c11b0 : (t150 == 0) = false := beq_eq_false_iff_ne.mpr c11
  have c11b1 : (t150 != 0) = true := bne_iff_ne.mpr c11
  obtain rfl := Option.some.inj H
  exact absurd HLAW.out (by decide)
def fuse_next.f (k : Nat) (a0 : Int) (l1 : List (S25)) : Option (Int × Int) := (op_May.f k l1).bind fun t188 => (if t188 = 0 then ((op_In.f l1).bind fun t189 => (if t189 = a0 then ((op_Out.f l1).bind fun t190 => (some (t190, 0))) else (some (0, 5)))) else (some (0, t188)))
set_option maxHeartbeats 8000000 in
set_option maxRecDepth 100000 in
theorem fuse_next.calls (k : Nat) (a0 : Int) (A1 : Option Addr) (c1 : Nat) (l1 : List (S25)) (r1 : Int) (r2 : Int) (w : World) (hr1 : Kd.C k25 w A1 l1.length l1) (hc1 : l1.length ≤ c1) (hT : Tabs w) (h : fuse_next.f k a0 l1 = some (r1, r2)) :
  Calls Tryd.prog 94 #[.int .i64 a0, .slice A1 l1.length c1] w fun e w' => e = .returned (.tuple #[.int .i64 r1, .int .i64 r2]) ∧ Below w.heap.size w w' := by
 have HT := am hT
 clear hT
 have HR1 := am hr1
 have HC1 := am hc1
 clear hr1 hc1
 have HB := am (Below.refl w.heap.size w)
 have H : ((op_May.f k l1).bind fun t188 => (if t188 = 0 then ((op_In.f l1).bind fun t189 => (if t189 = a0 then ((op_Out.f l1).bind fun t190 => (some (t190, 0))) else (some (0, 5)))) else (some (0, t188)))) = some (r1, r2) := h
 clear h
 replace H := Option.bind_eq_some_iff.mp H
 obtain ⟨t188, A30, H⟩ := H
 replace H : (if t188 = 0 then ((op_In.f l1).bind fun t189 => (if t189 = a0 then ((op_Out.f l1).bind fun t190 => (some (t190, 0))) else (some (0, 5)))) else (some (0, t188))) = some (r1, r2) := H
 have A3 := am A30
 clear A30
 by_cases c4 : t188 = 0
 ·rw [if_pos c4] at H
  have c4b0 : (t188 == 0) = true := beq_iff_eq.mpr c4
  have c4b1 : (t188 != 0) = false := bne_eq_false_iff_eq.mpr c4
  clear c4
  replace H := Option.bind_eq_some_iff.mp H
  obtain ⟨t189, A50, H⟩ := H
  replace H : (if t189 = a0 then ((op_Out.f l1).bind fun t190 => (some (t190, 0))) else (some (0, 5))) = some (r1, r2) := H
  have A5 := am A50
  clear A50
  by_cases c6 : t189 = a0
  ·rw [if_pos c6] at H
   have c6b0 : (t189 == a0) = true := beq_iff_eq.mpr c6
   have c6b1 : (t189 != a0) = false := bne_eq_false_iff_eq.mpr c6
   clear c6
   replace H := Option.bind_eq_some_iff.mp H
   obtain ⟨t190, A70, H⟩ := H
   replace H : (some (t190, 0)) = some (r1, r2) := H
   have A7 := am A70
   clear A70
   simp only [Option.some.injEq, Prod.mk.injEq] at H
   obtain ⟨rfl, rfl⟩ := H
   go_enter Tryd.func94, Tryd.ntmps94
   go_wp2_with (first | ((with_reducible refine gate_callee (f := 46) rfl ?_); refine goesL_ (some 8) rfl rfl Tryd.func46 (by kernel_rfl) rfl #[.slice A1 l1.length c1] rfl ar ?_; (with_reducible refine (op_May.calls k _ _ l1 t188 _ ?side1 ?side2 ?side3 A3.out).mono ?_); (case side1 => repeat (first | exact HR1.out | (with_reducible refine Kd.C_alloc ?_ _) | (with_reducible refine Kd.C_drewN ?_ _) | (with_reducible refine Kd.C_drew ?_))); (case side2 => exact HC1.out); (case side3 => exact Tabs.below HT.out bl); rintro e w8 ⟨rfl, hb⟩; refine ⟨_, rfl, ?_⟩; have n0_ := am (below_step bl hb); clear HB; have HB := n0_; clear n0_; (try clear hb); (try clear hb2); (try clear hk); (try clear hi)) | ((with_reducible refine gate_callee (f := 20) rfl ?_); refine goesL_ (some 15) rfl rfl Tryd.func20 (by kernel_rfl) rfl #[.slice A1 l1.length c1] rfl ar ?_; (with_reducible refine (op_In.calls _ _ l1 t189 _ ?side1 ?side2 ?side3 A5.out).mono ?_); (case side1 => repeat (first | exact (Kd.C_below HR1.out HB.out) | (with_reducible refine Kd.C_alloc ?_ _) | (with_reducible refine Kd.C_drewN ?_ _) | (with_reducible refine Kd.C_drew ?_))); (case side2 => exact HC1.out); (case side3 => exact Tabs.below HT.out bl); rintro e w9 ⟨rfl, hb⟩; refine ⟨_, rfl, ?_⟩; have n0_ := am (below_step bl hb); clear HB; have HB := n0_; clear n0_; (try clear hb); (try clear hb2); (try clear hk); (try clear hi)) | ((with_reducible refine gate_callee (f := 62) rfl ?_); refine goesL_ (some 19) rfl rfl Tryd.func62 (by kernel_rfl) rfl #[.slice A1 l1.length c1] rfl ar ?_; (with_reducible refine (op_Out.calls _ _ l1 t190 _ ?side1 ?side2 ?side3 A7.out).mono ?_); (case side1 => repeat (first | exact (Kd.C_below HR1.out HB.out) | (with_reducible refine Kd.C_alloc ?_ _) | (with_reducible refine Kd.C_drewN ?_ _) | (with_reducible refine Kd.C_drew ?_))); (case side2 => exact HC1.out); (case side3 => exact Tabs.below HT.out bl); rintro e w10 ⟨rfl, hb⟩; refine ⟨_, rfl, ?_⟩; have n0_ := am (below_step bl hb); clear HB; have HB := n0_; clear n0_; (try clear hb); (try clear hb2); (try clear hk); (try clear hi)))
   go_ret2
   exact ⟨by first | rfl | (simp [errW_none, errW_some] <;> rfl) | (simp [*, errW_none, errW_some] <;> rfl), bl⟩
  ·rw [if_neg c6] at H
   have c6b0 : (t189 == a0) = false := beq_eq_false_iff_ne.mpr c6
   have c6b1 : (t189 != a0) = true := bne_iff_ne.mpr c6
   simp only [Option.some.injEq, Prod.mk.injEq] at H
   obtain ⟨rfl, rfl⟩ := H
   go_enter Tryd.func94, Tryd.ntmps94
   go_wp2_with (first | ((with_reducible refine gate_callee (f := 46) rfl ?_); refine goesL_ (some 8) rfl rfl Tryd.func46 (by kernel_rfl) rfl #[.slice A1 l1.length c1] rfl ar ?_; (with_reducible refine (op_May.calls k _ _ l1 t188 _ ?side1 ?side2 ?side3 A3.out).mono ?_); (case side1 => repeat (first | exact HR1.out | (with_reducible refine Kd.C_alloc ?_ _) | (with_reducible refine Kd.C_drewN ?_ _) | (with_reducible refine Kd.C_drew ?_))); (case side2 => exact HC1.out); (case side3 => exact Tabs.below HT.out bl); rintro e w11 ⟨rfl, hb⟩; refine ⟨_, rfl, ?_⟩; have n0_ := am (below_step bl hb); clear HB; have HB := n0_; clear n0_; (try clear hb); (try clear hb2); (try clear hk); (try clear hi)) | ((with_reducible refine gate_callee (f := 20) rfl ?_); refine goesL_ (some 15) rfl rfl Tryd.func20 (by kernel_rfl) rfl #[.slice A1 l1.length c1] rfl ar ?_; (with_reducible refine (op_In.calls _ _ l1 t189 _ ?side1 ?side2 ?side3 A5.out).mono ?_); (case side1 => repeat (first | exact (Kd.C_below HR1.out HB.out) | (with_reducible refine Kd.C_alloc ?_ _) | (with_reducible refine Kd.C_drewN ?_ _) | (with_reducible refine Kd.C_drew ?_))); (case side2 => exact HC1.out); (case side3 => exact Tabs.below HT.out bl); rintro e w12 ⟨rfl, hb⟩; refine ⟨_, rfl, ?_⟩; have n0_ := am (below_step bl hb); clear HB; have HB := n0_; clear n0_; (try clear hb); (try clear hb2); (try clear hk); (try clear hi)))
   go_ret2
   exact ⟨by first | rfl | (simp [errW_none, errW_some] <;> rfl) | (simp [*, errW_none, errW_some] <;> rfl), bl⟩
 ·rw [if_neg c4] at H
  have c4b0 : (t188 == 0) = false := beq_eq_false_iff_ne.mpr c4
  have c4b1 : (t188 != 0) = true := bne_iff_ne.mpr c4
  simp only [Option.some.injEq, Prod.mk.injEq] at H
  obtain ⟨rfl, rfl⟩ := H
  go_enter Tryd.func94, Tryd.ntmps94
  go_wp2_with (first | ((with_reducible refine gate_callee (f := 46) rfl ?_); refine goesL_ (some 8) rfl rfl Tryd.func46 (by kernel_rfl) rfl #[.slice A1 l1.length c1] rfl ar ?_; (with_reducible refine (op_May.calls k _ _ l1 t188 _ ?side1 ?side2 ?side3 A3.out).mono ?_); (case side1 => repeat (first | exact HR1.out | (with_reducible refine Kd.C_alloc ?_ _) | (with_reducible refine Kd.C_drewN ?_ _) | (with_reducible refine Kd.C_drew ?_))); (case side2 => exact HC1.out); (case side3 => exact Tabs.below HT.out bl); rintro e w13 ⟨rfl, hb⟩; refine ⟨_, rfl, ?_⟩; have n0_ := am (below_step bl hb); clear HB; have HB := n0_; clear n0_; (try clear hb); (try clear hb2); (try clear hk); (try clear hi)))
  go_ret2
  exact ⟨by first | rfl | (simp [errW_none, errW_some] <;> rfl) | (simp [*, errW_none, errW_some] <;> rfl), bl⟩
def epitomeref15_SameRow.l0 : Nat → List Int → List Int → Int → Option (Bool)
 | 0, _, _, _ => none
 | k + 1, x0, x1, x5 => if x5 < (x0.length : Int) then (if 0 ≤ x5 then (if x5 < (x1.length : Int) then (if (rd x0 x5) = (rd x1 x5) then (epitomeref15_SameRow.l0 k x0 x1 (wrap64 (x5 + 1))) else (some false)) else (none)) else (none)) else (some true)
def epitomeref15_SameRow.f (k : Nat) (l0 : List Int) (l1 : List Int) : Option (Bool) := if (l0.length : Int) = (l1.length : Int) then (epitomeref15_SameRow.l0 k l0 l1 0) else (some false)
set_option maxHeartbeats 8000000 in
set_option maxRecDepth 100000 in
theorem epitomeref15_SameRow.calls (k : Nat) (A0 : Option Addr) (c0 : Nat) (l0 : List Int) (A1 : Option Addr) (c1 : Nat) (l1 : List Int) (r : Bool) (w : World) (hr0 : Kd.C (Kd.int .i64) w A0 l0.length l0) (hc0 : l0.length ≤ c0) (hr1 : Kd.C (Kd.int .i64) w A1 l1.length l1) (hc1 : l1.length ≤ c1) (h : epitomeref15_SameRow.f k l0 l1 = some r) :
  Calls Tryd.prog 76 #[.slice A0 l0.length c0, .slice A1 l1.length c1] w fun e w' => e = .returned (.bool r) ∧ Drawn0 w w' := by
 have HR0 := am hr0
 have HC0 := am hc0
 clear hr0 hc0
 have HR1 := am hr1
 have HC1 := am hc1
 clear hr1 hc1
 have H : (if (l0.length : Int) = (l1.length : Int) then (epitomeref15_SameRow.l0 k l0 l1 0) else (some false)) = some r := h
 clear h
 by_cases c3 : (l0.length : Int) = (l1.length : Int)
 ·rw [if_pos c3] at H
  have c3b0 : ((l0.length : Int) == (l1.length : Int)) = true := beq_iff_eq.mpr c3
  have c3b1 : ((l0.length : Int) != (l1.length : Int)) = false := bne_eq_false_iff_eq.mpr c3
  have c3b2 : (l0.length == l1.length) = true := by first | simpa using c3 | (simp at c3 ⊢; omega)
  clear c3
  have H' := am H
  clear H
  go_enter Tryd.func76, Tryd.ntmps76
  go_wp2
  repeat (go_quiet (fail); try go_wp2)
  go_loopg [5] k (fun kq v5 w' => ∃ (x5_1 : Int), v5 = .int .i64 x5_1 ∧ Aside0 (epitomeref15_SameRow.l0 kq l0 l1 x5_1 = some r) ∧ Aside0 (kq ≤ k) ∧ Drawn0 w w')
  case atStart => exact ⟨(0), pj, H', ⟨Nat.le_refl _⟩, by repeat (first | exact Drawn0.refl _ | apply Drawn0.step)⟩
  case round =>
   clear H'
   try clear c1
   try clear p2
   try clear c3
   try clear c3b0
   try clear c3b1
   try clear c3b2
   obtain ⟨x5_1, rfl, HA, HK1, ⟨m1, rfl⟩⟩ := hrel
   cases gk with
   | zero => exact absurd HA.out (by simp [epitomeref15_SameRow.l0])
   | succ k1 =>
    have H := HA.out
    clear HA
    simp only [epitomeref15_SameRow.l0] at H
    by_cases c4 : x5_1 < (l0.length : Int)
    ·rw [if_pos c4] at H
     have c4b0 : decide (x5_1 < (l0.length : Int)) = true := decide_eq_true c4
     clear c4
     by_cases c5 : 0 ≤ x5_1
     ·rw [if_pos c5] at H
      have c5b0 : decide (0 ≤ x5_1) = true := decide_eq_true c5
      clear c5
      by_cases c6 : x5_1 < (l1.length : Int)
      ·rw [if_pos c6] at H
       have c6b0 : decide (x5_1 < (l1.length : Int)) = true := decide_eq_true c6
       clear c6
       by_cases c7 : (rd l0 x5_1) = (rd l1 x5_1)
       ·rw [if_pos c7] at H
        have c7b0 : ((rd l0 x5_1) == (rd l1 x5_1)) = true := beq_iff_eq.mpr c7
        have c7b1 : ((rd l0 x5_1) != (rd l1 x5_1)) = false := bne_eq_false_iff_eq.mpr c7
        clear c7
        have H' := am H
        clear H
        have p364 : 0 ≤ (x5_1 : Int) := of_decide_eq_true as0
        have q364 : x5_1 < (l0.length : Int) := of_decide_eq_true as0
        obtain ⟨ad364, e364, hx364_0⟩ := Kd.at_int HR0.out x5_1 p364 q364
        cases e364
        replace p364 := eq_true p364
        replace q364 := eq_true q364
        have p365 : 0 ≤ (x5_1 : Int) := of_decide_eq_true as0
        have q365 : x5_1 < (l1.length : Int) := of_decide_eq_true as0
        obtain ⟨ad365, e365, hx365_0⟩ := Kd.at_int HR1.out x5_1 p365 q365
        cases e365
        replace p365 := eq_true p365
        replace q365 := eq_true q365
        go_wp2
        repeat (go_quiet (fail); try go_wp2)
        go_roundg k1
        case measure => have := HK1.out; omega
        case rel => exact ⟨(wrap64 (x5_1 + 1)), pj, H', ⟨by have := HK1.out; omega⟩, by repeat (first | exact Drawn0.refl _ | apply Drawn0.step)⟩
       ·rw [if_neg c7] at H
        have c7b0 : ((rd l0 x5_1) == (rd l1 x5_1)) = false := beq_eq_false_iff_ne.mpr c7
        have c7b1 : ((rd l0 x5_1) != (rd l1 x5_1)) = true := bne_iff_ne.mpr c7
        obtain rfl := Option.some.inj H
        simp only [Option.some.injEq, Prod.mk.injEq] at H
        obtain ⟨rfl⟩ := H
        have p364 : 0 ≤ (x5_1 : Int) := of_decide_eq_true as0
        have q364 : x5_1 < (l0.length : Int) := of_decide_eq_true as0
        obtain ⟨ad364, e364, hx364_0⟩ := Kd.at_int HR0.out x5_1 p364 q364
        cases e364
        replace p364 := eq_true p364
        replace q364 := eq_true q364
        have p365 : 0 ≤ (x5_1 : Int) := of_decide_eq_true as0
        have q365 : x5_1 < (l1.length : Int) := of_decide_eq_true as0
        obtain ⟨ad365, e365, hx365_0⟩ := Kd.at_int HR1.out x5_1 p365 q365
        cases e365
        replace p365 := eq_true p365
        replace q365 := eq_true q365
        go_wp2
        repeat (go_quiet (fail); try go_wp2)
        go_ret
        exact ⟨pj, by repeat (first | exact Drawn0.refl _ | apply Drawn0.step)⟩
      ·rw [if_neg c6] at H
       exact absurd H (by simp)
     ·rw [if_neg c5] at H
      exact absurd H (by simp)
    ·rw [if_neg c4] at H
     have c4b0 : decide (x5_1 < (l0.length : Int)) = false := decide_eq_false c4
     clear c4
     obtain rfl := Option.some.inj H
     simp only [Option.some.injEq, Prod.mk.injEq] at H
     obtain ⟨rfl⟩ := H
     go_wp2
     repeat (go_quiet (fail); try go_wp2)
     go_ret
     exact ⟨pj, by repeat (first | exact Drawn0.refl _ | apply Drawn0.step)⟩
 ·rw [if_neg c3] at H
  have c3b0 : ((l0.length : Int) == (l1.length : Int)) = false := beq_eq_false_iff_ne.mpr c3
  have c3b1 : ((l0.length : Int) != (l1.length : Int)) = true := bne_iff_ne.mpr c3
  have c3b2 : (l0.length == l1.length) = false := by first | simpa using c3 | (simp at c3 ⊢; omega)
  obtain rfl := Option.some.inj H
  simp only [Option.some.injEq, Prod.mk.injEq] at H
  obtain ⟨rfl⟩ := H
  go_enter Tryd.func76, Tryd.ntmps76
  go_wp2
  repeat (go_quiet (fail); try go_wp2)
  go_ret
  exact ⟨pj, by repeat (first | exact Drawn0.refl _ | apply Drawn0.step)⟩
mutual
def epitomeref16_Same.j0 : Nat → Bool → ByteArray → List Int → List (List (S25)) → ByteArray → List Int → List (List (S25)) → Option (Bool)
 | 0, _, _, _, _, _, _, _ => none
 | k + 1, x27, x367000, x367001, x367002, x368000, x368001, x368002 => if x27 = true then (some false) else (epitomeref16_Same.l0 k 0 x367000 x367001 x367002 x368000 x368001 x368002)
def epitomeref16_Same.l0 : Nat → Int → ByteArray → List Int → List (List (S25)) → ByteArray → List Int → List (List (S25)) → Option (Bool)
 | 0, _, _, _, _, _, _, _ => none
 | k + 1, x5, x367000, x367001, x367002, x368000, x368001, x368002 => if x5 < (x367002.length : Int) then (if 0 ≤ x5 then (if x5 < (x368002.length : Int) then ((epitomeref04_Same.f k (rd_L3 x367002 x5) (rd_L3 x368002 x5)).bind fun t371 => (if t371 = true then (epitomeref16_Same.l0 k (wrap64 (x5 + 1)) x367000 x367001 x367002 x368000 x368001 x368002) else (some false))) else (none)) else (none)) else (some true)
end
def epitomeref16_Same.f (k : Nat) (a0_0 : ByteArray) (l0_1 : List Int) (l0_2 : List (List (S25))) (a1_0 : ByteArray) (l1_1 : List Int) (l1_2 : List (List (S25))) : Option (Bool) := if a0_0.toList = a1_0.toList then (if (l0_2.length : Int) = (l1_2.length : Int) then ((epitomeref15_SameRow.f k l0_1 l1_1).bind fun t368 => (epitomeref16_Same.j0 k (!t368) a0_0 l0_1 l0_2 a1_0 l1_1 l1_2)) else (epitomeref16_Same.j0 k true a0_0 l0_1 l0_2 a1_0 l1_1 l1_2)) else (epitomeref16_Same.j0 k true a0_0 l0_1 l0_2 a1_0 l1_1 l1_2)
set_option maxHeartbeats 8000000 in
set_option maxRecDepth 100000 in
theorem epitomeref16_Same.calls (k : Nat) (a0_0 : ByteArray) (A0_1 : Option Addr) (c0_1 : Nat) (l0_1 : List Int) (A0_2 : Option Addr) (c0_2 : Nat) (l0_2 : List (List (S25))) (a1_0 : ByteArray) (A1_1 : Option Addr) (c1_1 : Nat) (l1_1 : List Int) (A1_2 : Option Addr) (c1_2 : Nat) (l1_2 : List (List (S25))) (r : Bool) (w : World) (hr0_1 : Kd.C (Kd.int .i64) w A0_1 l0_1.length l0_1) (hc0_1 : l0_1.length ≤ c0_1) (hr0_2 : Kd.C (Kd.slice 25 k25) w A0_2 l0_2.length l0_2) (hc0_2 : l0_2.length ≤ c0_2) (hr1_1 : Kd.C (Kd.int .i64) w A1_1 l1_1.length l1_1) (hc1_1 : l1_1.length ≤ c1_1) (hr1_2 : Kd.C (Kd.slice 25 k25) w A1_2 l1_2.length l1_2) (hc1_2 : l1_2.length ≤ c1_2) (h : epitomeref16_Same.f k a0_0 l0_1 l0_2 a1_0 l1_1 l1_2 = some r) :
  Calls Tryd.prog 38 #[.agg #[.string a0_0, .slice A0_1 l0_1.length c0_1, .slice A0_2 l0_2.length c0_2], .agg #[.string a1_0, .slice A1_1 l1_1.length c1_1, .slice A1_2 l1_2.length c1_2]] w fun e w' => e = .returned (.bool r) ∧ Below w.heap.size w w' := by
 have hu42 := Tryd.underlying42
 have HR0_1 := am hr0_1
 have HC0_1 := am hc0_1
 clear hr0_1 hc0_1
 have HR0_2 := am hr0_2
 have HC0_2 := am hc0_2
 clear hr0_2 hc0_2
 have HR1_1 := am hr1_1
 have HC1_1 := am hc1_1
 clear hr1_1 hc1_1
 have HR1_2 := am hr1_2
 have HC1_2 := am hc1_2
 clear hr1_2 hc1_2
 have HB := am (Below.refl w.heap.size w)
 have H : (if a0_0.toList = a1_0.toList then (if (l0_2.length : Int) = (l1_2.length : Int) then ((epitomeref15_SameRow.f k l0_1 l1_1).bind fun t368 => (epitomeref16_Same.j0 k (!t368) a0_0 l0_1 l0_2 a1_0 l1_1 l1_2)) else (epitomeref16_Same.j0 k true a0_0 l0_1 l0_2 a1_0 l1_1 l1_2)) else (epitomeref16_Same.j0 k true a0_0 l0_1 l0_2 a1_0 l1_1 l1_2)) = some r := h
 clear h
 have HC3 := am H
 clear H
 go_enter Tryd.func38, Tryd.ntmps38
 go_upto_region 1 with (first | ((with_reducible refine gate_dst (N := 2) rfl ?_); (try (refine gate_guard (by rfl) ?_; dsimp only)); refine box_event ?hg (N := 2) ?hd (cs := #[.string a0_0, .slice A0_1 l0_1.length c0_1, .slice A0_2 l0_2.length c0_2]) (t := 42) ?hr ?_; (case hd => rfl); (case hg => rfl); (case hr => first | (go_simp; done) | (go_simp; rfl)); intro gb366 hg w4 hbox hb; have n0_ := am (below_step bl hb); have n1_ := am (hbox); have n2_ := am ((gs : w.heap.size ≤ gb366)); have n3_ := am ((gs : w.heap.size ≤ gb366)); clear HB; have HB := n0_; have BK366 := n1_; have GW366 := n2_; have GE366 := n3_; clear n0_ n1_ n2_ n3_; clear hb hbox hg) | ((with_reducible refine gate_dst (N := 3) rfl ?_); (try (refine gate_guard (by rfl) ?_; dsimp only)); refine box_event ?hg (N := 3) ?hd (cs := #[.string a1_0, .slice A1_1 l1_1.length c1_1, .slice A1_2 l1_2.length c1_2]) (t := 42) ?hr ?_; (case hd => rfl); (case hg => rfl); (case hr => first | (go_simp; done) | (go_simp; rfl)); intro gb367 hg w5 hbox hb; have n0_ := am (blk_below (g := gb366) (o := .cells #[.string a0_0, .slice A0_1 l0_1.length c0_1, .slice A0_2 l0_2.length c0_2] 42 (0, 0)) (by refine bk ?_; exact BK366.out) hb); have n1_ := am (below_step bl hb); have n2_ := am (hbox); have n3_ := am ((gs : w.heap.size ≤ gb367)); have n4_ := am ((gs : w.heap.size ≤ gb367)); have n5_ := am ((by rw [hg]; exact Nat.ne_of_lt (blk_lt (g := gb366) (o := .cells #[.string a0_0, .slice A0_1 l0_1.length c0_1, .slice A0_2 l0_2.length c0_2] 42 (0, 0)) (by refine bk ?_; exact BK366.out)) : gb366 ≠ gb367)); have n6_ := am ((by rw [hg]; exact Nat.ne_of_gt (blk_lt (g := gb366) (o := .cells #[.string a0_0, .slice A0_1 l0_1.length c0_1, .slice A0_2 l0_2.length c0_2] 42 (0, 0)) (by refine bk ?_; exact BK366.out)) : gb367 ≠ gb366)); clear BK366; clear HB; have BK366 := n0_; have HB := n1_; have BK367 := n2_; have GW367 := n3_; have GE367 := n4_; have NB366_367 := n5_; have NB367_366 := n6_; clear n0_ n1_ n2_ n3_ n4_ n5_ n6_; clear hb hbox hg))
 repeat (go_quiet (first | ((with_reducible refine gate_dst (N := 2) rfl ?_); (try (refine gate_guard (by rfl) ?_; dsimp only)); refine box_event ?hg (N := 2) ?hd (cs := #[.string a0_0, .slice A0_1 l0_1.length c0_1, .slice A0_2 l0_2.length c0_2]) (t := 42) ?hr ?_; (case hd => rfl); (case hg => rfl); (case hr => first | (go_simp; done) | (go_simp; rfl)); intro gb366 hg w4 hbox hb; have n0_ := am (below_step bl hb); have n1_ := am (hbox); have n2_ := am ((gs : w.heap.size ≤ gb366)); have n3_ := am ((gs : w.heap.size ≤ gb366)); clear HB; have HB := n0_; have BK366 := n1_; have GW366 := n2_; have GE366 := n3_; clear n0_ n1_ n2_ n3_; clear hb hbox hg) | ((with_reducible refine gate_dst (N := 3) rfl ?_); (try (refine gate_guard (by rfl) ?_; dsimp only)); refine box_event ?hg (N := 3) ?hd (cs := #[.string a1_0, .slice A1_1 l1_1.length c1_1, .slice A1_2 l1_2.length c1_2]) (t := 42) ?hr ?_; (case hd => rfl); (case hg => rfl); (case hr => first | (go_simp; done) | (go_simp; rfl)); intro gb367 hg w5 hbox hb; have n0_ := am (blk_below (g := gb366) (o := .cells #[.string a0_0, .slice A0_1 l0_1.length c0_1, .slice A0_2 l0_2.length c0_2] 42 (0, 0)) (by refine bk ?_; exact BK366.out) hb); have n1_ := am (below_step bl hb); have n2_ := am (hbox); have n3_ := am ((gs : w.heap.size ≤ gb367)); have n4_ := am ((gs : w.heap.size ≤ gb367)); have n5_ := am ((by rw [hg]; exact Nat.ne_of_lt (blk_lt (g := gb366) (o := .cells #[.string a0_0, .slice A0_1 l0_1.length c0_1, .slice A0_2 l0_2.length c0_2] 42 (0, 0)) (by refine bk ?_; exact BK366.out)) : gb366 ≠ gb367)); have n6_ := am ((by rw [hg]; exact Nat.ne_of_gt (blk_lt (g := gb366) (o := .cells #[.string a0_0, .slice A0_1 l0_1.length c0_1, .slice A0_2 l0_2.length c0_2] 42 (0, 0)) (by refine bk ?_; exact BK366.out)) : gb367 ≠ gb366)); clear BK366; clear HB; have BK366 := n0_; have HB := n1_; have BK367 := n2_; have GW367 := n3_; have GE367 := n4_; have NB366_367 := n5_; have NB367_366 := n6_; clear n0_ n1_ n2_ n3_ n4_ n5_ n6_; clear hb hbox hg)); go_upto_region 1 with (first | ((with_reducible refine gate_dst (N := 2) rfl ?_); (try (refine gate_guard (by rfl) ?_; dsimp only)); refine box_event ?hg (N := 2) ?hd (cs := #[.string a0_0, .slice A0_1 l0_1.length c0_1, .slice A0_2 l0_2.length c0_2]) (t := 42) ?hr ?_; (case hd => rfl); (case hg => rfl); (case hr => first | (go_simp; done) | (go_simp; rfl)); intro gb366 hg w4 hbox hb; have n0_ := am (below_step bl hb); have n1_ := am (hbox); have n2_ := am ((gs : w.heap.size ≤ gb366)); have n3_ := am ((gs : w.heap.size ≤ gb366)); clear HB; have HB := n0_; have BK366 := n1_; have GW366 := n2_; have GE366 := n3_; clear n0_ n1_ n2_ n3_; clear hb hbox hg) | ((with_reducible refine gate_dst (N := 3) rfl ?_); (try (refine gate_guard (by rfl) ?_; dsimp only)); refine box_event ?hg (N := 3) ?hd (cs := #[.string a1_0, .slice A1_1 l1_1.length c1_1, .slice A1_2 l1_2.length c1_2]) (t := 42) ?hr ?_; (case hd => rfl); (case hg => rfl); (case hr => first | (go_simp; done) | (go_simp; rfl)); intro gb367 hg w5 hbox hb; have n0_ := am (blk_below (g := gb366) (o := .cells #[.string a0_0, .slice A0_1 l0_1.length c0_1, .slice A0_2 l0_2.length c0_2] 42 (0, 0)) (by refine bk ?_; exact BK366.out) hb); have n1_ := am (below_step bl hb); have n2_ := am (hbox); have n3_ := am ((gs : w.heap.size ≤ gb367)); have n4_ := am ((gs : w.heap.size ≤ gb367)); have n5_ := am ((by rw [hg]; exact Nat.ne_of_lt (blk_lt (g := gb366) (o := .cells #[.string a0_0, .slice A0_1 l0_1.length c0_1, .slice A0_2 l0_2.length c0_2] 42 (0, 0)) (by refine bk ?_; exact BK366.out)) : gb366 ≠ gb367)); have n6_ := am ((by rw [hg]; exact Nat.ne_of_gt (blk_lt (g := gb366) (o := .cells #[.string a0_0, .slice A0_1 l0_1.length c0_1, .slice A0_2 l0_2.length c0_2] 42 (0, 0)) (by refine bk ?_; exact BK366.out)) : gb367 ≠ gb366)); clear BK366; clear HB; have BK366 := n0_; have HB := n1_; have BK367 := n2_; have GW367 := n3_; have GE367 := n4_; have NB366_367 := n5_; have NB367_366 := n6_; clear n0_ n1_ n2_ n3_ n4_ n5_ n6_; clear hb hbox hg)))
 (try simp only [Act.put, List.setIfInBounds_toArray, List.set_cons_zero, List.set_cons_succ])
 go_cut [27] (fun v27 wc => ∃ (kq : Nat) (x27_2 : Bool), v27 = .bool x27_2 ∧ Aside0 (epitomeref16_Same.j0 kq x27_2 a0_0 l0_1 l0_2 a1_0 l1_1 l1_2 = some r) ∧ Aside0 (kq ≤ k) ∧ Aside0 (wc.heap[gb366]? = some (.cells #[.string a0_0, (.slice A0_1 l0_1.length c0_1), (.slice A0_2 l0_2.length c0_2)] 42 (0, 0))) ∧ Aside0 (wc.heap[gb367]? = some (.cells #[.string a1_0, (.slice A1_1 l1_1.length c1_1), (.slice A1_2 l1_2.length c1_2)] 42 (0, 0))) ∧ Aside0 (Below w.heap.size w wc))
 case first =>
  have H := HC3.out
  clear HC3
  by_cases c6 : a0_0.toList = a1_0.toList
  ·rw [if_pos c6] at H
   have c6b0 : (a0_0.toList == a1_0.toList) = true := beq_iff_eq.mpr c6
   have c6b1 : (a0_0.toList != a1_0.toList) = false := bne_eq_false_iff_eq.mpr c6
   clear c6
   (first | rw [c6b0] | (simp only [i64_w, i32_w]; rw [c6b0]) | skip)
   by_cases c7 : (l0_2.length : Int) = (l1_2.length : Int)
   ·rw [if_pos c7] at H
    have c7b0 : ((l0_2.length : Int) == (l1_2.length : Int)) = true := beq_iff_eq.mpr c7
    have c7b1 : ((l0_2.length : Int) != (l1_2.length : Int)) = false := bne_eq_false_iff_eq.mpr c7
    have c7b2 : (l0_2.length == l1_2.length) = true := by first | simpa using c7 | (simp at c7 ⊢; omega)
    clear c7
    replace H := Option.bind_eq_some_iff.mp H
    obtain ⟨t368, A80, H⟩ := H
    replace H : (epitomeref16_Same.j0 k (!t368) a0_0 l0_1 l0_2 a1_0 l1_1 l1_2) = some r := H
    have A8 := am A80
    clear A80
    have H' := am H
    clear H
    have hnb9 := NB366_367.out
    have hnc9 := NB367_366.out
    have hcz10_0 : w5.cell? ⟨gb366, 0, none⟩ = some (.string a0_0) := (blk_cell BK366.out 0).trans rfl
    have hcz10_1 : w5.cell? ⟨gb366, 1, none⟩ = some (.slice A0_1 l0_1.length c0_1) := (blk_cell BK366.out 1).trans rfl
    have hcz10_2 : w5.cell? ⟨gb366, 2, none⟩ = some (.slice A0_2 l0_2.length c0_2) := (blk_cell BK366.out 2).trans rfl
    have hfz10_0 := blk_frozen BK366.out 0
    have hfz10_1 := blk_frozen BK366.out 1
    have hfz10_2 := blk_frozen BK366.out 2
    have hcz11_0 : w5.cell? ⟨gb367, 0, none⟩ = some (.string a1_0) := (blk_cell BK367.out 0).trans rfl
    have hcz11_1 : w5.cell? ⟨gb367, 1, none⟩ = some (.slice A1_1 l1_1.length c1_1) := (blk_cell BK367.out 1).trans rfl
    have hcz11_2 : w5.cell? ⟨gb367, 2, none⟩ = some (.slice A1_2 l1_2.length c1_2) := (blk_cell BK367.out 2).trans rfl
    have hfz11_0 := blk_frozen BK367.out 0
    have hfz11_1 := blk_frozen BK367.out 1
    have hfz11_2 := blk_frozen BK367.out 2
    go_wp2_with (first | (go_at_call 76; (with_reducible refine (epitomeref15_SameRow.calls k _ _ l0_1 _ _ l1_1 t368 _ ?side1 ?side2 ?side3 ?side4 A8.out).mono ?_); (case side1 => repeat (first | exact (Kd.C_below HR0_1.out HB.out) | (with_reducible refine Kd.C_alloc ?_ _) | (with_reducible refine Kd.C_drewN ?_ _) | (with_reducible refine Kd.C_drew ?_))); (case side2 => exact HC0_1.out); (case side3 => repeat (first | exact (Kd.C_below HR1_1.out HB.out) | (with_reducible refine Kd.C_alloc ?_ _) | (with_reducible refine Kd.C_drewN ?_ _) | (with_reducible refine Kd.C_drew ?_))); (case side4 => exact HC1_1.out); rintro e w' ⟨rfl, ⟨nd, rfl⟩⟩; (try first | exact ⟨rfl, _, World.drewN_drewN _ _ _⟩ | exact ⟨rfl, _, Eq.trans (World.drewN_drewN _ _ _) (congrArg (World.drewN _) (Nat.add_assoc _ _ _))⟩)))
    repeat (go_quiet (first | (go_at_call 76; (with_reducible refine (epitomeref15_SameRow.calls k _ _ l0_1 _ _ l1_1 t368 _ ?side1 ?side2 ?side3 ?side4 A8.out).mono ?_); (case side1 => repeat (first | exact (Kd.C_below HR0_1.out HB.out) | (with_reducible refine Kd.C_alloc ?_ _) | (with_reducible refine Kd.C_drewN ?_ _) | (with_reducible refine Kd.C_drew ?_))); (case side2 => exact HC0_1.out); (case side3 => repeat (first | exact (Kd.C_below HR1_1.out HB.out) | (with_reducible refine Kd.C_alloc ?_ _) | (with_reducible refine Kd.C_drewN ?_ _) | (with_reducible refine Kd.C_drew ?_))); (case side4 => exact HC1_1.out); rintro e w' ⟨rfl, ⟨nd, rfl⟩⟩; (try first | exact ⟨rfl, _, World.drewN_drewN _ _ _⟩ | exact ⟨rfl, _, Eq.trans (World.drewN_drewN _ _ _) (congrArg (World.drewN _) (Nat.add_assoc _ _ _))⟩))); try go_wp2_with (first | (go_at_call 76; (with_reducible refine (epitomeref15_SameRow.calls k _ _ l0_1 _ _ l1_1 t368 _ ?side1 ?side2 ?side3 ?side4 A8.out).mono ?_); (case side1 => repeat (first | exact (Kd.C_below HR0_1.out HB.out) | (with_reducible refine Kd.C_alloc ?_ _) | (with_reducible refine Kd.C_drewN ?_ _) | (with_reducible refine Kd.C_drew ?_))); (case side2 => exact HC0_1.out); (case side3 => repeat (first | exact (Kd.C_below HR1_1.out HB.out) | (with_reducible refine Kd.C_alloc ?_ _) | (with_reducible refine Kd.C_drewN ?_ _) | (with_reducible refine Kd.C_drew ?_))); (case side4 => exact HC1_1.out); rintro e w' ⟨rfl, ⟨nd, rfl⟩⟩; (try first | exact ⟨rfl, _, World.drewN_drewN _ _ _⟩ | exact ⟨rfl, _, Eq.trans (World.drewN_drewN _ _ _) (congrArg (World.drewN _) (Nat.add_assoc _ _ _))⟩))))
    go_meet
    case rel => exact ⟨_, (!t368), pj, H', ⟨by first | omega | exact Nat.le_refl _⟩, ⟨by refine bk ?_; exact BK366.out⟩, ⟨by refine bk ?_; exact BK367.out⟩, ⟨bl⟩⟩
   ·rw [if_neg c7] at H
    have c7b0 : ((l0_2.length : Int) == (l1_2.length : Int)) = false := beq_eq_false_iff_ne.mpr c7
    have c7b1 : ((l0_2.length : Int) != (l1_2.length : Int)) = true := bne_iff_ne.mpr c7
    have c7b2 : (l0_2.length == l1_2.length) = false := by first | simpa using c7 | (simp at c7 ⊢; omega)
    have H' := am H
    clear H
    have hnb12 := NB366_367.out
    have hnc12 := NB367_366.out
    have hcz13_0 : w5.cell? ⟨gb366, 0, none⟩ = some (.string a0_0) := (blk_cell BK366.out 0).trans rfl
    have hcz13_1 : w5.cell? ⟨gb366, 1, none⟩ = some (.slice A0_1 l0_1.length c0_1) := (blk_cell BK366.out 1).trans rfl
    have hcz13_2 : w5.cell? ⟨gb366, 2, none⟩ = some (.slice A0_2 l0_2.length c0_2) := (blk_cell BK366.out 2).trans rfl
    have hfz13_0 := blk_frozen BK366.out 0
    have hfz13_1 := blk_frozen BK366.out 1
    have hfz13_2 := blk_frozen BK366.out 2
    have hcz14_0 : w5.cell? ⟨gb367, 0, none⟩ = some (.string a1_0) := (blk_cell BK367.out 0).trans rfl
    have hcz14_1 : w5.cell? ⟨gb367, 1, none⟩ = some (.slice A1_1 l1_1.length c1_1) := (blk_cell BK367.out 1).trans rfl
    have hcz14_2 : w5.cell? ⟨gb367, 2, none⟩ = some (.slice A1_2 l1_2.length c1_2) := (blk_cell BK367.out 2).trans rfl
    have hfz14_0 := blk_frozen BK367.out 0
    have hfz14_1 := blk_frozen BK367.out 1
    have hfz14_2 := blk_frozen BK367.out 2
    go_wp2
    repeat (go_quiet (fail); try go_wp2)
    go_meet
    case rel => exact ⟨_, (true), pj, H', ⟨by first | omega | exact Nat.le_refl _⟩, ⟨by refine bk ?_; exact BK366.out⟩, ⟨by refine bk ?_; exact BK367.out⟩, ⟨bl⟩⟩
  ·rw [if_neg c6] at H
   have c6b0 : (a0_0.toList == a1_0.toList) = false := beq_eq_false_iff_ne.mpr c6
   have c6b1 : (a0_0.toList != a1_0.toList) = true := bne_iff_ne.mpr c6
   (first | rw [c6b0] | (simp only [i64_w, i32_w]; rw [c6b0]) | skip)
   have H' := am H
   clear H
   have hnb15 := NB366_367.out
   have hnc15 := NB367_366.out
   have hcz16_0 : w5.cell? ⟨gb366, 0, none⟩ = some (.string a0_0) := (blk_cell BK366.out 0).trans rfl
   have hcz16_1 : w5.cell? ⟨gb366, 1, none⟩ = some (.slice A0_1 l0_1.length c0_1) := (blk_cell BK366.out 1).trans rfl
   have hcz16_2 : w5.cell? ⟨gb366, 2, none⟩ = some (.slice A0_2 l0_2.length c0_2) := (blk_cell BK366.out 2).trans rfl
   have hfz16_0 := blk_frozen BK366.out 0
   have hfz16_1 := blk_frozen BK366.out 1
   have hfz16_2 := blk_frozen BK366.out 2
   have hcz17_0 : w5.cell? ⟨gb367, 0, none⟩ = some (.string a1_0) := (blk_cell BK367.out 0).trans rfl
   have hcz17_1 : w5.cell? ⟨gb367, 1, none⟩ = some (.slice A1_1 l1_1.length c1_1) := (blk_cell BK367.out 1).trans rfl
   have hcz17_2 : w5.cell? ⟨gb367, 2, none⟩ = some (.slice A1_2 l1_2.length c1_2) := (blk_cell BK367.out 2).trans rfl
   have hfz17_0 := blk_frozen BK367.out 0
   have hfz17_1 := blk_frozen BK367.out 1
   have hfz17_2 := blk_frozen BK367.out 2
   go_wp2
   repeat (go_quiet (fail); try go_wp2)
   go_meet
   case rel => exact ⟨_, (true), pj, H', ⟨by first | omega | exact Nat.le_refl _⟩, ⟨by refine bk ?_; exact BK366.out⟩, ⟨by refine bk ?_; exact BK367.out⟩, ⟨bl⟩⟩
 case rest =>
  clear HC3
  try clear c1
  try clear p2
  try clear c3
  try clear c6
  try clear c6b0
  try clear c6b1
  try clear c7
  try clear c7b0
  try clear c7b1
  try clear c7b2
  try clear c9
  try clear c12
  try clear c15
  try clear hcz10_0
  try clear hcz10_1
  try clear hcz10_2
  try clear hcz11_0
  try clear hcz11_1
  try clear hcz11_2
  try clear hcz13_0
  try clear hcz13_1
  try clear hcz13_2
  try clear hcz14_0
  try clear hcz14_1
  try clear hcz14_2
  try clear hcz16_0
  try clear hcz16_1
  try clear hcz16_2
  try clear hcz17_0
  try clear hcz17_1
  try clear hcz17_2
  try clear hfz10_0
  try clear hfz10_1
  try clear hfz10_2
  try clear hfz11_0
  try clear hfz11_1
  try clear hfz11_2
  try clear hfz13_0
  try clear hfz13_1
  try clear hfz13_2
  try clear hfz14_0
  try clear hfz14_1
  try clear hfz14_2
  try clear hfz16_0
  try clear hfz16_1
  try clear hfz16_2
  try clear hfz17_0
  try clear hfz17_1
  try clear hfz17_2
  obtain ⟨kq, x27_2, rfl, HA, HJ2, BK366, BK367, HB⟩ := hcut
  cases kq with
  | zero => exact absurd HA.out (by simp [epitomeref16_Same.j0])
  | succ kj2 =>
   have H := HA.out
   clear HA
   simp only [epitomeref16_Same.j0] at H
   by_cases c18 : x27_2 = true
   ·subst c18
    have H1 : (some false) = some r := by rw [if_pos rfl] at H; exact H
    clear H
    have H := H1
    clear H1
    obtain rfl := Option.some.inj H
    simp only [Option.some.injEq, Prod.mk.injEq] at H
    obtain ⟨rfl⟩ := H
    go_wp2
    repeat (go_quiet (fail); try go_wp2)
    go_ret
    exact ⟨by first | rfl | (simp [errW_none, errW_some] <;> rfl) | (simp [*, errW_none, errW_some] <;> rfl), bl⟩
   ·replace c18 := Bool.eq_false_iff.mpr c18
    subst c18
    have H1 : (epitomeref16_Same.l0 kj2 0 a0_0 l0_1 l0_2 a1_0 l1_1 l1_2) = some r := by rw [if_neg (show ¬ (false = true) by decide)] at H; exact H
    clear H
    have H := H1
    clear H1
    have H' := am H
    clear H
    go_wp2
    repeat (go_quiet (fail); try go_wp2)
    go_loopg [5] kj2 (fun kq v5 w' => ∃ (x5_2 : Int), v5 = .int .i64 x5_2 ∧ Aside0 (epitomeref16_Same.l0 kq x5_2 a0_0 l0_1 l0_2 a1_0 l1_1 l1_2 = some r) ∧ Aside0 (kq ≤ kj2) ∧ Aside0 (w'.heap[gb366]? = some (.cells #[.string a0_0, (.slice A0_1 l0_1.length c0_1), (.slice A0_2 l0_2.length c0_2)] 42 (0, 0))) ∧ Aside0 (w'.heap[gb367]? = some (.cells #[.string a1_0, (.slice A1_1 l1_1.length c1_1), (.slice A1_2 l1_2.length c1_2)] 42 (0, 0))) ∧ Aside0 (Below w.heap.size w w'))
    case atStart => exact ⟨(0), pj, H', ⟨Nat.le_refl _⟩, ⟨by refine bk ?_; exact BK366.out⟩, ⟨by refine bk ?_; exact BK367.out⟩, ⟨bl⟩⟩
    case round =>
     clear H'
     try clear c1
     try clear p2
     try clear c3
     try clear c6
     try clear c6b0
     try clear c6b1
     try clear c7
     try clear c7b0
     try clear c7b1
     try clear c7b2
     try clear c9
     try clear c12
     try clear c15
     try clear c18
     try clear hcz10_0
     try clear hcz10_1
     try clear hcz10_2
     try clear hcz11_0
     try clear hcz11_1
     try clear hcz11_2
     try clear hcz13_0
     try clear hcz13_1
     try clear hcz13_2
     try clear hcz14_0
     try clear hcz14_1
     try clear hcz14_2
     try clear hcz16_0
     try clear hcz16_1
     try clear hcz16_2
     try clear hcz17_0
     try clear hcz17_1
     try clear hcz17_2
     try clear hfz10_0
     try clear hfz10_1
     try clear hfz10_2
     try clear hfz11_0
     try clear hfz11_1
     try clear hfz11_2
     try clear hfz13_0
     try clear hfz13_1
     try clear hfz13_2
     try clear hfz14_0
     try clear hfz14_1
     try clear hfz14_2
     try clear hfz16_0
     try clear hfz16_1
     try clear hfz16_2
     try clear hfz17_0
     try clear hfz17_1
     try clear hfz17_2
     try clear p2
     obtain ⟨x5_2, rfl, HA, HK2, BK366, BK367, HB⟩ := hrel
     cases gk with
     | zero => exact absurd HA.out (by simp [epitomeref16_Same.l0])
     | succ k2 =>
      have H := HA.out
      clear HA
      simp only [epitomeref16_Same.l0] at H
      by_cases c19 : x5_2 < (l0_2.length : Int)
      ·rw [if_pos c19] at H
       have c19b0 : decide (x5_2 < (l0_2.length : Int)) = true := decide_eq_true c19
       clear c19
       by_cases c20 : 0 ≤ x5_2
       ·rw [if_pos c20] at H
        have c20b0 : decide (0 ≤ x5_2) = true := decide_eq_true c20
        clear c20
        by_cases c21 : x5_2 < (l1_2.length : Int)
        ·rw [if_pos c21] at H
         have c21b0 : decide (x5_2 < (l1_2.length : Int)) = true := decide_eq_true c21
         clear c21
         replace H := Option.bind_eq_some_iff.mp H
         obtain ⟨t371, A220, H⟩ := H
         replace H : (if t371 = true then (epitomeref16_Same.l0 k2 (wrap64 (x5_2 + 1)) a0_0 l0_1 l0_2 a1_0 l1_1 l1_2) else (some false)) = some r := H
         have A22 := am A220
         clear A220
         by_cases c23 : t371 = true
         ·subst c23
          have H1 : (epitomeref16_Same.l0 k2 (wrap64 (x5_2 + 1)) a0_0 l0_1 l0_2 a1_0 l1_1 l1_2) = some r := by rw [if_pos rfl] at H; exact H
          clear H
          have H := H1
          clear H1
          have H' := am H
          clear H
          have hnb24 := NB366_367.out
          have hnc24 := NB367_366.out
          have hcz25_0 : wr.cell? ⟨gb366, 0, none⟩ = some (.string a0_0) := (blk_cell BK366.out 0).trans rfl
          have hcz25_1 : wr.cell? ⟨gb366, 1, none⟩ = some (.slice A0_1 l0_1.length c0_1) := (blk_cell BK366.out 1).trans rfl
          have hcz25_2 : wr.cell? ⟨gb366, 2, none⟩ = some (.slice A0_2 l0_2.length c0_2) := (blk_cell BK366.out 2).trans rfl
          have hfz25_0 := blk_frozen BK366.out 0
          have hfz25_1 := blk_frozen BK366.out 1
          have hfz25_2 := blk_frozen BK366.out 2
          have p369 : 0 ≤ (x5_2 : Int) := of_decide_eq_true as0
          have q369 : x5_2 < (l0_2.length : Int) := of_decide_eq_true as0
          obtain ⟨ad369, A369_0, c369_0, e369, hx369_0, hl369_0, hi369_0⟩ := at_L3 HR0_2.out x5_2 p369 q369
          cases e369
          replace hx369_0 := (HB.out.cell (World.block_lt_of_cell? w _ hx369_0)).trans hx369_0
          have HR369_0 := am hi369_0
          have HC369_0 := am hl369_0
          clear hi369_0 hl369_0
          replace p369 := eq_true p369
          replace q369 := eq_true q369
          have hcz26_0 : wr.cell? ⟨gb367, 0, none⟩ = some (.string a1_0) := (blk_cell BK367.out 0).trans rfl
          have hcz26_1 : wr.cell? ⟨gb367, 1, none⟩ = some (.slice A1_1 l1_1.length c1_1) := (blk_cell BK367.out 1).trans rfl
          have hcz26_2 : wr.cell? ⟨gb367, 2, none⟩ = some (.slice A1_2 l1_2.length c1_2) := (blk_cell BK367.out 2).trans rfl
          have hfz26_0 := blk_frozen BK367.out 0
          have hfz26_1 := blk_frozen BK367.out 1
          have hfz26_2 := blk_frozen BK367.out 2
          have p370 : 0 ≤ (x5_2 : Int) := of_decide_eq_true as0
          have q370 : x5_2 < (l1_2.length : Int) := of_decide_eq_true as0
          obtain ⟨ad370, A370_0, c370_0, e370, hx370_0, hl370_0, hi370_0⟩ := at_L3 HR1_2.out x5_2 p370 q370
          cases e370
          replace hx370_0 := (HB.out.cell (World.block_lt_of_cell? w _ hx370_0)).trans hx370_0
          have HR370_0 := am hi370_0
          have HC370_0 := am hl370_0
          clear hi370_0 hl370_0
          replace p370 := eq_true p370
          replace q370 := eq_true q370
          go_wp2_with (first | (go_at_call 15; (with_reducible refine (epitomeref04_Same.calls k2 _ _ (rd_L3 l0_2 x5_2) _ _ (rd_L3 l1_2 x5_2) true _ ?side1 ?side2 ?side3 ?side4 A22.out).mono ?_); (case side1 => repeat (first | exact (Kd.C_below HR369_0.out HB.out) | (with_reducible refine Kd.C_alloc ?_ _) | (with_reducible refine Kd.C_drewN ?_ _) | (with_reducible refine Kd.C_drew ?_))); (case side2 => exact HC369_0.out); (case side3 => repeat (first | exact (Kd.C_below HR370_0.out HB.out) | (with_reducible refine Kd.C_alloc ?_ _) | (with_reducible refine Kd.C_drewN ?_ _) | (with_reducible refine Kd.C_drew ?_))); (case side4 => exact HC370_0.out); rintro e w' ⟨rfl, ⟨nd, rfl⟩⟩; (try first | exact ⟨rfl, _, World.drewN_drewN _ _ _⟩ | exact ⟨rfl, _, Eq.trans (World.drewN_drewN _ _ _) (congrArg (World.drewN _) (Nat.add_assoc _ _ _))⟩)))
          repeat (go_quiet (first | (go_at_call 15; (with_reducible refine (epitomeref04_Same.calls k2 _ _ (rd_L3 l0_2 x5_2) _ _ (rd_L3 l1_2 x5_2) true _ ?side1 ?side2 ?side3 ?side4 A22.out).mono ?_); (case side1 => repeat (first | exact (Kd.C_below HR369_0.out HB.out) | (with_reducible refine Kd.C_alloc ?_ _) | (with_reducible refine Kd.C_drewN ?_ _) | (with_reducible refine Kd.C_drew ?_))); (case side2 => exact HC369_0.out); (case side3 => repeat (first | exact (Kd.C_below HR370_0.out HB.out) | (with_reducible refine Kd.C_alloc ?_ _) | (with_reducible refine Kd.C_drewN ?_ _) | (with_reducible refine Kd.C_drew ?_))); (case side4 => exact HC370_0.out); rintro e w' ⟨rfl, ⟨nd, rfl⟩⟩; (try first | exact ⟨rfl, _, World.drewN_drewN _ _ _⟩ | exact ⟨rfl, _, Eq.trans (World.drewN_drewN _ _ _) (congrArg (World.drewN _) (Nat.add_assoc _ _ _))⟩))); try go_wp2_with (first | (go_at_call 15; (with_reducible refine (epitomeref04_Same.calls k2 _ _ (rd_L3 l0_2 x5_2) _ _ (rd_L3 l1_2 x5_2) true _ ?side1 ?side2 ?side3 ?side4 A22.out).mono ?_); (case side1 => repeat (first | exact (Kd.C_below HR369_0.out HB.out) | (with_reducible refine Kd.C_alloc ?_ _) | (with_reducible refine Kd.C_drewN ?_ _) | (with_reducible refine Kd.C_drew ?_))); (case side2 => exact HC369_0.out); (case side3 => repeat (first | exact (Kd.C_below HR370_0.out HB.out) | (with_reducible refine Kd.C_alloc ?_ _) | (with_reducible refine Kd.C_drewN ?_ _) | (with_reducible refine Kd.C_drew ?_))); (case side4 => exact HC370_0.out); rintro e w' ⟨rfl, ⟨nd, rfl⟩⟩; (try first | exact ⟨rfl, _, World.drewN_drewN _ _ _⟩ | exact ⟨rfl, _, Eq.trans (World.drewN_drewN _ _ _) (congrArg (World.drewN _) (Nat.add_assoc _ _ _))⟩))))
          go_roundg k2
          case measure => have := HJ2.out; have := HK2.out; omega
          case rel => exact ⟨(wrap64 (x5_2 + 1)), pj, H', ⟨by have := HJ2.out; have := HK2.out; omega⟩, ⟨by refine bk ?_; exact BK366.out⟩, ⟨by refine bk ?_; exact BK367.out⟩, ⟨bl⟩⟩
         ·replace c23 := Bool.eq_false_iff.mpr c23
          subst c23
          have H1 : (some false) = some r := by rw [if_neg (show ¬ (false = true) by decide)] at H; exact H
          clear H
          have H := H1
          clear H1
          obtain rfl := Option.some.inj H
          simp only [Option.some.injEq, Prod.mk.injEq] at H
          obtain ⟨rfl⟩ := H
          have hnb27 := NB366_367.out
          have hnc27 := NB367_366.out
          have hcz28_0 : wr.cell? ⟨gb366, 0, none⟩ = some (.string a0_0) := (blk_cell BK366.out 0).trans rfl
          have hcz28_1 : wr.cell? ⟨gb366, 1, none⟩ = some (.slice A0_1 l0_1.length c0_1) := (blk_cell BK366.out 1).trans rfl
          have hcz28_2 : wr.cell? ⟨gb366, 2, none⟩ = some (.slice A0_2 l0_2.length c0_2) := (blk_cell BK366.out 2).trans rfl
          have hfz28_0 := blk_frozen BK366.out 0
          have hfz28_1 := blk_frozen BK366.out 1
          have hfz28_2 := blk_frozen BK366.out 2
          have p369 : 0 ≤ (x5_2 : Int) := of_decide_eq_true as0
          have q369 : x5_2 < (l0_2.length : Int) := of_decide_eq_true as0
          obtain ⟨ad369, A369_0, c369_0, e369, hx369_0, hl369_0, hi369_0⟩ := at_L3 HR0_2.out x5_2 p369 q369
          cases e369
          replace hx369_0 := (HB.out.cell (World.block_lt_of_cell? w _ hx369_0)).trans hx369_0
          have HR369_0 := am hi369_0
          have HC369_0 := am hl369_0
          clear hi369_0 hl369_0
          replace p369 := eq_true p369
          replace q369 := eq_true q369
          have hcz29_0 : wr.cell? ⟨gb367, 0, none⟩ = some (.string a1_0) := (blk_cell BK367.out 0).trans rfl
          have hcz29_1 : wr.cell? ⟨gb367, 1, none⟩ = some (.slice A1_1 l1_1.length c1_1) := (blk_cell BK367.out 1).trans rfl
          have hcz29_2 : wr.cell? ⟨gb367, 2, none⟩ = some (.slice A1_2 l1_2.length c1_2) := (blk_cell BK367.out 2).trans rfl
          have hfz29_0 := blk_frozen BK367.out 0
          have hfz29_1 := blk_frozen BK367.out 1
          have hfz29_2 := blk_frozen BK367.out 2
          have p370 : 0 ≤ (x5_2 : Int) := of_decide_eq_true as0
          have q370 : x5_2 < (l1_2.length : Int) := of_decide_eq_true as0
          obtain ⟨ad370, A370_0, c370_0, e370, hx370_0, hl370_0, hi370_0⟩ := at_L3 HR1_2.out x5_2 p370 q370
          cases e370
          replace hx370_0 := (HB.out.cell (World.block_lt_of_cell? w _ hx370_0)).trans hx370_0
          have HR370_0 := am hi370_0
          have HC370_0 := am hl370_0
          clear hi370_0 hl370_0
          replace p370 := eq_true p370
          replace q370 := eq_true q370
          go_wp2_with (first | (go_at_call 15; (with_reducible refine (epitomeref04_Same.calls k2 _ _ (rd_L3 l0_2 x5_2) _ _ (rd_L3 l1_2 x5_2) false _ ?side1 ?side2 ?side3 ?side4 A22.out).mono ?_); (case side1 => repeat (first | exact (Kd.C_below HR369_0.out HB.out) | (with_reducible refine Kd.C_alloc ?_ _) | (with_reducible refine Kd.C_drewN ?_ _) | (with_reducible refine Kd.C_drew ?_))); (case side2 => exact HC369_0.out); (case side3 => repeat (first | exact (Kd.C_below HR370_0.out HB.out) | (with_reducible refine Kd.C_alloc ?_ _) | (with_reducible refine Kd.C_drewN ?_ _) | (with_reducible refine Kd.C_drew ?_))); (case side4 => exact HC370_0.out); rintro e w' ⟨rfl, ⟨nd, rfl⟩⟩; (try first | exact ⟨rfl, _, World.drewN_drewN _ _ _⟩ | exact ⟨rfl, _, Eq.trans (World.drewN_drewN _ _ _) (congrArg (World.drewN _) (Nat.add_assoc _ _ _))⟩)))
          repeat (go_quiet (first | (go_at_call 15; (with_reducible refine (epitomeref04_Same.calls k2 _ _ (rd_L3 l0_2 x5_2) _ _ (rd_L3 l1_2 x5_2) false _ ?side1 ?side2 ?side3 ?side4 A22.out).mono ?_); (case side1 => repeat (first | exact (Kd.C_below HR369_0.out HB.out) | (with_reducible refine Kd.C_alloc ?_ _) | (with_reducible refine Kd.C_drewN ?_ _) | (with_reducible refine Kd.C_drew ?_))); (case side2 => exact HC369_0.out); (case side3 => repeat (first | exact (Kd.C_below HR370_0.out HB.out) | (with_reducible refine Kd.C_alloc ?_ _) | (with_reducible refine Kd.C_drewN ?_ _) | (with_reducible refine Kd.C_drew ?_))); (case side4 => exact HC370_0.out); rintro e w' ⟨rfl, ⟨nd, rfl⟩⟩; (try first | exact ⟨rfl, _, World.drewN_drewN _ _ _⟩ | exact ⟨rfl, _, Eq.trans (World.drewN_drewN _ _ _) (congrArg (World.drewN _) (Nat.add_assoc _ _ _))⟩))); try go_wp2_with (first | (go_at_call 15; (with_reducible refine (epitomeref04_Same.calls k2 _ _ (rd_L3 l0_2 x5_2) _ _ (rd_L3 l1_2 x5_2) false _ ?side1 ?side2 ?side3 ?side4 A22.out).mono ?_); (case side1 => repeat (first | exact (Kd.C_below HR369_0.out HB.out) | (with_reducible refine Kd.C_alloc ?_ _) | (with_reducible refine Kd.C_drewN ?_ _) | (with_reducible refine Kd.C_drew ?_))); (case side2 => exact HC369_0.out); (case side3 => repeat (first | exact (Kd.C_below HR370_0.out HB.out) | (with_reducible refine Kd.C_alloc ?_ _) | (with_reducible refine Kd.C_drewN ?_ _) | (with_reducible refine Kd.C_drew ?_))); (case side4 => exact HC370_0.out); rintro e w' ⟨rfl, ⟨nd, rfl⟩⟩; (try first | exact ⟨rfl, _, World.drewN_drewN _ _ _⟩ | exact ⟨rfl, _, Eq.trans (World.drewN_drewN _ _ _) (congrArg (World.drewN _) (Nat.add_assoc _ _ _))⟩))))
          go_ret
          exact ⟨by first | rfl | (simp [errW_none, errW_some] <;> rfl) | (simp [*, errW_none, errW_some] <;> rfl), bl⟩
        ·rw [if_neg c21] at H
         exact absurd H (by simp)
       ·rw [if_neg c20] at H
        exact absurd H (by simp)
      ·rw [if_neg c19] at H
       have c19b0 : decide (x5_2 < (l0_2.length : Int)) = false := decide_eq_false c19
       clear c19
       obtain rfl := Option.some.inj H
       simp only [Option.some.injEq, Prod.mk.injEq] at H
       obtain ⟨rfl⟩ := H
       have hnb30 := NB366_367.out
       have hnc30 := NB367_366.out
       have hcz31_0 : wr.cell? ⟨gb366, 0, none⟩ = some (.string a0_0) := (blk_cell BK366.out 0).trans rfl
       have hcz31_1 : wr.cell? ⟨gb366, 1, none⟩ = some (.slice A0_1 l0_1.length c0_1) := (blk_cell BK366.out 1).trans rfl
       have hcz31_2 : wr.cell? ⟨gb366, 2, none⟩ = some (.slice A0_2 l0_2.length c0_2) := (blk_cell BK366.out 2).trans rfl
       have hfz31_0 := blk_frozen BK366.out 0
       have hfz31_1 := blk_frozen BK366.out 1
       have hfz31_2 := blk_frozen BK366.out 2
       go_wp2
       repeat (go_quiet (fail); try go_wp2)
       go_ret
       exact ⟨by first | rfl | (simp [errW_none, errW_some] <;> rfl) | (simp [*, errW_none, errW_some] <;> rfl), bl⟩
section
variable {ops : Array Oper} {rest : List Oper} {o : Oper} {a : Act} {Q : Exit → Act → World → Prop} {W : World}
theorem runes_conv' (base : Nat) (hgd : o.guard = none) (x : Operand) (ho : o.op = .convert 9 87 x) (s : ByteArray) (hx : a.eval x = .string s) (hs : s.size ≤ 70368744177664) (hbase : base ≤ W.heap.size)
  (h : ∀ v w1, Kd.R (Kd.int .i32) 21 w1 base (fun k => W.heap.size ≤ k) v (runesS s) → Below W.heap.size W w1 → W.heap.size < w1.heap.size → wpList Tryd.prog ops Q rest (a.put o.dst v) w1) : wpList Tryd.prog ops Q (o :: rest) a W := by
 have hl : (runesS s).length ≤ s.size := runesP_len s s.size 0
 have hsz : (Conv.runesFrom s s.size 0 #[]).size = (runesS s).length := by rw [runesS_eq]; simp
 have hr := run_runes_of_string (P := Tryd.prog) W 9 87 21 s Tryd.underlying9 Tryd.underlying87 Tryd.underlying21 (by rw [hsz]; omega)
 rw [hsz] at hr
 have hge := grownCap_ge W (runesS s).length 0 21
 have hle := grownCap_le_maxLen W (runesS s).length 0 21 (by unfold maxLen; omega)
 generalize grownCap W (runesS s).length 0 21 = cap at hr hge hle
 rw [runesS_eq] at hr
 have hb : Below W.heap.size W (W.drew.alloc (.cells (((runesS s).map (Value.int .i32)).toArray ++ Array.replicate (cap - (runesS s).length) (.int .i32 0)) 21)) := below_alloc (below_drew (Below.refl _ _)) _
 refine wpList_plain hgd fun K hK => ?_
 unfold Oper.wp execOp
 simp only [ho, hx, Sem.run_bind, Sem.run_pure, Result.andThen_ok, hr]
 refine hK _ _ (h _ _ ?_ hb ?_)
 ·refine Kd.R_of_own (h1 := fun _ => rfl) ?_ (fun k hk => ?_)
  ·refine ⟨by rw [encs_length]; omega, .inr ⟨W.heap.size, cap, _, rfl, hbase, heap_alloc_new _ _, by omega, hle, ?_, ?_⟩⟩
   ·simp; omega
   ·simp [encs]
  ·simp [Value.ownBlock] at hk; omega
 ·show W.heap.size < (W.heap.push _).size
  rw [Array.size_push]; omega
end
def apply_To.l : List S25 → List Int → List Int → Option (List Int)
 | [], _, out => some out
 | x :: l, rest, out => if 0 ≤ x.f1 ∧ x.f1 ≤ (rest.length : Int) ∧ out.length < 1000000000 ∧ x.f2.size < 1000000000 ∧ rest.length < 1000000000 then (if x.f0 = 2 then apply_To.l l (rest.drop x.f1.toNat) (out ++ runesS x.f2) else if x.f0 = 1 then apply_To.l l (rest.drop x.f1.toNat) (out ++ rest.take x.f1.toNat) else apply_To.l l (rest.drop x.f1.toNat) out) else none
def apply_To.f (k : Nat) (l0 : List S25) (a1 : ByteArray) : Option (ByteArray × Int) :=
 (op_May.f k l0).bind fun e => if e = 0 then (points_Count.f a1).bind fun n => (if n < 0 then some ((⟨#[]⟩ : ByteArray), 3) else (op_In.f l0).bind fun m => (if n = m then (if a1.size ≤ 70368744177664 ∧ l0.length < 1000000000 then (apply_To.l l0 (runesS a1) []).bind fun o => some (runesBytes o, 0) else none) else some ((⟨#[]⟩ : ByteArray), 5))) else some ((⟨#[]⟩ : ByteArray), e)
def AT (w0 W : World) (B : Nat) (vr vo : Value) (rest out : List Int) : Prop :=
 Kd.Q (Kd.int .i32) 21 W w0.heap.size (fun k => k = B) vr rest ∧ Kd.R (Kd.int .i32) 21 W w0.heap.size (fun k => k ≠ B) vo out ∧ Below w0.heap.size w0 W ∧ B < W.heap.size
theorem AT_below {w0 W W1 : World} {B : Nat} {vr vo : Value} {rest out : List Int} (h : AT w0 W B vr vo rest out) (hb : Below W.heap.size W W1) : AT w0 W1 B vr vo rest out :=
 ⟨Kd.Q_below h.1 hb, Kd.R_below h.2.1 hb, below_then h.2.2.1 h.2.2.1.size hb, Nat.lt_of_lt_of_le h.2.2.2 hb.size⟩
theorem AT_app {w0 W W1 : World} {B : Nat} {vr vo vo1 : Value} {rest out out1 : List Int} (h : AT w0 W B vr vo rest out) (hO : Kd.R (Kd.int .i32) 21 W1 w0.heap.size (fun k => k ≠ B) vo1 out1) (hB : Below w0.heap.size w0 W1) (hg : W.grownBy W1 vo.ownBlock) : AT w0 W1 B vr vo1 rest out1 :=
 ⟨Kd.Q_grown h.1 hg (fun k hk e => h.2.1.1 k e.symm hk), hO, hB, Nat.lt_of_lt_of_le h.2.2.2 hg.size⟩
theorem AT_cut {w0 W : World} {B n : Nat} {A : Option Addr} {c : Nat} {vo : Value} {rest out : List Int} (h : AT w0 W B (.slice A rest.length c) vo rest out) (hn : n ≤ rest.length) : ∃ (A3 : Option Addr) (c3 : Nat), (∀ W', (Instr.slice 87 (.slice A rest.length c) (some (.int .i64 (n : Int))) none none).run Tryd.prog W' = .ok (.slice A3 (rest.length - n) c3) W') ∧ AT w0 W B (.slice A3 (rest.length - n) c3) vo (rest.drop n) out := by
 obtain ⟨i0, hi0, _, hsz, _⟩ := info_parts info21
 have h1 := cut_from (P := Tryd.prog) 87 21 .i64 Tryd.underlying87 hi0 1 hsz A rest.length c (n : Int) (by omega) (by omega)
 rw [Int.toNat_natCast] at h1
 have h2 := Kd.Q_drop (k := n) h.1 hn
 exact ⟨_, _, h1, h2, h.2⟩
theorem apply_To.next (l : List S25) (j : Nat) (h : j < l.length) : l.drop j = rd_T25 l (j : Int) :: l.drop (j + 1) := op_sum.next l j h
theorem apply_To.start {w0 w w1 : World} {v : Value} {s : List Int} (hO : Kd.R (Kd.int .i32) 21 w1 w0.heap.size (fun k => w.heap.size ≤ k) v s) (hB : Below w0.heap.size w0 w) (hb : Below w.heap.size w w1) (hlt : w.heap.size < w1.heap.size) : AT w0 w1 ((v.ownBlock).getD w.heap.size) v (.slice none 0 0) s [] := by
 refine ⟨Kd.Q_mono (Kd.Q_tight rfl (Kd.Q_of_R hO)) (fun k e => by rw [← e]; rfl), Kd.R_nil _ _ _ _ _, below_then hB hB.size hb, ?_⟩
 cases hv : v.ownBlock with
 | none => exact hlt
 | some b => exact Kd.Q_lt (Kd.Q_of_R hO) b hv
theorem apply_To.big {n : Nat} (h : n < 1000000000) : n ≤ 70368744177664 := by omega
theorem apply_To.fresh {w0 W : World} {B : Nat} {vr vo : Value} {rest out : List Int} (h : AT w0 W B vr vo rest out) : ∀ k, W.heap.size ≤ k → k ≠ B := by
 have := h.2.2.2
 intro k hk; omega
theorem apply_To.room2 {a : Nat} {s : ByteArray} (h1 : a < 1000000000) (h2 : s.size < 1000000000) : (a + (runesS s).length) * 4 ≤ 140737488355328 := by
 have := runesP_len s s.size 0
 unfold runesS
 omega
theorem apply_To.room3 {a n : Nat} {l : List Int} (h1 : a < 1000000000) (h2 : l.length < 1000000000) (h3 : n ≤ l.length) : (a + n) * 4 ≤ 140737488355328 := by omega
theorem fuse_Of.wrap' {j n : Nat} (h : j < n) (hn : n < 1000000000) : wrap64 ((j : Int) + 1) = ((j + 1 : Nat) : Int) := by unfold wrap64; omega
theorem apply_To.head {w0 W : World} {B n : Nat} {A : Option Addr} {c : Nat} {vo : Value} {rest out : List Int} (h : AT w0 W B (.slice A rest.length c) vo rest out) (hn : n ≤ rest.length) : Kd.C (Kd.int .i32) W A n (rest.take n) := by
 have h2 := Kd.Q_take (m := n) h.1 hn
 have h3 := Kd.Q_reads' h2
 have e : (rest.take n).length = n := by rw [List.length_take]; omega
 rw [e] at h3
 exact h3.2.2
theorem apply_To.same {w0 W : World} {B n : Nat} {A A3 A6 : Option Addr} {c c3 c6 : Nat} {vo : Value} {rest out : List Int}
  (h3 : ∀ W', (Instr.slice 87 (.slice A rest.length c) (some (.int .i64 (n : Int))) none none).run Tryd.prog W' = .ok (.slice A3 (rest.length - n) c3) W')
  (h6 : ∀ W', (Instr.slice 87 (.slice A rest.length c) (some (.int .i64 (n : Int))) none none).run Tryd.prog W' = .ok (.slice A6 (rest.length - n) c6) W')
  (h : AT w0 W B (.slice A6 (rest.length - n) c6) vo (rest.drop n) out) : AT w0 W B (.slice A3 (rest.length - n) c3) vo (rest.drop n) out := by
 have e := (h3 W).symm.trans (h6 W)
 injection e with e1 _
 injection e1 with e1 _ e2
 rw [e1, e2]; exact h
theorem apply_To.ne {w0 W : World} {B : Nat} {vr vo : Value} {rest out : List Int} (h : AT w0 W B vr vo rest out) : some W.heap.size ≠ vo.ownBlock := fun e => by
 have := Kd.Q_lt (Kd.Q_of_R h.2.1) _ e.symm
 omega
set_option maxHeartbeats 8000000 in
set_option maxRecDepth 100000 in
theorem apply_To.calls (k : Nat) (A0 : Option Addr) (c0 : Nat) (l0 : List S25) (a1 : ByteArray) (r1 : ByteArray) (r2 : Int) (w : World) (hr0 : Kd.C k25 w A0 l0.length l0) (hc0 : l0.length ≤ c0) (hT : Tabs w) (h : apply_To.f k l0 a1 = some (r1, r2)) :
  Calls Tryd.prog 50 #[.slice A0 l0.length c0, .string a1] w fun e w' => e = .returned (.tuple #[.string r1, .int .i64 r2]) ∧ Below w.heap.size w w' := by
 unfold apply_To.f at h
 obtain ⟨e0, he0, h⟩ := Option.bind_eq_some_iff.mp h
 have HR0 := am hr0; have HC0 := am hc0; have HT := am hT; have HE0 := am he0
 clear hr0 hc0 hT he0
 by_cases z0 : e0 = 0
 ·rw [if_pos z0] at h
  subst z0
  obtain ⟨n, hn, h⟩ := Option.bind_eq_some_iff.mp h
  have HN := am hn
  clear hn
  by_cases z1 : n < 0
  ·rw [if_pos z1] at h
   simp only [Option.some.injEq, Prod.mk.injEq] at h
   obtain ⟨rfl, rfl⟩ := h
   have z1b : decide (n < 0) = true := decide_eq_true z1
   clear z1
   go_enter Tryd.func50, Tryd.ntmps50
   go_wp2_with (first | (go_at_call 46; (with_reducible refine (op_May.calls k A0 c0 l0 0 _ HR0.out HC0.out HT.out HE0.out).mono ?_); rintro e w1 ⟨rfl, hb⟩; have HB1 := am hb; clear hb) | (go_at_call 10; (with_reducible refine (points_Count.calls a1 n _ (Tabs.below HT.out HB1.out) HN.out).mono ?_); rintro e w2 ⟨rfl, hb⟩; have HB2 := am (below_then HB1.out HB1.out.size hb); clear hb))
   go_ret2
   exact ⟨rfl, HB2.out⟩
  ·rw [if_neg z1] at h
   have z1b : decide (n < 0) = false := decide_eq_false z1
   clear z1
   obtain ⟨m, hm, h⟩ := Option.bind_eq_some_iff.mp h
   have HM := am hm
   clear hm
   by_cases z2 : n = m
   ·rw [if_pos z2] at h
    have z2b : (n != m) = false := bne_eq_false_iff_eq.mpr z2
    clear z2
    by_cases z3 : a1.size ≤ 70368744177664 ∧ l0.length < 1000000000
    ·rw [if_pos z3] at h
     obtain ⟨o, ho, h⟩ := Option.bind_eq_some_iff.mp h
     simp only [Option.some.injEq, Prod.mk.injEq] at h
     obtain ⟨rfl, rfl⟩ := h
     have HZ3 := am z3; have H := am ho
     clear z3 ho
     go_enter Tryd.func50, Tryd.ntmps50
     go_wp2_with (first | (go_at_call 46; (with_reducible refine (op_May.calls k A0 c0 l0 0 _ HR0.out HC0.out HT.out HE0.out).mono ?_); rintro e w1 ⟨rfl, hb⟩; have HB1 := am hb; clear hb) | (go_at_call 10; (with_reducible refine (points_Count.calls a1 n _ (Tabs.below HT.out HB1.out) HN.out).mono ?_); rintro e w2 ⟨rfl, hb⟩; have HB2 := am (below_then HB1.out HB1.out.size hb); clear hb) | (go_at_call 20; (with_reducible refine (op_In.calls A0 c0 l0 m _ (Kd.C_below HR0.out HB2.out) HC0.out (Tabs.below HT.out HB2.out) HM.out).mono ?_); rintro e w3 ⟨rfl, hb⟩; have HB3 := am (below_then HB2.out HB2.out.size hb); clear hb) | ((with_reducible refine gate_dst (N := 28) rfl ?_); refine runes_conv' w.heap.size rfl (.tmp 27) rfl a1 rfl HZ3.out.1 HB3.out.size ?_; intro v4 w4 ho hb hlt; have HAT := am (apply_To.start ho HB3.out hb hlt); clear ho hb hlt))
     go_loopw [8, 9, 11, 31] (fun v8 v9 _ v31 wr => ∃ j : Nat, v31 = .int .i64 j ∧ j ≤ l0.length ∧ ∃ (B : Nat) (rest out : List Int), Aside0 (apply_To.l (l0.drop j) rest out = some o) ∧ Aside0 (AT w wr B v8 v9 rest out)) (fun _ _ _ v31 _ => l0.length - (intOf v31).toNat)
     case atStart => exact ⟨0, rfl, Nat.zero_le _, _, _, _, H, HAT⟩
     case round =>
      clear H HAT
      obtain ⟨j, rfl, hj, B, rst, out, HA, HAT⟩ := hrel
      obtain ⟨Ar, cr, rfl, hcr⟩ := Kd.Q_slice HAT.out.1
      obtain ⟨Ao, co, rfl, hco, _⟩ := Kd.R_reads HAT.out.2.1
      by_cases hlt : j < l0.length
      ·have hltb : decide ((j : Int) < (l0.length : Int)) = true := decide_eq_true (by omega)
       have HL := am hlt
       have h := HA.out
       clear HA
       rw [apply_To.next l0 j hlt] at h
       obtain ⟨ad, rfl, hx0, hx1, hx2⟩ := at_T25 (Kd.C_below HR0.out HAT.out.2.2.1) (j : Int) (by omega) (by omega)
       rw [Int.toNat_natCast] at hx0 hx1 hx2
       have p1 : (0 ≤ (j : Int)) = True := eq_true (by omega)
       have p2 : ((j : Int) < (l0.length : Int)) = True := eq_true (by omega)
       have p3 : (j < l0.length) = True := eq_true hlt
       have ew := fuse_Of.wrap' hlt HZ3.out.2
       clear hlt hj
       generalize rd_T25 l0 (j : Int) = x at *
       rw [apply_To.l] at h
       by_cases g : 0 ≤ x.f1 ∧ x.f1 ≤ (rst.length : Int) ∧ out.length < 1000000000 ∧ x.f2.size < 1000000000 ∧ rst.length < 1000000000
       ·rw [if_pos g] at h
        obtain ⟨f0, f1, f2⟩ := x
        dsimp only at g h hx0 hx1 hx2
        obtain ⟨nn, rfl⟩ := Int.eq_ofNat_of_zero_le g.1
        rw [Int.toNat_natCast] at h
        have hnn : nn ≤ rst.length := by omega
        obtain ⟨A3, c3, hcut3, hAT3⟩ := AT_cut HAT.out hnn
        have HG := am g; have HNN := am hnn
        clear g hAT3
        by_cases k2 : f0 = 2
        ·subst k2
         rw [if_pos rfl] at h
         have HE := am h
         clear h
         go_wp2_with (first | ((with_reducible refine gate_dst (N := 42) rfl ?_); refine runes_conv' w.heap.size rfl (.tmp 41) rfl f2 rfl (apply_To.big HG.out.2.2.2.1) (below_alloc HAT.out.2.2.1 _).size ?_; intro v4 w4 ho hb hlt; obtain ⟨A4, c4, rfl, hc4, hC4⟩ := Kd.R_reads ho; have HC4 := am hC4; have HAT4 := am (AT_below (AT_below HAT.out (below_alloc (Below.refl _ _) _)) hb); have HXB := am (blk_below (heap_alloc_new wr _) hb); clear ho hb hlt hc4 hC4) | ((with_reducible refine gate_builtin (b := .append) (xs := #[.tmp 39, .tmp 42]) rfl ?_); at_builtin; refine Kd.R_append_rows (Kd.int .i32) (w0 := w) w.heap.size rfl (.tmp 39) (.tmp 42) 87 21 (.int .i32 0) 4 rfl Tryd.underlying87 info21 rfl (by decide) (by omega) (.slice Ao out.length co) out (runesS f2) _ _ _ (fun k_ => k_ ≠ B) (fun _ => False) rfl rfl ?aO ?aR (fun _ _ h => h) (fun _ h => h.elim) ?aF ?aB ?aS ?aL ?_; (case aR => exact HC4.out); (case aB => exact HAT4.out.2.2.1); (case aF => exact apply_To.fresh HAT4.out); (case aO => exact HAT4.out.2.1); (case aS => exact HAT4.out.2.2.1.size); (case aL => exact apply_To.room2 HG.out.2.2.1 HG.out.2.2.2.1); intro v5 w5 ho hb hg hat; have HAT5 := am (AT_app HAT4.out ho hb hg); obtain ⟨y0, y1, y2⟩ := compose_Of.cells (blk_grown HXB.out hg (apply_To.ne HAT.out)); clear ho hb hg hat))
         go_round
         case measure => exact op_sum.less HL.out ew
         case rel =>
          obtain ⟨A6, c6, hcut6, hAT6⟩ := AT_cut HAT5.out HNN.out
          exact ⟨j + 1, by rw [ew], HL.out, B, rst.drop nn, _, HE, ⟨apply_To.same hcut3 hcut6 hAT6⟩⟩
        ·rw [if_neg k2] at h
         have k2b : (f0 == 2) = false := beq_eq_false_iff_ne.mpr k2
         clear k2
         by_cases k1 : f0 = 1
         ·subst k1
          rw [if_pos rfl] at h
          have HE := am h
          clear h
          obtain ⟨i0, hi0, _, hsz, _⟩ := info_parts info21
          have hcut7 := cut_to (P := Tryd.prog) 87 21 .i64 Tryd.underlying87 hi0 Ar rst.length cr (nn : Int) (by omega) (by omega) hcr
          rw [Int.toNat_natCast] at hcut7
          clear hi0 hsz
          have HCT := am (fun (o1 : Obj) => apply_To.head (AT_below HAT.out (below_alloc (Below.refl _ _) o1)) HNN.out)
          go_wp2_with ((with_reducible refine gate_builtin (b := .append) (xs := #[.tmp 46, .tmp 50]) rfl ?_); at_builtin; refine Kd.R_append_rows (Kd.int .i32) (w0 := w) w.heap.size rfl (.tmp 46) (.tmp 50) 87 21 (.int .i32 0) 4 rfl Tryd.underlying87 info21 rfl (by decide) (by omega) (.slice Ao out.length co) out (rst.take nn) Ar nn cr (fun k_ => k_ ≠ B) (fun _ => False) rfl rfl ?aO ?aR (fun _ _ h => h) (fun _ h => h.elim) ?aF ?aB ?aS ?aL ?_; (case aR => exact HCT.out _); (case aB => exact (AT_below HAT.out (below_alloc (Below.refl _ _) _)).2.2.1); (case aF => exact apply_To.fresh (AT_below HAT.out (below_alloc (Below.refl _ _) _))); (case aO => exact (AT_below HAT.out (below_alloc (Below.refl _ _) _)).2.1); (case aS => exact (AT_below HAT.out (below_alloc (Below.refl _ _) _)).2.2.1.size); (case aL => exact apply_To.room3 HG.out.2.2.1 HG.out.2.2.2.2 HNN.out); intro v5 w5 ho hb hg hat; have HAT5 := am (AT_app (AT_below HAT.out (below_alloc (Below.refl _ _) _)) ho hb hg); obtain ⟨y0, y1, y2⟩ := compose_Of.cells (blk_grown (heap_alloc_new wr _) hg (apply_To.ne HAT.out)); clear ho hb hg hat)
          go_round
          case measure => exact op_sum.less HL.out ew
          case rel =>
           obtain ⟨A6, c6, hcut6, hAT6⟩ := AT_cut HAT5.out HNN.out
           exact ⟨j + 1, by rw [ew], HL.out, B, rst.drop nn, _, HE, ⟨apply_To.same hcut3 hcut6 hAT6⟩⟩
         ·rw [if_neg k1] at h
          have k1b : (f0 == 1) = false := beq_eq_false_iff_ne.mpr k1
          clear k1
          have HE := am h
          clear h
          go_wp2
          go_round
          case measure => exact op_sum.less HL.out ew
          case rel =>
           obtain ⟨A6, c6, hcut6, hAT6⟩ := AT_cut (AT_below HAT.out (below_alloc (Below.refl _ _) _)) HNN.out
           exact ⟨j + 1, by rw [ew], HL.out, B, rst.drop nn, out, HE, ⟨apply_To.same hcut3 hcut6 hAT6⟩⟩
       ·rw [if_neg g] at h; cases h
      ·have hltb : decide ((j : Int) < (l0.length : Int)) = false := decide_eq_false (by omega)
       have h := HA.out
       clear HA
       rw [List.drop_of_length_le (by omega), apply_To.l] at h
       obtain rfl := Option.some.inj h
       have hcv := fun (m_ : Nat) => runes_str (Kd.Q_mono (Kd.Q_of_R HAT.out.2.1) (fun _ _ => trivial)) out.length (Nat.le_refl _) m_
       rw [List.take_length] at hcv
       have hcv0 := hcv 0
       have hcv1 : (convert 87 9 (.slice Ao out.length co)).run Tryd.prog wr = .ok (.string (runesBytes out)) wr := hcv 0
       go_wp2
       go_ret2
       exact ⟨rfl, by repeat (first | exact HAT.out.2.2.1 | apply pw_below_drewN)⟩
    ·rw [if_neg z3] at h; cases h
   ·rw [if_neg z2] at h
    simp only [Option.some.injEq, Prod.mk.injEq] at h
    obtain ⟨rfl, rfl⟩ := h
    have z2b : (n != m) = true := bne_iff_ne.mpr z2
    clear z2
    go_enter Tryd.func50, Tryd.ntmps50
    go_wp2_with (first | (go_at_call 46; (with_reducible refine (op_May.calls k A0 c0 l0 0 _ HR0.out HC0.out HT.out HE0.out).mono ?_); rintro e w1 ⟨rfl, hb⟩; have HB1 := am hb; clear hb) | (go_at_call 10; (with_reducible refine (points_Count.calls a1 n _ (Tabs.below HT.out HB1.out) HN.out).mono ?_); rintro e w2 ⟨rfl, hb⟩; have HB2 := am (below_then HB1.out HB1.out.size hb); clear hb) | (go_at_call 20; (with_reducible refine (op_In.calls A0 c0 l0 m _ (Kd.C_below HR0.out HB2.out) HC0.out (Tabs.below HT.out HB2.out) HM.out).mono ?_); rintro e w3 ⟨rfl, hb⟩; have HB3 := am (below_then HB2.out HB2.out.size hb); clear hb))
    go_ret2
    exact ⟨rfl, HB3.out⟩
 ·rw [if_neg z0] at h
  simp only [Option.some.injEq, Prod.mk.injEq] at h
  obtain ⟨rfl, rfl⟩ := h
  have z0b : (e0 != 0) = true := bne_iff_ne.mpr z0
  clear z0
  go_enter Tryd.func50, Tryd.ntmps50
  go_wp2_with (go_at_call 46; (with_reducible refine (op_May.calls k A0 c0 l0 e0 _ HR0.out HC0.out HT.out HE0.out).mono ?_); rintro e w1 ⟨rfl, hb⟩; have HB1 := am hb; clear hb)
  go_ret2
  exact ⟨rfl, HB1.out⟩
end Go.Proofs.YtegjegihcebimaaDoor.P
end
