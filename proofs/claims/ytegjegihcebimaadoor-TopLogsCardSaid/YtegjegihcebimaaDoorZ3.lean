/- Part 3 of the proof of topLogs_holds: out of the texts that this session's programs wrote, what the theorem reaches. -/
import Derived.Test.YtegjegihcebimaaDoorZ2
section
namespace Go.Proofs.YtegjegihcebimaaDoor.P
open Go.RowKit Go.Proofs.YtegjegihcebimaaDoorW.PrintWords Go.Proofs.YtegjegihcebimaaDoorW.PrintLast Go.Proofs.YtegjegihcebimaaDoorW.PrintMore
attribute [local go_sem] max2_int min2_int max_two min_two max_three min_three max_four min_four
set_option linter.unusedVariables false
set_option linter.unusedSimpArgs false
def epitomeref01_Of.l0 : Nat → List Int → List Int → Int → Option (ByteArray)
 | 0, _, _, _ => none
 | k + 1, x0, x3, x4 => if x4 < (x0.length : Int) then (if 0 ≤ x4 then ((epitomeref01_size.f k (wrap64 (rd x0 x4))).bind fun t199 => (if t199 = 1 then (if x3.length < 140737488355328 then (epitomeref01_Of.l0 k x0 (x3 ++ [(wrap64 (rd x0 x4)) % 256]) (wrap64 (x4 + 1))) else (none)) else (if t199 = 2 then ((some (([(wrap64 (192 + (wrap64 (Int.tdiv (wrap64 (rd x0 x4)) 64)))) % 256, (wrap64 (128 + (Int.tmod (wrap64 (rd x0 x4)) 64))) % 256] : List Int) : List Int)).bind fun y203 => (if x3.length + y203.length < 140737488355328 then (epitomeref01_Of.l0 k x0 (x3 ++ y203) (wrap64 (x4 + 1))) else (none))) else (if t199 = 3 then ((some (([(wrap64 (224 + (wrap64 (Int.tdiv (wrap64 (rd x0 x4)) 4096)))) % 256, (wrap64 (128 + (Int.tmod (wrap64 (Int.tdiv (wrap64 (rd x0 x4)) 64)) 64))) % 256, (wrap64 (128 + (Int.tmod (wrap64 (rd x0 x4)) 64))) % 256] : List Int) : List Int)).bind fun y209 => (if x3.length + y209.length < 140737488355328 then (epitomeref01_Of.l0 k x0 (x3 ++ y209) (wrap64 (x4 + 1))) else (none))) else (if t199 = 4 then ((some (([(wrap64 (240 + (wrap64 (Int.tdiv (wrap64 (rd x0 x4)) 262144)))) % 256, (wrap64 (128 + (Int.tmod (wrap64 (Int.tdiv (wrap64 (rd x0 x4)) 4096)) 64))) % 256, (wrap64 (128 + (Int.tmod (wrap64 (Int.tdiv (wrap64 (rd x0 x4)) 64)) 64))) % 256, (wrap64 (128 + (Int.tmod (wrap64 (rd x0 x4)) 64))) % 256] : List Int) : List Int)).bind fun y215 => (if x3.length + y215.length < 140737488355328 then (epitomeref01_Of.l0 k x0 (x3 ++ y215) (wrap64 (x4 + 1))) else (none))) else (epitomeref01_Of.l0 k x0 x3 (wrap64 (x4 + 1)))))))) else (none)) else (some (strOfNums x3))
def epitomeref01_Of.f (k : Nat) (l0 : List Int) : Option (ByteArray) := epitomeref01_Of.l0 k l0 (([] : List Int)) 0
set_option maxHeartbeats 8000000 in
set_option maxRecDepth 100000 in
theorem epitomeref01_Of.calls (k : Nat) (A0 : Option Addr) (c0 : Nat) (l0 : List Int) (r : ByteArray) (w : World) (hr0 : Kd.C (Kd.int .i32) w A0 l0.length l0) (hc0 : l0.length ≤ c0) (h : epitomeref01_Of.f k l0 = some r) :
  Calls Tryd.prog 40 #[.slice A0 l0.length c0] w fun e w' => e = .returned (.string r) ∧ Below w.heap.size w w' := by
 have HR0 := am hr0
 have HC0 := am hc0
 clear hr0 hc0
 have HB := am (Below.refl w.heap.size w)
 have H : (epitomeref01_Of.l0 k l0 (([] : List Int)) 0) = some r := h
 clear h
 obtain ⟨y195, hy195⟩ : ∃ y_ : List Int, y_ = (([] : List Int)) := ⟨_, rfl⟩
 replace H : (epitomeref01_Of.l0 k l0 y195 0) = some r := by first | (rw [hy195]; with_reducible exact H) | (have H2_ := (Option.bind_some _ _).symm.trans H; rw [hy195]; with_reducible exact H2_) | (have H2_ := (Option.bind_some _ _).symm.trans H; with_reducible exact H2_) | with_reducible exact H | (rw [hy195]; exact H) | exact H
 have Ny195 := am hy195
 clear hy195
 have H' := am H
 clear H
 go_enter Tryd.func40, Tryd.ntmps40
 go_wp2_with (first | ((with_reducible refine gate_dst (N := 6) rfl ?_); refine Kd.R_lit (Kd.int .u8) _ 5 ?hg (N := 6) ?hd (xs := ([] : List Int)) (inner := []) (ok := fun _ => True) (okp := fun _ => True) ?hr ?hp (fun _ hk => hk) trivial (Below.refl _ _) (Nat.le_refl _) (by simp) ?_; (case hd => rfl); (case hg => rfl); (case hr => first | (go_simp; done) | (go_simp; rfl)); (case hp => exact (Reps.none _ _)); intro v196 w2 ho3 hb hg_ hnew_; clear hg_ hnew_; (first | rw [← Ny195.out] at ho3 | (simp only [Int.reduceToNat] at ho3; rw [← Ny195.out] at ho3)); have n0_ := am (Kd.R_lower ho3 (below_size bl)); have n1_ := am (below_step bl hb); clear HB; have HO197 := n0_; have HB := n1_; clear n0_ n1_; clear hb ho3))
 go_loopg [3, 4] k (fun kq v3 v4 w' => ∃ (x3_1 : List Int) (x4_1 : Int), v4 = .int .i64 x4_1 ∧ Aside0 (epitomeref01_Of.l0 kq l0 x3_1 x4_1 = some r) ∧ Aside0 (kq ≤ k) ∧ Aside0 (Kd.R (Kd.int .u8) 5 w' w.heap.size (fun _ => True) v3 x3_1) ∧ Aside0 (Below w.heap.size w w'))
 case atStart => exact ⟨(y195), (0), pj, H', ⟨Nat.le_refl _⟩, ⟨by refine kR ?_; exact HO197.out⟩, ⟨bl⟩⟩
 case round =>
  clear H'
  try clear p2
  obtain ⟨x3_1, x4_1, rfl, HA, HK1, HO_3, HB⟩ := hrel
  cases gk with
  | zero => exact absurd HA.out (by simp [epitomeref01_Of.l0])
  | succ k1 =>
   have H := HA.out
   clear HA
   simp only [epitomeref01_Of.l0] at H
   by_cases c4 : x4_1 < (l0.length : Int)
   ·rw [if_pos c4] at H
    have c4b0 : decide (x4_1 < (l0.length : Int)) = true := decide_eq_true c4
    clear c4
    by_cases c5 : 0 ≤ x4_1
    ·rw [if_pos c5] at H
     have c5b0 : decide (0 ≤ x4_1) = true := decide_eq_true c5
     clear c5
     replace H := Option.bind_eq_some_iff.mp H
     obtain ⟨t199, A60, H⟩ := H
     try dsimp only at H
     have A6 := am A60
     clear A60
     by_cases c7 : t199 = 1
     ·rw [if_pos c7] at H
      have c7b0 : (t199 == 1) = true := beq_iff_eq.mpr c7
      have c7b1 : (t199 != 1) = false := bne_eq_false_iff_eq.mpr c7
      clear c7
      by_cases c8 : x3_1.length < 140737488355328
      ·rw [if_pos c8] at H
       have LMc8 := am c8
       clear c8
       obtain ⟨y200, hy200⟩ : ∃ y_ : List Int, y_ = (x3_1 ++ [(wrap64 (rd l0 x4_1)) % 256]) := ⟨_, rfl⟩
       replace H : (epitomeref01_Of.l0 k1 l0 y200 (wrap64 (x4_1 + 1))) = some r := by first | (rw [hy200]; with_reducible exact H) | (have H2_ := (Option.bind_some _ _).symm.trans H; rw [hy200]; with_reducible exact H2_) | (have H2_ := (Option.bind_some _ _).symm.trans H; with_reducible exact H2_) | with_reducible exact H | (rw [hy200]; exact H) | exact H
       have Ny200 := am hy200
       clear hy200
       have H' := am H
       clear H
       have p198 : 0 ≤ (x4_1 : Int) := of_decide_eq_true as0
       have q198 : x4_1 < (l0.length : Int) := of_decide_eq_true as0
       obtain ⟨ad198, e198, hx198_0⟩ := Kd.at_int HR0.out x4_1 p198 q198
       cases e198
       replace hx198_0 := (HB.out.cell (World.block_lt_of_cell? w _ hx198_0)).trans hx198_0
       replace p198 := eq_true p198
       replace q198 := eq_true q198
       go_wp2_with (first | ((with_reducible refine gate_callee (f := 77) rfl ?_); refine goesL_ (some 19) rfl rfl Tryd.func77 (by kernel_rfl) rfl #[.int .i64 (wrap64 (rd l0 x4_1))] rfl ar ?_; (with_reducible refine (epitomeref01_size.calls k1 (wrap64 (rd l0 x4_1)) t199 _ A6.out).mono ?_); rintro e w' ⟨rfl, ⟨nd, rfl⟩⟩; refine ⟨_, rfl, ?_⟩) | ((with_reducible refine gate_builtin (b := .append) (xs := #[.tmp 22, .tmp 25]) rfl ?_); at_builtin; refine Kd.R_append (Kd.int .u8) (w0 := w) w.heap.size rfl (.tmp 22) (.tmp 25) 130 5 (.int .u8 0) 1 rfl Tryd.underlying130 info5 rfl (by decide) (by omega) u3 x3_1 ((wrap64 (rd l0 x4_1)) % 256) [.int .u8 ((wrap64 (rd l0 x4_1)) % 256)] (fun _ => True) (fun _ => False) rfl rfl ?aP (fun _ hk => hk.elim) ?aF ?aO ?aB ?aS ?aL ?_; (case aP => exact rfl); (case aB => exact bl); (case aF => exact (fun _ _ => trivial)); (case aO => exact (by refine kR ?_; exact HO_3.out)); (case aS => exact (below_size bl)); (case aL => have := LMc8.out; omega); intro v201 w9 ho hb hg hat; rw [← Ny200.out] at ho; have n0_ := am (hb); have n1_ := am (ho); clear HB; clear HO_3; have HB := n0_; have HO202 := n1_; clear n0_ n1_; clear ho hb hg hat))
       go_roundg k1
       case measure => have := HK1.out; omega
       case rel => exact ⟨(y200), (wrap64 (x4_1 + 1)), pj, H', ⟨by have := HK1.out; omega⟩, ⟨by refine kR ?_; exact HO202.out⟩, ⟨bl⟩⟩
      ·rw [if_neg c8] at H
       exact absurd H (by simp)
     ·rw [if_neg c7] at H
      have c7b0 : (t199 == 1) = false := beq_eq_false_iff_ne.mpr c7
      have c7b1 : (t199 != 1) = true := bne_iff_ne.mpr c7
      by_cases c10 : t199 = 2
      ·rw [if_pos c10] at H
       have c10b0 : (t199 == 2) = true := beq_iff_eq.mpr c10
       have c10b1 : (t199 != 2) = false := bne_eq_false_iff_eq.mpr c10
       clear c10
       obtain ⟨y203, hy203⟩ : ∃ y_ : List Int, y_ = (([(wrap64 (192 + (wrap64 (Int.tdiv (wrap64 (rd l0 x4_1)) 64)))) % 256, (wrap64 (128 + (Int.tmod (wrap64 (rd l0 x4_1)) 64))) % 256] : List Int)) := ⟨_, rfl⟩
       replace H : (if x3_1.length + y203.length < 140737488355328 then (epitomeref01_Of.l0 k1 l0 (x3_1 ++ y203) (wrap64 (x4_1 + 1))) else (none)) = some r := by first | (rw [hy203]; with_reducible exact H) | (have H2_ := (Option.bind_some _ _).symm.trans H; rw [hy203]; with_reducible exact H2_) | (have H2_ := (Option.bind_some _ _).symm.trans H; with_reducible exact H2_) | with_reducible exact H | (rw [hy203]; exact H) | exact H
       have Ny203 := am hy203
       clear hy203
       by_cases c11 : x3_1.length + y203.length < 140737488355328
       ·rw [if_pos c11] at H
        have LMc11 := am c11
        clear c11
        obtain ⟨y206, hy206⟩ : ∃ y_ : List Int, y_ = (x3_1 ++ y203) := ⟨_, rfl⟩
        replace H : (epitomeref01_Of.l0 k1 l0 y206 (wrap64 (x4_1 + 1))) = some r := by first | (rw [hy206]; with_reducible exact H) | (have H2_ := (Option.bind_some _ _).symm.trans H; rw [hy206]; with_reducible exact H2_) | (have H2_ := (Option.bind_some _ _).symm.trans H; with_reducible exact H2_) | with_reducible exact H | (rw [hy206]; exact H) | exact H
        have Ny206 := am hy206
        clear hy206
        have H' := am H
        clear H
        have p198 : 0 ≤ (x4_1 : Int) := of_decide_eq_true as0
        have q198 : x4_1 < (l0.length : Int) := of_decide_eq_true as0
        obtain ⟨ad198, e198, hx198_0⟩ := Kd.at_int HR0.out x4_1 p198 q198
        cases e198
        replace hx198_0 := (HB.out.cell (World.block_lt_of_cell? w _ hx198_0)).trans hx198_0
        replace p198 := eq_true p198
        replace q198 := eq_true q198
        go_wp2_with (first | ((with_reducible refine gate_callee (f := 77) rfl ?_); refine goesL_ (some 19) rfl rfl Tryd.func77 (by kernel_rfl) rfl #[.int .i64 (wrap64 (rd l0 x4_1))] rfl ar ?_; (with_reducible refine (epitomeref01_size.calls k1 (wrap64 (rd l0 x4_1)) t199 _ A6.out).mono ?_); rintro e w' ⟨rfl, ⟨nd, rfl⟩⟩; refine ⟨_, rfl, ?_⟩) | ((with_reducible refine gate_dst (N := 38) rfl ?_); refine Kd.R_lit (Kd.int .u8) _ 5 ?hg (N := 38) ?hd (xs := ([(wrap64 (192 + (wrap64 (Int.tdiv (wrap64 (rd l0 x4_1)) 64)))) % 256, (wrap64 (128 + (Int.tmod (wrap64 (rd l0 x4_1)) 64))) % 256] : List Int)) (inner := [.int .u8 ((wrap64 (192 + (wrap64 (Int.tdiv (wrap64 (rd l0 x4_1)) 64)))) % 256), .int .u8 ((wrap64 (128 + (Int.tmod (wrap64 (rd l0 x4_1)) 64))) % 256)]) (ok := fun _ => True) (okp := fun _ => True) ?hr ?hp (fun _ hk => hk) trivial (Below.refl _ _) (Nat.le_refl _) (by simp) ?_; (case hd => rfl); (case hg => rfl); (case hr => first | (go_simp; done) | (go_simp; rfl)); (case hp => exact (Reps.one (show Kd.M (Kd.int .u8) _ _ _ ((wrap64 (192 + (wrap64 (Int.tdiv (wrap64 (rd l0 x4_1)) 64)))) % 256) [.int .u8 ((wrap64 (192 + (wrap64 (Int.tdiv (wrap64 (rd l0 x4_1)) 64)))) % 256)] from rfl) (Reps.one (show Kd.M (Kd.int .u8) _ _ _ ((wrap64 (128 + (Int.tmod (wrap64 (rd l0 x4_1)) 64))) % 256) [.int .u8 ((wrap64 (128 + (Int.tmod (wrap64 (rd l0 x4_1)) 64))) % 256)] from rfl) (Reps.none _ _)))); intro v204 w12 ho13 hb hg_ hnew_; clear hg_ hnew_; (first | rw [← Ny203.out] at ho13 | (simp only [Int.reduceToNat] at ho13; rw [← Ny203.out] at ho13)); have n0_ := am (Kd.R_elder' (by refine kR ?_; exact HO_3.out) (Kd.R_base ho13) hb); have n1_ := am (Kd.R_lower (Kd.R_new' ho13 (Kd.R_lt (by refine kR ?_; exact HO_3.out))) (below_size bl)); have n2_ := am (below_step bl hb); clear HO_3; clear HB; have HO_3 := n0_; have HO205 := n1_; have HB := n2_; clear n0_ n1_ n2_; clear hb ho13; obtain ⟨Ao15, co15, eo15⟩ := Kd.R_slice HO205.out; subst eo15) | ((with_reducible refine gate_builtin (b := .append) (xs := #[.tmp 29, .tmp 38]) rfl ?_); at_builtin; refine Kd.R_append_rows (Kd.int .u8) (w0 := w) w.heap.size rfl (.tmp 29) (.tmp 38) 130 5 (.int .u8 0) 1 rfl Tryd.underlying130 info5 rfl (by decide) (by omega) u3 x3_1 y203 _ _ _ (fun k_ => some k_ ≠ (.slice Ao15 y203.length co15 : Value).ownBlock) (fun _ => False) rfl rfl ?aO ?aR (fun _ _ h => h) (fun _ h => h.elim) ?aF ?aB ?aS ?aL ?_; (case aR => repeat (first | exact (Kd.R_reads' HO205.out).2.2 | (with_reducible refine Kd.C_alloc ?_ _) | (with_reducible refine Kd.C_drewN ?_ _) | (with_reducible refine Kd.C_drew ?_))); (case aB => exact bl); (case aF => exact (fun k_ hk => Kd.fresh' (Kd.R_lt (by refine kR ?_; exact HO205.out)) k_ hk)); (case aO => exact (by refine kR ?_; exact Kd.R_mono HO_3.out (fun _ hk => hk.2))); (case aS => exact (below_size bl)); (case aL => have := LMc11.out; omega); intro v207 w14 ho hb hg hat; rw [← Ny206.out] at ho; have n0_ := am (Kd.R_after (ok := (fun _ => True)) (by refine kR ?_; exact HO205.out) hg hat); have n1_ := am (hb); have n2_ := am (ho); clear HO205; clear HB; clear HO_3; have HO205 := n0_; have HB := n1_; have HO208 := n2_; clear n0_ n1_ n2_; clear ho hb hg hat))
        go_roundg k1
        case measure => have := HK1.out; omega
        case rel => exact ⟨(y206), (wrap64 (x4_1 + 1)), pj, H', ⟨by have := HK1.out; omega⟩, ⟨by refine kR ?_; exact Kd.R_mono HO208.out (fun _ hk => trivial)⟩, ⟨bl⟩⟩
       ·rw [if_neg c11] at H
        exact absurd H (by simp)
      ·rw [if_neg c10] at H
       have c10b0 : (t199 == 2) = false := beq_eq_false_iff_ne.mpr c10
       have c10b1 : (t199 != 2) = true := bne_iff_ne.mpr c10
       by_cases c16 : t199 = 3
       ·rw [if_pos c16] at H
        have c16b0 : (t199 == 3) = true := beq_iff_eq.mpr c16
        have c16b1 : (t199 != 3) = false := bne_eq_false_iff_eq.mpr c16
        clear c16
        obtain ⟨y209, hy209⟩ : ∃ y_ : List Int, y_ = (([(wrap64 (224 + (wrap64 (Int.tdiv (wrap64 (rd l0 x4_1)) 4096)))) % 256, (wrap64 (128 + (Int.tmod (wrap64 (Int.tdiv (wrap64 (rd l0 x4_1)) 64)) 64))) % 256, (wrap64 (128 + (Int.tmod (wrap64 (rd l0 x4_1)) 64))) % 256] : List Int)) := ⟨_, rfl⟩
        replace H : (if x3_1.length + y209.length < 140737488355328 then (epitomeref01_Of.l0 k1 l0 (x3_1 ++ y209) (wrap64 (x4_1 + 1))) else (none)) = some r := by first | (rw [hy209]; with_reducible exact H) | (have H2_ := (Option.bind_some _ _).symm.trans H; rw [hy209]; with_reducible exact H2_) | (have H2_ := (Option.bind_some _ _).symm.trans H; with_reducible exact H2_) | with_reducible exact H | (rw [hy209]; exact H) | exact H
        have Ny209 := am hy209
        clear hy209
        by_cases c17 : x3_1.length + y209.length < 140737488355328
        ·rw [if_pos c17] at H
         have LMc17 := am c17
         clear c17
         obtain ⟨y212, hy212⟩ : ∃ y_ : List Int, y_ = (x3_1 ++ y209) := ⟨_, rfl⟩
         replace H : (epitomeref01_Of.l0 k1 l0 y212 (wrap64 (x4_1 + 1))) = some r := by first | (rw [hy212]; with_reducible exact H) | (have H2_ := (Option.bind_some _ _).symm.trans H; rw [hy212]; with_reducible exact H2_) | (have H2_ := (Option.bind_some _ _).symm.trans H; with_reducible exact H2_) | with_reducible exact H | (rw [hy212]; exact H) | exact H
         have Ny212 := am hy212
         clear hy212
         have H' := am H
         clear H
         have p198 : 0 ≤ (x4_1 : Int) := of_decide_eq_true as0
         have q198 : x4_1 < (l0.length : Int) := of_decide_eq_true as0
         obtain ⟨ad198, e198, hx198_0⟩ := Kd.at_int HR0.out x4_1 p198 q198
         cases e198
         replace hx198_0 := (HB.out.cell (World.block_lt_of_cell? w _ hx198_0)).trans hx198_0
         replace p198 := eq_true p198
         replace q198 := eq_true q198
         go_wp2_with (first | ((with_reducible refine gate_callee (f := 77) rfl ?_); refine goesL_ (some 19) rfl rfl Tryd.func77 (by kernel_rfl) rfl #[.int .i64 (wrap64 (rd l0 x4_1))] rfl ar ?_; (with_reducible refine (epitomeref01_size.calls k1 (wrap64 (rd l0 x4_1)) t199 _ A6.out).mono ?_); rintro e w' ⟨rfl, ⟨nd, rfl⟩⟩; refine ⟨_, rfl, ?_⟩) | ((with_reducible refine gate_dst (N := 56) rfl ?_); refine Kd.R_lit (Kd.int .u8) _ 5 ?hg (N := 56) ?hd (xs := ([(wrap64 (224 + (wrap64 (Int.tdiv (wrap64 (rd l0 x4_1)) 4096)))) % 256, (wrap64 (128 + (Int.tmod (wrap64 (Int.tdiv (wrap64 (rd l0 x4_1)) 64)) 64))) % 256, (wrap64 (128 + (Int.tmod (wrap64 (rd l0 x4_1)) 64))) % 256] : List Int)) (inner := [.int .u8 ((wrap64 (224 + (wrap64 (Int.tdiv (wrap64 (rd l0 x4_1)) 4096)))) % 256), .int .u8 ((wrap64 (128 + (Int.tmod (wrap64 (Int.tdiv (wrap64 (rd l0 x4_1)) 64)) 64))) % 256), .int .u8 ((wrap64 (128 + (Int.tmod (wrap64 (rd l0 x4_1)) 64))) % 256)]) (ok := fun _ => True) (okp := fun _ => True) ?hr ?hp (fun _ hk => hk) trivial (Below.refl _ _) (Nat.le_refl _) (by simp) ?_; (case hd => rfl); (case hg => rfl); (case hr => first | (go_simp; done) | (go_simp; rfl)); (case hp => exact (Reps.one (show Kd.M (Kd.int .u8) _ _ _ ((wrap64 (224 + (wrap64 (Int.tdiv (wrap64 (rd l0 x4_1)) 4096)))) % 256) [.int .u8 ((wrap64 (224 + (wrap64 (Int.tdiv (wrap64 (rd l0 x4_1)) 4096)))) % 256)] from rfl) (Reps.one (show Kd.M (Kd.int .u8) _ _ _ ((wrap64 (128 + (Int.tmod (wrap64 (Int.tdiv (wrap64 (rd l0 x4_1)) 64)) 64))) % 256) [.int .u8 ((wrap64 (128 + (Int.tmod (wrap64 (Int.tdiv (wrap64 (rd l0 x4_1)) 64)) 64))) % 256)] from rfl) (Reps.one (show Kd.M (Kd.int .u8) _ _ _ ((wrap64 (128 + (Int.tmod (wrap64 (rd l0 x4_1)) 64))) % 256) [.int .u8 ((wrap64 (128 + (Int.tmod (wrap64 (rd l0 x4_1)) 64))) % 256)] from rfl) (Reps.none _ _))))); intro v210 w18 ho19 hb hg_ hnew_; clear hg_ hnew_; (first | rw [← Ny209.out] at ho19 | (simp only [Int.reduceToNat] at ho19; rw [← Ny209.out] at ho19)); have n0_ := am (Kd.R_elder' (by refine kR ?_; exact HO_3.out) (Kd.R_base ho19) hb); have n1_ := am (Kd.R_lower (Kd.R_new' ho19 (Kd.R_lt (by refine kR ?_; exact HO_3.out))) (below_size bl)); have n2_ := am (below_step bl hb); clear HO_3; clear HB; have HO_3 := n0_; have HO211 := n1_; have HB := n2_; clear n0_ n1_ n2_; clear hb ho19; obtain ⟨Ao21, co21, eo21⟩ := Kd.R_slice HO211.out; subst eo21) | ((with_reducible refine gate_builtin (b := .append) (xs := #[.tmp 42, .tmp 56]) rfl ?_); at_builtin; refine Kd.R_append_rows (Kd.int .u8) (w0 := w) w.heap.size rfl (.tmp 42) (.tmp 56) 130 5 (.int .u8 0) 1 rfl Tryd.underlying130 info5 rfl (by decide) (by omega) u3 x3_1 y209 _ _ _ (fun k_ => some k_ ≠ (.slice Ao21 y209.length co21 : Value).ownBlock) (fun _ => False) rfl rfl ?aO ?aR (fun _ _ h => h) (fun _ h => h.elim) ?aF ?aB ?aS ?aL ?_; (case aR => repeat (first | exact (Kd.R_reads' HO211.out).2.2 | (with_reducible refine Kd.C_alloc ?_ _) | (with_reducible refine Kd.C_drewN ?_ _) | (with_reducible refine Kd.C_drew ?_))); (case aB => exact bl); (case aF => exact (fun k_ hk => Kd.fresh' (Kd.R_lt (by refine kR ?_; exact HO211.out)) k_ hk)); (case aO => exact (by refine kR ?_; exact Kd.R_mono HO_3.out (fun _ hk => hk.2))); (case aS => exact (below_size bl)); (case aL => have := LMc17.out; omega); intro v213 w20 ho hb hg hat; rw [← Ny212.out] at ho; have n0_ := am (Kd.R_after (ok := (fun _ => True)) (by refine kR ?_; exact HO211.out) hg hat); have n1_ := am (hb); have n2_ := am (ho); clear HO211; clear HB; clear HO_3; have HO211 := n0_; have HB := n1_; have HO214 := n2_; clear n0_ n1_ n2_; clear ho hb hg hat))
         go_roundg k1
         case measure => have := HK1.out; omega
         case rel => exact ⟨(y212), (wrap64 (x4_1 + 1)), pj, H', ⟨by have := HK1.out; omega⟩, ⟨by refine kR ?_; exact Kd.R_mono HO214.out (fun _ hk => trivial)⟩, ⟨bl⟩⟩
        ·rw [if_neg c17] at H
         exact absurd H (by simp)
       ·rw [if_neg c16] at H
        have c16b0 : (t199 == 3) = false := beq_eq_false_iff_ne.mpr c16
        have c16b1 : (t199 != 3) = true := bne_iff_ne.mpr c16
        by_cases c22 : t199 = 4
        ·rw [if_pos c22] at H
         have c22b0 : (t199 == 4) = true := beq_iff_eq.mpr c22
         have c22b1 : (t199 != 4) = false := bne_eq_false_iff_eq.mpr c22
         clear c22
         obtain ⟨y215, hy215⟩ : ∃ y_ : List Int, y_ = (([(wrap64 (240 + (wrap64 (Int.tdiv (wrap64 (rd l0 x4_1)) 262144)))) % 256, (wrap64 (128 + (Int.tmod (wrap64 (Int.tdiv (wrap64 (rd l0 x4_1)) 4096)) 64))) % 256, (wrap64 (128 + (Int.tmod (wrap64 (Int.tdiv (wrap64 (rd l0 x4_1)) 64)) 64))) % 256, (wrap64 (128 + (Int.tmod (wrap64 (rd l0 x4_1)) 64))) % 256] : List Int)) := ⟨_, rfl⟩
         replace H : (if x3_1.length + y215.length < 140737488355328 then (epitomeref01_Of.l0 k1 l0 (x3_1 ++ y215) (wrap64 (x4_1 + 1))) else (none)) = some r := by first | (rw [hy215]; with_reducible exact H) | (have H2_ := (Option.bind_some _ _).symm.trans H; rw [hy215]; with_reducible exact H2_) | (have H2_ := (Option.bind_some _ _).symm.trans H; with_reducible exact H2_) | with_reducible exact H | (rw [hy215]; exact H) | exact H
         have Ny215 := am hy215
         clear hy215
         by_cases c23 : x3_1.length + y215.length < 140737488355328
         ·rw [if_pos c23] at H
          have LMc23 := am c23
          clear c23
          obtain ⟨y218, hy218⟩ : ∃ y_ : List Int, y_ = (x3_1 ++ y215) := ⟨_, rfl⟩
          replace H : (epitomeref01_Of.l0 k1 l0 y218 (wrap64 (x4_1 + 1))) = some r := by first | (rw [hy218]; with_reducible exact H) | (have H2_ := (Option.bind_some _ _).symm.trans H; rw [hy218]; with_reducible exact H2_) | (have H2_ := (Option.bind_some _ _).symm.trans H; with_reducible exact H2_) | with_reducible exact H | (rw [hy218]; exact H) | exact H
          have Ny218 := am hy218
          clear hy218
          have H' := am H
          clear H
          have p198 : 0 ≤ (x4_1 : Int) := of_decide_eq_true as0
          have q198 : x4_1 < (l0.length : Int) := of_decide_eq_true as0
          obtain ⟨ad198, e198, hx198_0⟩ := Kd.at_int HR0.out x4_1 p198 q198
          cases e198
          replace hx198_0 := (HB.out.cell (World.block_lt_of_cell? w _ hx198_0)).trans hx198_0
          replace p198 := eq_true p198
          replace q198 := eq_true q198
          go_wp2_with (first | ((with_reducible refine gate_callee (f := 77) rfl ?_); refine goesL_ (some 19) rfl rfl Tryd.func77 (by kernel_rfl) rfl #[.int .i64 (wrap64 (rd l0 x4_1))] rfl ar ?_; (with_reducible refine (epitomeref01_size.calls k1 (wrap64 (rd l0 x4_1)) t199 _ A6.out).mono ?_); rintro e w' ⟨rfl, ⟨nd, rfl⟩⟩; refine ⟨_, rfl, ?_⟩) | ((with_reducible refine gate_dst (N := 79) rfl ?_); refine Kd.R_lit (Kd.int .u8) _ 5 ?hg (N := 79) ?hd (xs := ([(wrap64 (240 + (wrap64 (Int.tdiv (wrap64 (rd l0 x4_1)) 262144)))) % 256, (wrap64 (128 + (Int.tmod (wrap64 (Int.tdiv (wrap64 (rd l0 x4_1)) 4096)) 64))) % 256, (wrap64 (128 + (Int.tmod (wrap64 (Int.tdiv (wrap64 (rd l0 x4_1)) 64)) 64))) % 256, (wrap64 (128 + (Int.tmod (wrap64 (rd l0 x4_1)) 64))) % 256] : List Int)) (inner := [.int .u8 ((wrap64 (240 + (wrap64 (Int.tdiv (wrap64 (rd l0 x4_1)) 262144)))) % 256), .int .u8 ((wrap64 (128 + (Int.tmod (wrap64 (Int.tdiv (wrap64 (rd l0 x4_1)) 4096)) 64))) % 256), .int .u8 ((wrap64 (128 + (Int.tmod (wrap64 (Int.tdiv (wrap64 (rd l0 x4_1)) 64)) 64))) % 256), .int .u8 ((wrap64 (128 + (Int.tmod (wrap64 (rd l0 x4_1)) 64))) % 256)]) (ok := fun _ => True) (okp := fun _ => True) ?hr ?hp (fun _ hk => hk) trivial (Below.refl _ _) (Nat.le_refl _) (by simp) ?_; (case hd => rfl); (case hg => rfl); (case hr => first | (go_simp; done) | (go_simp; rfl)); (case hp => exact (Reps.one (show Kd.M (Kd.int .u8) _ _ _ ((wrap64 (240 + (wrap64 (Int.tdiv (wrap64 (rd l0 x4_1)) 262144)))) % 256) [.int .u8 ((wrap64 (240 + (wrap64 (Int.tdiv (wrap64 (rd l0 x4_1)) 262144)))) % 256)] from rfl) (Reps.one (show Kd.M (Kd.int .u8) _ _ _ ((wrap64 (128 + (Int.tmod (wrap64 (Int.tdiv (wrap64 (rd l0 x4_1)) 4096)) 64))) % 256) [.int .u8 ((wrap64 (128 + (Int.tmod (wrap64 (Int.tdiv (wrap64 (rd l0 x4_1)) 4096)) 64))) % 256)] from rfl) (Reps.one (show Kd.M (Kd.int .u8) _ _ _ ((wrap64 (128 + (Int.tmod (wrap64 (Int.tdiv (wrap64 (rd l0 x4_1)) 64)) 64))) % 256) [.int .u8 ((wrap64 (128 + (Int.tmod (wrap64 (Int.tdiv (wrap64 (rd l0 x4_1)) 64)) 64))) % 256)] from rfl) (Reps.one (show Kd.M (Kd.int .u8) _ _ _ ((wrap64 (128 + (Int.tmod (wrap64 (rd l0 x4_1)) 64))) % 256) [.int .u8 ((wrap64 (128 + (Int.tmod (wrap64 (rd l0 x4_1)) 64))) % 256)] from rfl) (Reps.none _ _)))))); intro v216 w24 ho25 hb hg_ hnew_; clear hg_ hnew_; (first | rw [← Ny215.out] at ho25 | (simp only [Int.reduceToNat] at ho25; rw [← Ny215.out] at ho25)); have n0_ := am (Kd.R_elder' (by refine kR ?_; exact HO_3.out) (Kd.R_base ho25) hb); have n1_ := am (Kd.R_lower (Kd.R_new' ho25 (Kd.R_lt (by refine kR ?_; exact HO_3.out))) (below_size bl)); have n2_ := am (below_step bl hb); clear HO_3; clear HB; have HO_3 := n0_; have HO217 := n1_; have HB := n2_; clear n0_ n1_ n2_; clear hb ho25; obtain ⟨Ao27, co27, eo27⟩ := Kd.R_slice HO217.out; subst eo27) | ((with_reducible refine gate_builtin (b := .append) (xs := #[.tmp 60, .tmp 79]) rfl ?_); at_builtin; refine Kd.R_append_rows (Kd.int .u8) (w0 := w) w.heap.size rfl (.tmp 60) (.tmp 79) 130 5 (.int .u8 0) 1 rfl Tryd.underlying130 info5 rfl (by decide) (by omega) u3 x3_1 y215 _ _ _ (fun k_ => some k_ ≠ (.slice Ao27 y215.length co27 : Value).ownBlock) (fun _ => False) rfl rfl ?aO ?aR (fun _ _ h => h) (fun _ h => h.elim) ?aF ?aB ?aS ?aL ?_; (case aR => repeat (first | exact (Kd.R_reads' HO217.out).2.2 | (with_reducible refine Kd.C_alloc ?_ _) | (with_reducible refine Kd.C_drewN ?_ _) | (with_reducible refine Kd.C_drew ?_))); (case aB => exact bl); (case aF => exact (fun k_ hk => Kd.fresh' (Kd.R_lt (by refine kR ?_; exact HO217.out)) k_ hk)); (case aO => exact (by refine kR ?_; exact Kd.R_mono HO_3.out (fun _ hk => hk.2))); (case aS => exact (below_size bl)); (case aL => have := LMc23.out; omega); intro v219 w26 ho hb hg hat; rw [← Ny218.out] at ho; have n0_ := am (Kd.R_after (ok := (fun _ => True)) (by refine kR ?_; exact HO217.out) hg hat); have n1_ := am (hb); have n2_ := am (ho); clear HO217; clear HB; clear HO_3; have HO217 := n0_; have HB := n1_; have HO220 := n2_; clear n0_ n1_ n2_; clear ho hb hg hat))
          go_roundg k1
          case measure => have := HK1.out; omega
          case rel => exact ⟨(y218), (wrap64 (x4_1 + 1)), pj, H', ⟨by have := HK1.out; omega⟩, ⟨by refine kR ?_; exact Kd.R_mono HO220.out (fun _ hk => trivial)⟩, ⟨bl⟩⟩
         ·rw [if_neg c23] at H
          exact absurd H (by simp)
        ·rw [if_neg c22] at H
         have c22b0 : (t199 == 4) = false := beq_eq_false_iff_ne.mpr c22
         have c22b1 : (t199 != 4) = true := bne_iff_ne.mpr c22
         have H' := am H
         clear H
         have p198 : 0 ≤ (x4_1 : Int) := of_decide_eq_true as0
         have q198 : x4_1 < (l0.length : Int) := of_decide_eq_true as0
         obtain ⟨ad198, e198, hx198_0⟩ := Kd.at_int HR0.out x4_1 p198 q198
         cases e198
         replace hx198_0 := (HB.out.cell (World.block_lt_of_cell? w _ hx198_0)).trans hx198_0
         replace p198 := eq_true p198
         replace q198 := eq_true q198
         go_wp2_with (first | ((with_reducible refine gate_callee (f := 77) rfl ?_); refine goesL_ (some 19) rfl rfl Tryd.func77 (by kernel_rfl) rfl #[.int .i64 (wrap64 (rd l0 x4_1))] rfl ar ?_; (with_reducible refine (epitomeref01_size.calls k1 (wrap64 (rd l0 x4_1)) t199 _ A6.out).mono ?_); rintro e w' ⟨rfl, ⟨nd, rfl⟩⟩; refine ⟨_, rfl, ?_⟩))
         go_roundg k1
         case measure => have := HK1.out; omega
         case rel => exact ⟨(x3_1), (wrap64 (x4_1 + 1)), pj, H', ⟨by have := HK1.out; omega⟩, ⟨by refine kR ?_; exact HO_3.out⟩, ⟨bl⟩⟩
    ·rw [if_neg c5] at H
     exact absurd H (by simp)
   ·rw [if_neg c4] at H
    have c4b0 : decide (x4_1 < (l0.length : Int)) = false := decide_eq_false c4
    clear c4
    obtain rfl := Option.some.inj H
    simp only [Option.some.injEq, Prod.mk.injEq] at H
    obtain ⟨rfl⟩ := H
    have hcv28 := own_string (P := Tryd.prog) Tryd.underlying130 Tryd.underlying5 Tryd.underlying9 (Kd.own_of_R HO_3.out)
    have hcv29 := fun (m_ : Nat) => own_string (P := Tryd.prog) Tryd.underlying130 Tryd.underlying5 Tryd.underlying9 (Kd.own_of_R (Kd.R_drewN HO_3.out m_))
    go_wp2
    go_ret
    exact ⟨by first | rfl | (simp [errW_none, errW_some] <;> rfl) | (simp [*, errW_none, errW_some] <;> rfl), bl⟩
def epitomeref01_Fit.tab : List Int := [97, 98, 99, 120, 121, 233, 8364, 128512]
def epitomeref01_Fit.l (s : ByteArray) : List Int := s.data.toList.map fun b => epitomeref01_Fit.tab.getD (b.toNat % 8) 0
def epitomeref01_Fit.f (k : Nat) (a0 : ByteArray) : Option ByteArray := if a0.size < 35184372088832 then epitomeref01_Of.f k (epitomeref01_Fit.l a0) else none
theorem epitomeref01_Fit.len (s : ByteArray) : (epitomeref01_Fit.l s).length = s.size := by
 unfold epitomeref01_Fit.l; rw [List.length_map, Array.length_toList]; rfl
theorem epitomeref01_Fit.next (s : ByteArray) (k : Nat) (h : k < s.size) : (epitomeref01_Fit.l s).take (k + 1) = (epitomeref01_Fit.l s).take k ++ [epitomeref01_Fit.tab.getD ((s[k]'h).toNat % 8) 0] := by
 have hl := epitomeref01_Fit.len s
 rw [List.take_succ_eq_append_getElem (by omega)]
 congr 2
 simp only [epitomeref01_Fit.l, List.getElem_map, Array.getElem_toList]
 rfl
def epitomeref01_Fit.arr : Array Value := #[.int .i32 97, .int .i32 98, .int .i32 99, .int .i32 120, .int .i32 121, .int .i32 233, .int .i32 8364, .int .i32 128512]
theorem epitomeref01_Fit.cell {W : World} {B : Nat} {T : TypeId} (h : W.heap[B]? = some (.cells epitomeref01_Fit.arr T (0, 0))) (m : Nat) (hm : m < 8) : W.cell? ⟨B, m, none⟩ = some (.int .i32 (epitomeref01_Fit.tab.getD m 0)) := by
 rw [cell_of_row W B m _ T (0, 0) h]
 rcases (by omega : m = 0 ∨ m = 1 ∨ m = 2 ∨ m = 3 ∨ m = 4 ∨ m = 5 ∨ m = 6 ∨ m = 7) with rfl | rfl | rfl | rfl | rfl | rfl | rfl | rfl <;> rfl
set_option maxHeartbeats 8000000 in
set_option maxRecDepth 100000 in
theorem epitomeref01_Fit.calls (k : Nat) (a0 : ByteArray) (r : ByteArray) (w : World) (h : epitomeref01_Fit.f k a0 = some r) :
  Calls Tryd.prog 9 #[.string a0] w fun e w' => e = .returned (.string r) ∧ Below w.heap.size w w' := by
 unfold epitomeref01_Fit.f at h
 by_cases c : a0.size < 35184372088832
 ·rw [if_pos c] at h
  have A1 := am h
  have HS := am c
  clear h c
  go_enter Tryd.func9, Tryd.ntmps9
  go_wp2
  go_loopw [4, 5] (fun v4 v5 wr => ∃ j : Nat, v5 = .int .i64 j ∧ j ≤ a0.size ∧ Aside0 (Kd.R (Kd.int .i32) 21 wr w.heap.size (fun _ => True) v4 ((epitomeref01_Fit.l a0).take j)) ∧ Aside0 (wr.heap[w.heap.size]? = some (.cells epitomeref01_Fit.arr 86 (0, 0))) ∧ Aside0 (Below w.heap.size w wr)) (fun _ v5 _ => a0.size - (intOf v5).toNat)
  case atStart =>
   have ho := own_lit (w.alloc (.cells epitomeref01_Fit.arr 86)) w.heap.size 21 .i32 [] (by simp) (by simp)
   have e : (w.alloc (.cells epitomeref01_Fit.arr 86)).heap.size = w.heap.size + 1 := by simp
   rw [e] at ho
   refine ⟨0, rfl, Nat.zero_le _, ⟨⟨fun _ _ => trivial, [], ho, Reps.none _ _⟩⟩, ⟨?_⟩, ⟨below_alloc (below_alloc (Below.refl _ _) _) _⟩⟩
   exact blk_alloc (heap_alloc_new w (.cells epitomeref01_Fit.arr 86)) _
  case round =>
   obtain ⟨j, rfl, hj, HO, HC, HB⟩ := hrel
   have hsz := HS.out
   by_cases hlt : j < a0.size
   ·have hm : (a0[j]'hlt).toNat % 8 < 8 := Nat.mod_lt _ (by decide)
    have hcell := epitomeref01_Fit.cell HC.out _ hm
    have N1 := am (epitomeref01_Fit.next a0 j hlt)
    generalize epitomeref01_Fit.tab.getD ((a0[j]'hlt).toNat % 8) 0 = x at hcell N1
    have HL : Aside0 (((epitomeref01_Fit.l a0).take j).length < 35184372088832) := ⟨by rw [List.length_take]; omega⟩
    go_wp2_with (first | ((with_reducible refine gate_builtin (b := .append) (xs := #[.tmp 14, .tmp 21]) rfl ?_); at_builtin; refine Kd.R_append (Kd.int .i32) (w0 := w) w.heap.size rfl (.tmp 14) (.tmp 21) 87 21 (.int .i32 0) 4 rfl Tryd.underlying87 info21 rfl (by decide) (by omega) u4 ((epitomeref01_Fit.l a0).take j) (x) [.int .i32 (x)] (fun _ => True) (fun _ => False) rfl rfl ?aP (fun _ hk => hk.elim) ?aF ?aO ?aB ?aS ?aL ?_; (case aP => exact rfl); (case aB => exact bl); (case aF => exact (fun _ _ => trivial)); (case aO => exact (by refine kR ?_; exact HO.out)); (case aS => exact (below_size bl)); (case aL => have := HL.out; omega); intro v100 w100 ho hb hg hat; have HB1 := am hb; have HO1 := am ho; have HC1 := am (blk_grown HC.out hg (Kd.R_ne HO.out HC.out (by decide))); clear ho hb hg hat hcell))
    go_roundw
    case rel => exact ⟨j + 1, by go_num, by omega, ⟨by rw [N1.out]; exact HO1.out⟩, HC1, HB1⟩
    case measure => simp [intOf]; omega
   ·obtain rfl : j = a0.size := by omega
    have HL : Aside0 (List.take a0.size (epitomeref01_Fit.l a0) = epitomeref01_Fit.l a0) := ⟨by rw [List.take_of_length_le]; rw [epitomeref01_Fit.len]; exact Nat.le_refl _⟩
    rw [HL.out] at HO
    obtain ⟨A, q, e, hq, hc⟩ := Kd.R_reads HO.out
    subst e
    have HQ := am hq; have HR := am hc
    clear hq hc HO
    go_wp2_with (go_at_call 40; (with_reducible refine (epitomeref01_Of.calls k _ _ (epitomeref01_Fit.l a0) r _ HR.out HQ.out A1.out).mono ?_); rintro e w1 ⟨rfl, hb⟩)
    go_ret
    exact ⟨rfl, below_then HB.out HB.out.size hb⟩
 ·rw [if_neg c] at h; cases h
def span_of.f (a0_0 : Int) (a0_1 : Int) (a0_2 : ByteArray) : Option (Bool × Bool × Bool) := some (if a0_0 = 1 then (true, true, true) else if a0_0 = 2 then (false, false, true) else if a0_0 = 3 then (true, false, true) else (false, false, false))
set_option maxHeartbeats 8000000 in
set_option maxRecDepth 100000 in
theorem span_of.calls (a0_0 : Int) (a0_1 : Int) (a0_2 : ByteArray) (r1 : Bool) (r2 : Bool) (r3 : Bool) (w : World) (hT : Tabs w) (h : span_of.f a0_0 a0_1 a0_2 = some (r1, r2, r3)) :
  Calls Tryd.prog 85 #[.agg #[.int .i64 a0_0, .int .i64 a0_1, .string a0_2]] w fun e w' => e = .returned (.tuple #[.agg #[.bool r1, .bool r2], .bool r3]) ∧ Below w.heap.size w w' := by
 have HK : ∀ (o1 o2 : Obj) (i : Nat), i < 8 → ((w.alloc o1).alloc o2).cell? { block := 2, off := i } = some (.bool (kindsTab.getD i false)) := fun o1 o2 => hT.2.below (below_alloc (below_alloc (Below.refl _ _) _) _)
 clear hT
 unfold span_of.f at h
 have k2 : ∀ (o1 o2 : Obj), ((w.alloc o1).alloc o2).cell? { block := 2, off := 2 } = some (.bool true) := fun o1 o2 => HK o1 o2 2 (by omega)
 have k3 : ∀ (o1 o2 : Obj), ((w.alloc o1).alloc o2).cell? { block := 2, off := 3 } = some (.bool true) := fun o1 o2 => HK o1 o2 3 (by omega)
 have k4 : ∀ (o1 o2 : Obj), ((w.alloc o1).alloc o2).cell? { block := 2, off := 4 } = some (.bool false) := fun o1 o2 => HK o1 o2 4 (by omega)
 have k5 : ∀ (o1 o2 : Obj), ((w.alloc o1).alloc o2).cell? { block := 2, off := 5 } = some (.bool false) := fun o1 o2 => HK o1 o2 5 (by omega)
 have k6 : ∀ (o1 o2 : Obj), ((w.alloc o1).alloc o2).cell? { block := 2, off := 6 } = some (.bool true) := fun o1 o2 => HK o1 o2 6 (by omega)
 have k7 : ∀ (o1 o2 : Obj), ((w.alloc o1).alloc o2).cell? { block := 2, off := 7 } = some (.bool false) := fun o1 o2 => HK o1 o2 7 (by omega)
 clear HK
 by_cases c1 : a0_0 = 1
 ·subst c1
  rw [if_pos rfl] at h
  simp only [Option.some.injEq, Prod.mk.injEq] at h
  obtain ⟨rfl, rfl, rfl⟩ := h
  go_enter Tryd.func85, Tryd.ntmps85
  go_wp2
  repeat (go_quiet (fail); try go_wp2)
  refine bodyPost_ret (results_ct rfl _ _ (w.heap.size + 1) 138 #[.bool true, .bool true] (0, 0) _ rfl (heap_alloc2_new _ _ _) Tryd.underlying138 rfl (by kernel_rfl)) rfl ?_
  exact ⟨rfl, by repeat (first | exact Below.refl _ _ | apply below_alloc | apply pw_below_drewN | apply below_drew1)⟩
 by_cases c2 : a0_0 = 2
 ·subst c2
  rw [if_neg (by decide), if_pos rfl] at h
  simp only [Option.some.injEq, Prod.mk.injEq] at h
  obtain ⟨rfl, rfl, rfl⟩ := h
  go_enter Tryd.func85, Tryd.ntmps85
  go_wp2
  repeat (go_quiet (fail); try go_wp2)
  refine bodyPost_ret (results_ct rfl _ _ (w.heap.size + 1) 138 #[.bool false, .bool false] (0, 0) _ rfl (heap_alloc2_new _ _ _) Tryd.underlying138 rfl (by kernel_rfl)) rfl ?_
  exact ⟨rfl, by repeat (first | exact Below.refl _ _ | apply below_alloc | apply pw_below_drewN | apply below_drew1)⟩
 by_cases c3 : a0_0 = 3
 ·subst c3
  rw [if_neg (by decide), if_neg (by decide), if_pos rfl] at h
  simp only [Option.some.injEq, Prod.mk.injEq] at h
  obtain ⟨rfl, rfl, rfl⟩ := h
  go_enter Tryd.func85, Tryd.ntmps85
  go_wp2
  repeat (go_quiet (fail); try go_wp2)
  refine bodyPost_ret (results_ct rfl _ _ (w.heap.size + 1) 138 #[.bool true, .bool false] (0, 0) _ rfl (heap_alloc2_new _ _ _) Tryd.underlying138 rfl (by kernel_rfl)) rfl ?_
  exact ⟨rfl, by repeat (first | exact Below.refl _ _ | apply below_alloc | apply pw_below_drewN | apply below_drew1)⟩
 rw [if_neg c1, if_neg c2, if_neg c3] at h
 simp only [Option.some.injEq, Prod.mk.injEq] at h
 obtain ⟨rfl, rfl, rfl⟩ := h
 by_cases c4 : a0_0 < 1
 ·have d1 : decide (a0_0 < 1) = true := decide_eq_true c4
  go_enter Tryd.func85, Tryd.ntmps85
  go_wp2
  repeat (go_quiet (fail); try go_wp2)
  refine bodyPost_ret (results_ct rfl _ _ (w.heap.size + 1) 138 #[.bool false, .bool false] (0, 0) _ rfl (heap_alloc2_new _ _ _) Tryd.underlying138 rfl (by kernel_rfl)) rfl ?_
  exact ⟨rfl, by repeat (first | exact Below.refl _ _ | apply below_alloc | apply pw_below_drewN | apply below_drew1)⟩
 ·have d1 : decide (a0_0 < 1) = false := decide_eq_false c4
  have d2 : decide (3 < a0_0) = true := decide_eq_true (by omega)
  go_enter Tryd.func85, Tryd.ntmps85
  go_wp2
  repeat (go_quiet (fail); try go_wp2)
  refine bodyPost_ret (results_ct rfl _ _ (w.heap.size + 1) 138 #[.bool false, .bool false] (0, 0) _ rfl (heap_alloc2_new _ _ _) Tryd.underlying138 rfl (by kernel_rfl)) rfl ?_
  exact ⟨rfl, by repeat (first | exact Below.refl _ _ | apply below_alloc | apply pw_below_drewN | apply below_drew1)⟩
def span_In.f (a0_0 : Int) (a0_1 : Int) (a0_2 : ByteArray) : Option (Int) := (span_of.f a0_0 a0_1 a0_2).bind fun bt102 => (if bt102.1 = true then (some a0_1) else (some 0))
set_option maxHeartbeats 8000000 in
set_option maxRecDepth 100000 in
theorem span_In.calls (a0_0 : Int) (a0_1 : Int) (a0_2 : ByteArray) (r : Int) (w : World) (hT : Tabs w) (h : span_In.f a0_0 a0_1 a0_2 = some r) :
  Calls Tryd.prog 60 #[.agg #[.int .i64 a0_0, .int .i64 a0_1, .string a0_2]] w fun e w' => e = .returned (.int .i64 r) ∧ Below w.heap.size w w' := by
 have HT := am hT
 clear hT
 have hu25 := Tryd.underlying25
 have hu138 := Tryd.underlying138
 have HB := am (Below.refl w.heap.size w)
 have H : ((span_of.f a0_0 a0_1 a0_2).bind fun bt102 => (if bt102.1 = true then (some a0_1) else (some 0))) = some r := h
 clear h
 replace H := Option.bind_eq_some_iff.mp H
 obtain ⟨⟨t102, t103, t104⟩, A20, H⟩ := H
 replace H : (if t102 = true then (some a0_1) else (some 0)) = some r := H
 have A2 := am A20
 clear A20
 by_cases c3 : t102 = true
 ·subst c3
  have H1 : (some a0_1) = some r := by rw [if_pos rfl] at H; exact H
  clear H
  have H := H1
  clear H1
  obtain rfl := Option.some.inj H
  simp only [Option.some.injEq, Prod.mk.injEq] at H
  obtain ⟨rfl⟩ := H
  go_enter Tryd.func60, Tryd.ntmps60
  go_wp2_with (first | ((with_reducible refine gate_dst (N := 1) rfl ?_); refine box_event ?hg (N := 1) ?hd (cs := #[.int .i64 a0_0, .int .i64 a0_1, .string a0_2]) (t := 25) ?hr ?_; (case hd => rfl); (case hg => rfl); (case hr => first | (go_simp; done) | (go_simp; rfl)); intro gb101 hg w4 hbox hb; have n0_ := am (below_step bl hb); have n1_ := am (hbox); have n2_ := am ((gs : w.heap.size ≤ gb101)); have n3_ := am ((gs : w.heap.size ≤ gb101)); clear HB; have HB := n0_; have BK101 := n1_; have GW101 := n2_; have GE101 := n3_; clear n0_ n1_ n2_ n3_; clear hb hbox hg; have hcz5_0 : w4.cell? ⟨gb101, 0, none⟩ = some (.int .i64 a0_0) := (blk_cell BK101.out 0).trans rfl; have hcz5_1 : w4.cell? ⟨gb101, 1, none⟩ = some (.int .i64 a0_1) := (blk_cell BK101.out 1).trans rfl; have hcz5_2 : w4.cell? ⟨gb101, 2, none⟩ = some (.string a0_2) := (blk_cell BK101.out 2).trans rfl; have hfz5_0 := blk_frozen BK101.out 0; have hfz5_1 := blk_frozen BK101.out 1; have hfz5_2 := blk_frozen BK101.out 2) | ((with_reducible refine gate_callee (f := 85) rfl ?_); refine goesL_ (some 7) rfl rfl Tryd.func85 (by kernel_rfl) rfl #[.agg #[.int .i64 a0_0, .int .i64 a0_1, .string a0_2]] rfl ar ?_; (with_reducible refine (span_of.calls a0_0 a0_1 a0_2 true t103 t104 _ ?side1 A2.out).mono ?_); (case side1 => exact Tabs.below HT.out bl); rintro e w6 ⟨rfl, hb⟩; refine ⟨_, rfl, ?_⟩; have n0_ := am (blk_below (g := gb101) (o := .cells #[.int .i64 a0_0, .int .i64 a0_1, .string a0_2] 25 (0, 0)) (by refine bk ?_; exact BK101.out) hb); have n1_ := am (below_step bl hb); clear BK101; clear HB; have BK101 := n0_; have HB := n1_; clear n0_ n1_; (try clear hb); (try clear hb2); (try clear hk); (try clear hi)) | ((with_reducible refine gate_dst (N := 3) rfl ?_); refine box_event ?hg (N := 3) ?hd (cs := #[.bool false, .bool false]) (t := 138) ?hr ?_; (case hd => rfl); (case hg => rfl); (case hr => first | (go_simp; done) | (go_simp; rfl)); intro gb105 hg w7 hbox hb; have n0_ := am (blk_below (g := gb101) (o := .cells #[.int .i64 a0_0, .int .i64 a0_1, .string a0_2] 25 (0, 0)) (by refine bk ?_; exact BK101.out) hb); have n1_ := am (below_step bl hb); have n2_ := am (hbox); have n3_ := am ((gs : w.heap.size ≤ gb105)); have n4_ := am ((gs : w.heap.size ≤ gb105)); have n5_ := am ((by rw [hg]; exact Nat.ne_of_lt (blk_lt (g := gb101) (o := .cells #[.int .i64 a0_0, .int .i64 a0_1, .string a0_2] 25 (0, 0)) (by refine bk ?_; exact BK101.out)) : gb101 ≠ gb105)); have n6_ := am ((by rw [hg]; exact Nat.ne_of_gt (blk_lt (g := gb101) (o := .cells #[.int .i64 a0_0, .int .i64 a0_1, .string a0_2] 25 (0, 0)) (by refine bk ?_; exact BK101.out)) : gb105 ≠ gb101)); clear BK101; clear HB; have BK101 := n0_; have HB := n1_; have BK105 := n2_; have GW105 := n3_; have GE105 := n4_; have NB101_105 := n5_; have NB105_101 := n6_; clear n0_ n1_ n2_ n3_ n4_ n5_ n6_; clear hb hbox hg; have hnb8 := NB105_101.out; have hnc8 := NB101_105.out; have hcz9_0 : w7.cell? ⟨gb105, 0, none⟩ = some (.bool false) := (blk_cell BK105.out 0).trans rfl; have hcz9_1 : w7.cell? ⟨gb105, 1, none⟩ = some (.bool false) := (blk_cell BK105.out 1).trans rfl; have hfz9_0 := blk_frozen BK105.out 0; have hfz9_1 := blk_frozen BK105.out 1; have hcz10_0 : w7.cell? ⟨gb101, 0, none⟩ = some (.int .i64 a0_0) := (blk_cell BK101.out 0).trans rfl; have hcz10_1 : w7.cell? ⟨gb101, 1, none⟩ = some (.int .i64 a0_1) := (blk_cell BK101.out 1).trans rfl; have hcz10_2 : w7.cell? ⟨gb101, 2, none⟩ = some (.string a0_2) := (blk_cell BK101.out 2).trans rfl; have hfz10_0 := blk_frozen BK101.out 0; have hfz10_1 := blk_frozen BK101.out 1; have hfz10_2 := blk_frozen BK101.out 2))
  go_ret
  exact ⟨by first | rfl | (simp [errW_none, errW_some] <;> rfl) | (simp [*, errW_none, errW_some] <;> rfl), bl⟩
 ·replace c3 := Bool.eq_false_iff.mpr c3
  subst c3
  have H1 : (some 0) = some r := by rw [if_neg (show ¬ (false = true) by decide)] at H; exact H
  clear H
  have H := H1
  clear H1
  obtain rfl := Option.some.inj H
  simp only [Option.some.injEq, Prod.mk.injEq] at H
  obtain ⟨rfl⟩ := H
  go_enter Tryd.func60, Tryd.ntmps60
  go_wp2_with (first | ((with_reducible refine gate_dst (N := 1) rfl ?_); refine box_event ?hg (N := 1) ?hd (cs := #[.int .i64 a0_0, .int .i64 a0_1, .string a0_2]) (t := 25) ?hr ?_; (case hd => rfl); (case hg => rfl); (case hr => first | (go_simp; done) | (go_simp; rfl)); intro gb101 hg w11 hbox hb; have n0_ := am (below_step bl hb); have n1_ := am (hbox); have n2_ := am ((gs : w.heap.size ≤ gb101)); have n3_ := am ((gs : w.heap.size ≤ gb101)); clear HB; have HB := n0_; have BK101 := n1_; have GW101 := n2_; have GE101 := n3_; clear n0_ n1_ n2_ n3_; clear hb hbox hg; have hcz12_0 : w11.cell? ⟨gb101, 0, none⟩ = some (.int .i64 a0_0) := (blk_cell BK101.out 0).trans rfl; have hcz12_1 : w11.cell? ⟨gb101, 1, none⟩ = some (.int .i64 a0_1) := (blk_cell BK101.out 1).trans rfl; have hcz12_2 : w11.cell? ⟨gb101, 2, none⟩ = some (.string a0_2) := (blk_cell BK101.out 2).trans rfl; have hfz12_0 := blk_frozen BK101.out 0; have hfz12_1 := blk_frozen BK101.out 1; have hfz12_2 := blk_frozen BK101.out 2) | ((with_reducible refine gate_callee (f := 85) rfl ?_); refine goesL_ (some 7) rfl rfl Tryd.func85 (by kernel_rfl) rfl #[.agg #[.int .i64 a0_0, .int .i64 a0_1, .string a0_2]] rfl ar ?_; (with_reducible refine (span_of.calls a0_0 a0_1 a0_2 false t103 t104 _ ?side1 A2.out).mono ?_); (case side1 => exact Tabs.below HT.out bl); rintro e w13 ⟨rfl, hb⟩; refine ⟨_, rfl, ?_⟩; have n0_ := am (blk_below (g := gb101) (o := .cells #[.int .i64 a0_0, .int .i64 a0_1, .string a0_2] 25 (0, 0)) (by refine bk ?_; exact BK101.out) hb); have n1_ := am (below_step bl hb); clear BK101; clear HB; have BK101 := n0_; have HB := n1_; clear n0_ n1_; (try clear hb); (try clear hb2); (try clear hk); (try clear hi)) | ((with_reducible refine gate_dst (N := 3) rfl ?_); refine box_event ?hg (N := 3) ?hd (cs := #[.bool false, .bool false]) (t := 138) ?hr ?_; (case hd => rfl); (case hg => rfl); (case hr => first | (go_simp; done) | (go_simp; rfl)); intro gb105 hg w14 hbox hb; have n0_ := am (blk_below (g := gb101) (o := .cells #[.int .i64 a0_0, .int .i64 a0_1, .string a0_2] 25 (0, 0)) (by refine bk ?_; exact BK101.out) hb); have n1_ := am (below_step bl hb); have n2_ := am (hbox); have n3_ := am ((gs : w.heap.size ≤ gb105)); have n4_ := am ((gs : w.heap.size ≤ gb105)); have n5_ := am ((by rw [hg]; exact Nat.ne_of_lt (blk_lt (g := gb101) (o := .cells #[.int .i64 a0_0, .int .i64 a0_1, .string a0_2] 25 (0, 0)) (by refine bk ?_; exact BK101.out)) : gb101 ≠ gb105)); have n6_ := am ((by rw [hg]; exact Nat.ne_of_gt (blk_lt (g := gb101) (o := .cells #[.int .i64 a0_0, .int .i64 a0_1, .string a0_2] 25 (0, 0)) (by refine bk ?_; exact BK101.out)) : gb105 ≠ gb101)); clear BK101; clear HB; have BK101 := n0_; have HB := n1_; have BK105 := n2_; have GW105 := n3_; have GE105 := n4_; have NB101_105 := n5_; have NB105_101 := n6_; clear n0_ n1_ n2_ n3_ n4_ n5_ n6_; clear hb hbox hg; have hnb15 := NB105_101.out; have hnc15 := NB101_105.out; have hcz16_0 : w14.cell? ⟨gb105, 0, none⟩ = some (.bool false) := (blk_cell BK105.out 0).trans rfl; have hcz16_1 : w14.cell? ⟨gb105, 1, none⟩ = some (.bool false) := (blk_cell BK105.out 1).trans rfl; have hfz16_0 := blk_frozen BK105.out 0; have hfz16_1 := blk_frozen BK105.out 1))
  go_ret
  exact ⟨by first | rfl | (simp [errW_none, errW_some] <;> rfl) | (simp [*, errW_none, errW_some] <;> rfl), bl⟩
def op_sum.l (F : S25 → Option Int) : Int → List S25 → Option Int
 | n, [] => some n
 | n, x :: l => (F x).bind fun v => op_sum.l F (wrap64 (n + v)) l
theorem op_sum.next (l : List S25) (j : Nat) (h : j < l.length) : l.drop j = rd_T25 l (j : Int) :: l.drop (j + 1) := by
 rw [List.drop_eq_getElem_cons h]
 unfold rd_T25
 rw [Int.toNat_natCast, List.getD_eq_getElem?_getD, List.getElem?_eq_getElem h]
 rfl
theorem op_sum.less {n j : Nat} (h : j < n) (e : wrap64 ((j : Int) + 1) = ((j + 1 : Nat) : Int)) : n - (intOf (.int .i64 (wrap64 ((j : Int) + 1)))).toNat < n - (intOf (.int .i64 (j : Int))).toNat := by
 rw [e]
 show n - (((j + 1 : Nat) : Int)).toNat < n - ((j : Int)).toNat
 omega
set_option maxHeartbeats 8000000 in
set_option maxRecDepth 100000 in
theorem op_sum.callsspan_In (A0 : Option Addr) (c0 : Nat) (l0 : List S25) (r : Int) (w : World) (hr0 : Kd.C k25 w A0 l0.length l0) (hc0 : l0.length ≤ c0) (hs : l0.length < 9223372036854775807) (hT : Tabs w) (h : op_sum.l (fun x : S25 => span_In.f x.f0 x.f1 x.f2) 0 l0 = some r) :
  Calls Tryd.prog 59 #[.slice A0 l0.length c0, .func (Fn.func 60) #[] #[]] w fun e w' => e = .returned (.int .i64 r) ∧ Below w.heap.size w w' := by
 have HR0 := am hr0; have HC0 := am hc0; have HT := am hT; have HZ := am hs; have H := am h
 clear hr0 hc0 hT hs h
 go_enter Tryd.func59, Tryd.ntmps59
 go_wp2
 go_loopw [5, 10] (fun v5 v10 wr => ∃ j : Nat, v10 = .int .i64 j ∧ j ≤ l0.length ∧ ∃ n : Int, v5 = .int .i64 n ∧ Aside0 (op_sum.l (fun x : S25 => span_In.f x.f0 x.f1 x.f2) n (l0.drop j) = some r) ∧ Aside0 (Below w.heap.size w wr)) (fun _ v10 _ => l0.length - (intOf v10).toNat)
 case atStart => exact ⟨0, rfl, Nat.zero_le _, 0, rfl, H, ⟨Below.refl _ _⟩⟩
 case round =>
  clear H
  obtain ⟨j, rfl, hj, n, rfl, HA, HB⟩ := hrel
  by_cases hlt : j < l0.length
  ·have hltb : decide ((j : Int) < (l0.length : Int)) = true := decide_eq_true (by omega)
   have HL := am hlt
   have h := HA.out
   clear HA
   rw [op_sum.next l0 j hlt, op_sum.l] at h
   obtain ⟨v, hv, h⟩ := Option.bind_eq_some_iff.mp h
   obtain ⟨ad, rfl, hx0, hx1, hx2⟩ := at_T25 (Kd.C_below HR0.out HB.out) (j : Int) (by omega) (by omega)
   rw [Int.toNat_natCast] at hx0 hx1 hx2
   have p1 : (0 ≤ (j : Int)) = True := eq_true (by omega)
   have p2 : ((j : Int) < (l0.length : Int)) = True := eq_true (by omega)
   have p3 : (j < l0.length) = True := eq_true hlt
   have HV := am hv
   have HE := am h
   have ew : wrap64 ((j : Int) + 1) = ((j + 1 : Nat) : Int) := by have := HZ.out; unfold wrap64; omega
   clear h hv hlt
   go_wp2_with (go_at_call 60; (with_reducible refine (span_In.calls _ _ _ v _ (Tabs.below HT.out (below_alloc HB.out _)) HV.out).mono ?_); rintro e w1 ⟨rfl, hb⟩; have HB1 := am (below_then (below_alloc HB.out _) (below_alloc HB.out _).size hb); clear hb)
   go_round
   case measure => exact op_sum.less HL.out ew
   case rel => exact ⟨j + 1, by rw [ew], HL.out, _, rfl, HE, HB1⟩
  ·have hltb : decide ((j : Int) < (l0.length : Int)) = false := decide_eq_false (by omega)
   have h := HA.out
   clear HA
   rw [List.drop_of_length_le (by omega), op_sum.l] at h
   obtain rfl := Option.some.inj h
   go_wp2
   go_ret
   exact ⟨rfl, HB.out⟩
def op_In.f (l0 : List S25) : Option Int := if l0.length < 9223372036854775807 then op_sum.l (fun x : S25 => span_In.f x.f0 x.f1 x.f2) 0 l0 else none
set_option maxHeartbeats 8000000 in
set_option maxRecDepth 100000 in
theorem op_In.calls (A0 : Option Addr) (c0 : Nat) (l0 : List S25) (r : Int) (w : World) (hr0 : Kd.C k25 w A0 l0.length l0) (hc0 : l0.length ≤ c0) (hT : Tabs w) (h : op_In.f l0 = some r) :
  Calls Tryd.prog 20 #[.slice A0 l0.length c0] w fun e w' => e = .returned (.int .i64 r) ∧ Below w.heap.size w w' := by
 unfold op_In.f at h
 by_cases c : l0.length < 9223372036854775807
 ·rw [if_pos c] at h
  have HW := am (op_sum.callsspan_In A0 c0 l0 r w hr0 hc0 c hT h)
  clear hr0 hc0 c hT h
  go_enter Tryd.func20, Tryd.ntmps20
  go_wp2_with (go_at_call 59; (with_reducible refine HW.out.mono ?_); rintro e w1 ⟨rfl, hb⟩; have HB1 := am hb; clear hb)
  go_ret
  exact ⟨rfl, HB1.out⟩
 ·rw [if_neg c] at h; cases h
def op_Keep.j0 : Nat → Int → Bool → Option ((List (S25)) × Int)
 | 0, _, _ => none
 | k + 1, x0, x9 => if x9 = true then (some (([] : List (S25)), 2)) else (if x0 = 0 then (some (([] : List (S25)), 0)) else (some ((([(⟨1, x0, (⟨#[]⟩ : ByteArray)⟩ : S25)] : List (S25))), 0)))
def op_Keep.f (k : Nat) (a0 : Int) : Option ((List (S25)) × Int) := if a0 < 0 then (op_Keep.j0 k a0 true) else (op_Keep.j0 k a0 (decide (a0 > 1048576)))
theorem op_Keep.mono_l : ∀ k, (∀ y0 y1, LeO (op_Keep.j0 k y0 y1) (op_Keep.j0 (k + 1) y0 y1))
 | 0 => fun _ _ r h => by simp [op_Keep.j0] at h
 | k + 1 => by
  have ih0 := op_Keep.mono_l k
  ·intro y0 y1
   unfold op_Keep.j0
   repeat' first
   | (with_reducible exact ih0 _ _)
   | (with_reducible exact LeO.refl _)
   | (with_reducible exact LeO.none _)
   | (with_reducible refine LeO.ite ?_ ?_)
   | (with_reducible refine LeO.bind ?_ (fun _ => ?_))
   | exact ih0 _ _
   | exact LeO.none _
   | refine LeO.ite ?_ ?_
   | refine LeO.bind ?_ (fun _ => ?_)
theorem op_Keep.mono : ∀ a0 k, LeO (op_Keep.f k a0) (op_Keep.f (k + 1) a0) := by
 intro a0 k
 have ih0 := op_Keep.mono_l k
 unfold op_Keep.f
 repeat' first
   | (with_reducible exact ih0 _ _)
   | (with_reducible exact LeO.refl _)
   | (with_reducible exact LeO.none _)
   | (with_reducible refine LeO.ite ?_ ?_)
   | (with_reducible refine LeO.bind ?_ (fun _ => ?_))
   | exact ih0 _ _
   | exact LeO.none _
   | refine LeO.ite ?_ ?_
   | refine LeO.bind ?_ (fun _ => ?_)
set_option maxHeartbeats 8000000 in
set_option maxRecDepth 100000 in
theorem op_Keep.calls (k : Nat) (a0 : Int) (r1 : List (S25)) (r2 : Int) (w : World) (h : op_Keep.f k a0 = some (r1, r2)) :
  Calls Tryd.prog 42 #[.int .i64 a0] w fun e w' => ∃ v0_ : Value, e = .returned (.tuple #[v0_, .int .i64 r2]) ∧ Kd.R k25 25 w' w.heap.size (fun _ => True) v0_ r1 ∧ Below w.heap.size w w' := by
 have hu25 := Tryd.underlying25
 have HB := am (Below.refl w.heap.size w)
 have H : (if a0 < 0 then (op_Keep.j0 k a0 true) else (op_Keep.j0 k a0 (decide (a0 > 1048576)))) = some (r1, r2) := h
 clear h
 have HC2 := am H
 clear H
 go_enter Tryd.func42, Tryd.ntmps42
 go_upto_region 1 with (fail)
 go_cut [9] (fun v9 wc => ∃ (kq : Nat) (x9_1 : Bool), v9 = .bool x9_1 ∧ Aside0 (op_Keep.j0 kq a0 x9_1 = some (r1, r2)) ∧ Aside0 (kq ≤ k) ∧ Aside0 (Below w.heap.size w wc))
 case first =>
  have H := HC2.out
  clear HC2
  by_cases c3 : a0 < 0
  ·rw [if_pos c3] at H
   have c3b0 : decide (a0 < 0) = true := decide_eq_true c3
   clear c3
   (first | rw [c3b0] | (simp only [i64_w, i32_w]; rw [c3b0]) | skip)
   have H' := am H
   clear H
   go_wp2
   go_meet
   case rel => exact ⟨_, (true), pj, H', ⟨by first | omega | exact Nat.le_refl _⟩, ⟨bl⟩⟩
  ·rw [if_neg c3] at H
   have c3b0 : decide (a0 < 0) = false := decide_eq_false c3
   clear c3
   (first | rw [c3b0] | (simp only [i64_w, i32_w]; rw [c3b0]) | skip)
   have H' := am H
   clear H
   go_wp2
   go_meet
   case rel => exact ⟨_, (decide (a0 > 1048576)), pj, H', ⟨by first | omega | exact Nat.le_refl _⟩, ⟨bl⟩⟩
 case rest =>
  clear HC2
  try clear p2
  try clear c3
  try clear c3b0
  obtain ⟨kq, x9_1, rfl, HA, HJ1, HB⟩ := hcut
  cases kq with
  | zero => exact absurd HA.out (by simp [op_Keep.j0])
  | succ kj1 =>
   have H := HA.out
   clear HA
   simp only [op_Keep.j0] at H
   by_cases c4 : x9_1 = true
   ·subst c4
    have H1 : (some (([] : List (S25)), 2)) = some (r1, r2) := by rw [if_pos rfl] at H; exact H
    clear H
    have H := H1
    clear H1
    simp only [Option.some.injEq, Prod.mk.injEq] at H
    obtain ⟨rfl, rfl⟩ := H
    go_wp2
    go_ret2
    exact ⟨_, by first | rfl | (simp [errW_none, errW_some] <;> rfl) | (simp [*, errW_none, errW_some] <;> rfl), by first | exact Kd.R_nil _ _ _ _ _ | exact Kd.N_nil _ _ _ _ _ | exact Kd.V_nil _ _ _ _ _ | exact Kd.Q_nil _ _ _ _ _ | exact Kd.S_nil _ _ _ _ _, bl⟩
   ·replace c4 := Bool.eq_false_iff.mpr c4
    subst c4
    have H1 : (if a0 = 0 then (some (([] : List (S25)), 0)) else (some ((([(⟨1, a0, (⟨#[]⟩ : ByteArray)⟩ : S25)] : List (S25))), 0))) = some (r1, r2) := by rw [if_neg (show ¬ (false = true) by decide)] at H; exact H
    clear H
    have H := H1
    clear H1
    by_cases c5 : a0 = 0
    ·rw [if_pos c5] at H
     have c5b0 : (a0 == 0) = true := beq_iff_eq.mpr c5
     have c5b1 : (a0 != 0) = false := bne_eq_false_iff_eq.mpr c5
     clear c5
     simp only [Option.some.injEq, Prod.mk.injEq] at H
     obtain ⟨rfl, rfl⟩ := H
     go_wp2
     go_ret2
     exact ⟨_, by first | rfl | (simp [errW_none, errW_some] <;> rfl) | (simp [*, errW_none, errW_some] <;> rfl), by first | exact Kd.R_nil _ _ _ _ _ | exact Kd.N_nil _ _ _ _ _ | exact Kd.V_nil _ _ _ _ _ | exact Kd.Q_nil _ _ _ _ _ | exact Kd.S_nil _ _ _ _ _, bl⟩
    ·rw [if_neg c5] at H
     have c5b0 : (a0 == 0) = false := beq_eq_false_iff_ne.mpr c5
     have c5b1 : (a0 != 0) = true := bne_iff_ne.mpr c5
     obtain ⟨y106, hy106⟩ : ∃ y_ : List (S25), y_ = (([(⟨1, a0, (⟨#[]⟩ : ByteArray)⟩ : S25)] : List (S25))) := ⟨_, rfl⟩
     replace H : (some (y106, 0)) = some (r1, r2) := by first | (rw [hy106]; with_reducible exact H) | (have H2_ := (Option.bind_some _ _).symm.trans H; rw [hy106]; with_reducible exact H2_) | (have H2_ := (Option.bind_some _ _).symm.trans H; with_reducible exact H2_) | with_reducible exact H | (rw [hy106]; exact H) | exact H
     have Ny106 := am hy106
     clear hy106
     simp only [Option.some.injEq, Prod.mk.injEq] at H
     obtain ⟨rfl, rfl⟩ := H
     go_wp2_with (first | ((with_reducible refine gate_dst (N := 14) rfl ?_); refine Kd.R_lit k25 _ 25 ?hg (N := 14) ?hd (xs := ([(⟨1, a0, (⟨#[]⟩ : ByteArray)⟩ : S25)] : List (S25))) (inner := [.int .i64 1, .int .i64 a0, .string (⟨#[]⟩ : ByteArray)]) (ok := fun _ => True) (okp := fun _ => True) ?hr ?hp (fun _ hk => hk) trivial (Below.refl _ _) (Nat.le_refl _) (by simp) ?_; (case hd => rfl); (case hg => rfl); (case hr => first | (go_simp; done) | (go_simp; rfl)); (case hp => exact (Reps.c3 (show Kd.M k25 _ _ _ (⟨1, a0, (⟨#[]⟩ : ByteArray)⟩ : S25) [.int .i64 1, .int .i64 a0, .string (⟨#[]⟩ : ByteArray)] from (k25_mkM _ _ _ (⟨1, a0, (⟨#[]⟩ : ByteArray)⟩ : S25) )) (Reps.none _ _))); intro v107 w6 ho7 hb hg_ hnew_; clear hg_ hnew_; (first | rw [← Ny106.out] at ho7 | (simp only [Int.reduceToNat] at ho7; rw [← Ny106.out] at ho7)); have n0_ := am (Kd.R_lower ho7 (below_size bl)); have n1_ := am (below_step bl hb); clear HB; have HO108 := n0_; have HB := n1_; clear n0_ n1_; clear hb ho7))
     go_ret2
     exact ⟨_, by first | rfl | (simp [errW_none, errW_some] <;> rfl) | (simp [*, errW_none, errW_some] <;> rfl), by refine kR ?_; exact HO108.out, bl⟩
def points_Valid.f (a0 : ByteArray) : Option Bool := if a0.size < 9223372036854775807 then some (validT a0) else none
set_option maxHeartbeats 8000000 in
set_option maxRecDepth 100000 in
theorem points_Valid.calls (a0 : ByteArray) (r : Bool) (w : World) (hT : Tabs w) (h : points_Valid.f a0 = some r) :
  Calls Tryd.prog 41 #[.string a0] w fun e w' => e = .returned (.bool r) ∧ Below w.heap.size w w' := by
 unfold points_Valid.f at h
 by_cases c : a0.size < 9223372036854775807
 ·rw [if_pos c] at h
  obtain rfl := Option.some.inj h
  clear h
  have hc := valid_calls a0 w (by omega) hT
  have HC := am hc
  clear hc c
  have e : Lib.validD a0.data.toList = validT a0 := rfl
  rw [e] at HC
  generalize validT a0 = v at HC
  clear e
  go_enter Tryd.func41, Tryd.ntmps41
  go_wp2_with (go_at_call 78; (with_reducible refine (HC.out).mono ?_); rintro e w1 ⟨rfl, hb⟩)
  go_ret
  exact ⟨rfl, hb⟩
 ·rw [if_neg c] at h; cases h
mutual
def span_May.j0 : Nat → Bool → Int → Int → ByteArray → Bool → Bool → Option (Int)
 | 0, _, _, _, _, _, _ => none
 | k + 1, x13, x111000, x111001, x111002, x115000, x115001 => if x13 = true then (span_May.j1 k x13 x111000 x111001 x111002 x115000 x115001) else (if x115000 = true then (span_May.j1 k false x111000 x111001 x111002 x115000 x115001) else (span_May.j1 k (x111001 != 0) x111000 x111001 x111002 x115000 x115001))
def span_May.j1 : Nat → Bool → Int → Int → ByteArray → Bool → Bool → Option (Int)
 | 0, _, _, _, _, _, _ => none
 | k + 1, x13, x111000, x111001, x111002, x115000, x115001 => if x13 = true then (some 2) else (if x115000 = true then (span_May.j2 k (x111002.toList != ([] : List UInt8)) x111000 x111001 x111002) else (span_May.j2 k false x111000 x111001 x111002))
def span_May.j2 : Nat → Bool → Int → Int → ByteArray → Option (Int)
 | 0, _, _, _, _ => none
 | k + 1, x34, x111000, x111001, x111002 => if x34 = true then (some 3) else ((points_Valid.f x111002).bind fun t115 => (if t115 = true then (some 0) else (some 3)))
end
def span_May.f (k : Nat) (a0_0 : Int) (a0_1 : Int) (a0_2 : ByteArray) : Option (Int) := (span_of.f a0_0 a0_1 a0_2).bind fun bt111 => (if bt111.2.2 = true then (if bt111.1 = true then (if a0_1 < 0 then (span_May.j0 k true a0_0 a0_1 a0_2 bt111.1 bt111.2.1) else (span_May.j0 k (decide (a0_1 > 1048576)) a0_0 a0_1 a0_2 bt111.1 bt111.2.1)) else (span_May.j0 k false a0_0 a0_1 a0_2 bt111.1 bt111.2.1)) else (some 1))
theorem span_May.mono_l : ∀ k, (∀ y0 y1 y2 y3 y4 y5, LeO (span_May.j0 k y0 y1 y2 y3 y4 y5) (span_May.j0 (k + 1) y0 y1 y2 y3 y4 y5)) ∧ (∀ y0 y1 y2 y3 y4 y5, LeO (span_May.j1 k y0 y1 y2 y3 y4 y5) (span_May.j1 (k + 1) y0 y1 y2 y3 y4 y5)) ∧ (∀ y0 y1 y2 y3, LeO (span_May.j2 k y0 y1 y2 y3) (span_May.j2 (k + 1) y0 y1 y2 y3))
 | 0 => ⟨fun _ _ _ _ _ _ r h => by simp [span_May.j0] at h, fun _ _ _ _ _ _ r h => by simp [span_May.j1] at h, fun _ _ _ _ r h => by simp [span_May.j2] at h⟩
 | k + 1 => by
  obtain ⟨ih0, ih1, ih2⟩ := span_May.mono_l k
  refine ⟨?_, ?_, ?_⟩
  ·intro y0 y1 y2 y3 y4 y5
   unfold span_May.j0
   repeat' first
   | (with_reducible exact ih0 _ _ _ _ _ _)
   | (with_reducible exact ih1 _ _ _ _ _ _)
   | (with_reducible exact ih2 _ _ _ _)
   | (with_reducible exact LeO.refl _)
   | (with_reducible exact LeO.none _)
   | (with_reducible refine LeO.ite ?_ ?_)
   | (with_reducible refine LeO.bind ?_ (fun _ => ?_))
   | exact ih0 _ _ _ _ _ _
   | exact ih1 _ _ _ _ _ _
   | exact ih2 _ _ _ _
   | exact LeO.none _
   | refine LeO.ite ?_ ?_
   | refine LeO.bind ?_ (fun _ => ?_)
  ·intro y0 y1 y2 y3 y4 y5
   unfold span_May.j1
   repeat' first
   | (with_reducible exact ih0 _ _ _ _ _ _)
   | (with_reducible exact ih1 _ _ _ _ _ _)
   | (with_reducible exact ih2 _ _ _ _)
   | (with_reducible exact LeO.refl _)
   | (with_reducible exact LeO.none _)
   | (with_reducible refine LeO.ite ?_ ?_)
   | (with_reducible refine LeO.bind ?_ (fun _ => ?_))
   | exact ih0 _ _ _ _ _ _
   | exact ih1 _ _ _ _ _ _
   | exact ih2 _ _ _ _
   | exact LeO.none _
   | refine LeO.ite ?_ ?_
   | refine LeO.bind ?_ (fun _ => ?_)
  ·intro y0 y1 y2 y3
   unfold span_May.j2
   repeat' first
   | (with_reducible exact ih0 _ _ _ _ _ _)
   | (with_reducible exact ih1 _ _ _ _ _ _)
   | (with_reducible exact ih2 _ _ _ _)
   | (with_reducible exact LeO.refl _)
   | (with_reducible exact LeO.none _)
   | (with_reducible refine LeO.ite ?_ ?_)
   | (with_reducible refine LeO.bind ?_ (fun _ => ?_))
   | exact ih0 _ _ _ _ _ _
   | exact ih1 _ _ _ _ _ _
   | exact ih2 _ _ _ _
   | exact LeO.none _
   | refine LeO.ite ?_ ?_
   | refine LeO.bind ?_ (fun _ => ?_)
theorem span_May.mono : ∀ a0 a1 a2 k, LeO (span_May.f k a0 a1 a2) (span_May.f (k + 1) a0 a1 a2) := by
 intro a0 a1 a2 k
 obtain ⟨ih0, ih1, ih2⟩ := span_May.mono_l k
 unfold span_May.f
 repeat' first
   | (with_reducible exact ih0 _ _ _ _ _ _)
   | (with_reducible exact ih1 _ _ _ _ _ _)
   | (with_reducible exact ih2 _ _ _ _)
   | (with_reducible exact LeO.refl _)
   | (with_reducible exact LeO.none _)
   | (with_reducible refine LeO.ite ?_ ?_)
   | (with_reducible refine LeO.bind ?_ (fun _ => ?_))
   | exact ih0 _ _ _ _ _ _
   | exact ih1 _ _ _ _ _ _
   | exact ih2 _ _ _ _
   | exact LeO.none _
   | refine LeO.ite ?_ ?_
   | refine LeO.bind ?_ (fun _ => ?_)
set_option maxHeartbeats 8000000 in
set_option maxRecDepth 100000 in
theorem span_May.calls (k : Nat) (a0_0 : Int) (a0_1 : Int) (a0_2 : ByteArray) (r : Int) (w : World) (hT : Tabs w) (h : span_May.f k a0_0 a0_1 a0_2 = some r) :
  Calls Tryd.prog 84 #[.agg #[.int .i64 a0_0, .int .i64 a0_1, .string a0_2]] w fun e w' => e = .returned (.int .i64 r) ∧ Below w.heap.size w w' := by
 have HT := am hT
 clear hT
 have hu25 := Tryd.underlying25
 have hu138 := Tryd.underlying138
 have HB := am (Below.refl w.heap.size w)
 have H : ((span_of.f a0_0 a0_1 a0_2).bind fun bt111 => (if bt111.2.2 = true then (if bt111.1 = true then (if a0_1 < 0 then (span_May.j0 k true a0_0 a0_1 a0_2 bt111.1 bt111.2.1) else (span_May.j0 k (decide (a0_1 > 1048576)) a0_0 a0_1 a0_2 bt111.1 bt111.2.1)) else (span_May.j0 k false a0_0 a0_1 a0_2 bt111.1 bt111.2.1)) else (some 1))) = some r := h
 clear h
 replace H := Option.bind_eq_some_iff.mp H
 obtain ⟨⟨t111, t112, t113⟩, A20, H⟩ := H
 replace H : (if t113 = true then (if t111 = true then (if a0_1 < 0 then (span_May.j0 k true a0_0 a0_1 a0_2 t111 t112) else (span_May.j0 k (decide (a0_1 > 1048576)) a0_0 a0_1 a0_2 t111 t112)) else (span_May.j0 k false a0_0 a0_1 a0_2 t111 t112)) else (some 1)) = some r := H
 have A2 := am A20
 clear A20
 by_cases c3 : t113 = true
 ·subst c3
  have H1 : (if t111 = true then (if a0_1 < 0 then (span_May.j0 k true a0_0 a0_1 a0_2 t111 t112) else (span_May.j0 k (decide (a0_1 > 1048576)) a0_0 a0_1 a0_2 t111 t112)) else (span_May.j0 k false a0_0 a0_1 a0_2 t111 t112)) = some r := by rw [if_pos rfl] at H; exact H
  clear H
  have H := H1
  clear H1
  have HC4 := am H
  clear H
  go_enter Tryd.func84, Tryd.ntmps84
  go_upto_region 4 with (first | ((with_reducible refine gate_dst (N := 1) rfl ?_); refine box_event ?hg (N := 1) ?hd (cs := #[.int .i64 a0_0, .int .i64 a0_1, .string a0_2]) (t := 25) ?hr ?_; (case hd => rfl); (case hg => rfl); (case hr => first | (go_simp; done) | (go_simp; rfl)); intro gb110 hg w5 hbox hb; have n0_ := am (below_step bl hb); have n1_ := am (hbox); have n2_ := am ((gs : w.heap.size ≤ gb110)); have n3_ := am ((gs : w.heap.size ≤ gb110)); clear HB; have HB := n0_; have BK110 := n1_; have GW110 := n2_; have GE110 := n3_; clear n0_ n1_ n2_ n3_; clear hb hbox hg; have hcz6_0 : w5.cell? ⟨gb110, 0, none⟩ = some (.int .i64 a0_0) := (blk_cell BK110.out 0).trans rfl; have hcz6_1 : w5.cell? ⟨gb110, 1, none⟩ = some (.int .i64 a0_1) := (blk_cell BK110.out 1).trans rfl; have hcz6_2 : w5.cell? ⟨gb110, 2, none⟩ = some (.string a0_2) := (blk_cell BK110.out 2).trans rfl; have hfz6_0 := blk_frozen BK110.out 0; have hfz6_1 := blk_frozen BK110.out 1; have hfz6_2 := blk_frozen BK110.out 2) | ((with_reducible refine gate_callee (f := 85) rfl ?_); refine goesL_ (some 7) rfl rfl Tryd.func85 (by kernel_rfl) rfl #[.agg #[.int .i64 a0_0, .int .i64 a0_1, .string a0_2]] rfl ar ?_; (with_reducible refine (span_of.calls a0_0 a0_1 a0_2 t111 t112 true _ ?side1 A2.out).mono ?_); (case side1 => exact Tabs.below HT.out bl); rintro e w7 ⟨rfl, hb⟩; refine ⟨_, rfl, ?_⟩; have n0_ := am (blk_below (g := gb110) (o := .cells #[.int .i64 a0_0, .int .i64 a0_1, .string a0_2] 25 (0, 0)) (by refine bk ?_; exact BK110.out) hb); have n1_ := am (below_step bl hb); clear BK110; clear HB; have BK110 := n0_; have HB := n1_; clear n0_ n1_; (try clear hb); (try clear hb2); (try clear hk); (try clear hi)) | ((with_reducible refine gate_dst (N := 3) rfl ?_); refine box_event ?hg (N := 3) ?hd (cs := #[.bool false, .bool false]) (t := 138) ?hr ?_; (case hd => rfl); (case hg => rfl); (case hr => first | (go_simp; done) | (go_simp; rfl)); intro gb114 hg w8 hbox hb; have n0_ := am (blk_below (g := gb110) (o := .cells #[.int .i64 a0_0, .int .i64 a0_1, .string a0_2] 25 (0, 0)) (by refine bk ?_; exact BK110.out) hb); have n1_ := am (below_step bl hb); have n2_ := am (hbox); have n3_ := am ((gs : w.heap.size ≤ gb114)); have n4_ := am ((gs : w.heap.size ≤ gb114)); have n5_ := am ((by rw [hg]; exact Nat.ne_of_lt (blk_lt (g := gb110) (o := .cells #[.int .i64 a0_0, .int .i64 a0_1, .string a0_2] 25 (0, 0)) (by refine bk ?_; exact BK110.out)) : gb110 ≠ gb114)); have n6_ := am ((by rw [hg]; exact Nat.ne_of_gt (blk_lt (g := gb110) (o := .cells #[.int .i64 a0_0, .int .i64 a0_1, .string a0_2] 25 (0, 0)) (by refine bk ?_; exact BK110.out)) : gb114 ≠ gb110)); clear BK110; clear HB; have BK110 := n0_; have HB := n1_; have BK114 := n2_; have GW114 := n3_; have GE114 := n4_; have NB110_114 := n5_; have NB114_110 := n6_; clear n0_ n1_ n2_ n3_ n4_ n5_ n6_; clear hb hbox hg; have hnb9 := NB114_110.out; have hnc9 := NB110_114.out; have hcz10_0 : w8.cell? ⟨gb114, 0, none⟩ = some (.bool false) := (blk_cell BK114.out 0).trans rfl; have hcz10_1 : w8.cell? ⟨gb114, 1, none⟩ = some (.bool false) := (blk_cell BK114.out 1).trans rfl; have hfz10_0 := blk_frozen BK114.out 0; have hfz10_1 := blk_frozen BK114.out 1))
  (try simp only [Act.put, List.setIfInBounds_toArray, List.set_cons_zero, List.set_cons_succ])
  go_cut [13] (fun v13 wc => ∃ (kq : Nat) (x13_3 : Bool), v13 = .bool x13_3 ∧ Aside0 (span_May.j0 kq x13_3 a0_0 a0_1 a0_2 t111 t112 = some r) ∧ Aside0 (kq ≤ k) ∧ Aside0 (wc.heap[gb110]? = some (.cells #[.int .i64 a0_0, .int .i64 a0_1, .string a0_2] 25 (0, 0))) ∧ Aside0 (wc.heap[gb114]? = some (.cells #[.bool t111, .bool t112] 138 (0, 0))) ∧ Aside0 (Below w.heap.size w wc))
  case first =>
   have H := HC4.out
   clear HC4
   by_cases c11 : t111 = true
   ·subst c11
    have H1 : (if a0_1 < 0 then (span_May.j0 k true a0_0 a0_1 a0_2 true t112) else (span_May.j0 k (decide (a0_1 > 1048576)) a0_0 a0_1 a0_2 true t112)) = some r := by rw [if_pos rfl] at H; exact H
    clear H
    have H := H1
    clear H1
    by_cases c12 : a0_1 < 0
    ·rw [if_pos c12] at H
     have c12b0 : decide (a0_1 < 0) = true := decide_eq_true c12
     clear c12
     (first | rw [c12b0] | (simp only [i64_w, i32_w]; rw [c12b0]) | skip)
     have H' := am H
     clear H
     have hnb13 := NB114_110.out
     have hnc13 := NB110_114.out
     have hcz14_0 : w8.cell? ⟨gb114, 0, none⟩ = some (.bool false) := (blk_cell BK114.out 0).trans rfl
     have hcz14_1 : w8.cell? ⟨gb114, 1, none⟩ = some (.bool false) := (blk_cell BK114.out 1).trans rfl
     have hfz14_0 := blk_frozen BK114.out 0
     have hfz14_1 := blk_frozen BK114.out 1
     have hcz15_0 : w8.cell? ⟨gb110, 0, none⟩ = some (.int .i64 a0_0) := (blk_cell BK110.out 0).trans rfl
     have hcz15_1 : w8.cell? ⟨gb110, 1, none⟩ = some (.int .i64 a0_1) := (blk_cell BK110.out 1).trans rfl
     have hcz15_2 : w8.cell? ⟨gb110, 2, none⟩ = some (.string a0_2) := (blk_cell BK110.out 2).trans rfl
     have hfz15_0 := blk_frozen BK110.out 0
     have hfz15_1 := blk_frozen BK110.out 1
     have hfz15_2 := blk_frozen BK110.out 2
     go_wp2
     go_meet
     case rel => exact ⟨_, (true), pj, H', ⟨by first | omega | exact Nat.le_refl _⟩, ⟨by refine bk ?_; refine blk_far ?_ NB110_114.out _; refine bk ?_; refine blk_far ?_ NB110_114.out _; refine bk ?_; exact BK110.out⟩, ⟨by refine bk ?_; refine blk_put (cs := #[.bool true, .bool false]) ?_ 1 _ rfl; refine bk ?_; refine blk_put (cs := #[.bool false, .bool false]) ?_ 0 _ rfl; refine bk ?_; exact BK114.out⟩, ⟨bl⟩⟩
    ·rw [if_neg c12] at H
     have c12b0 : decide (a0_1 < 0) = false := decide_eq_false c12
     clear c12
     (first | rw [c12b0] | (simp only [i64_w, i32_w]; rw [c12b0]) | skip)
     have H' := am H
     clear H
     have hnb16 := NB114_110.out
     have hnc16 := NB110_114.out
     have hcz17_0 : w8.cell? ⟨gb114, 0, none⟩ = some (.bool false) := (blk_cell BK114.out 0).trans rfl
     have hcz17_1 : w8.cell? ⟨gb114, 1, none⟩ = some (.bool false) := (blk_cell BK114.out 1).trans rfl
     have hfz17_0 := blk_frozen BK114.out 0
     have hfz17_1 := blk_frozen BK114.out 1
     have hcz18_0 : w8.cell? ⟨gb110, 0, none⟩ = some (.int .i64 a0_0) := (blk_cell BK110.out 0).trans rfl
     have hcz18_1 : w8.cell? ⟨gb110, 1, none⟩ = some (.int .i64 a0_1) := (blk_cell BK110.out 1).trans rfl
     have hcz18_2 : w8.cell? ⟨gb110, 2, none⟩ = some (.string a0_2) := (blk_cell BK110.out 2).trans rfl
     have hfz18_0 := blk_frozen BK110.out 0
     have hfz18_1 := blk_frozen BK110.out 1
     have hfz18_2 := blk_frozen BK110.out 2
     go_wp2
     go_meet
     case rel => exact ⟨_, (decide (a0_1 > 1048576)), pj, H', ⟨by first | omega | exact Nat.le_refl _⟩, ⟨by refine bk ?_; refine blk_far ?_ NB110_114.out _; refine bk ?_; refine blk_far ?_ NB110_114.out _; refine bk ?_; exact BK110.out⟩, ⟨by refine bk ?_; refine blk_put (cs := #[.bool true, .bool false]) ?_ 1 _ rfl; refine bk ?_; refine blk_put (cs := #[.bool false, .bool false]) ?_ 0 _ rfl; refine bk ?_; exact BK114.out⟩, ⟨bl⟩⟩
   ·replace c11 := Bool.eq_false_iff.mpr c11
    subst c11
    have H1 : (span_May.j0 k false a0_0 a0_1 a0_2 false t112) = some r := by rw [if_neg (show ¬ (false = true) by decide)] at H; exact H
    clear H
    have H := H1
    clear H1
    have H' := am H
    clear H
    have hnb19 := NB114_110.out
    have hnc19 := NB110_114.out
    have hcz20_0 : w8.cell? ⟨gb114, 0, none⟩ = some (.bool false) := (blk_cell BK114.out 0).trans rfl
    have hcz20_1 : w8.cell? ⟨gb114, 1, none⟩ = some (.bool false) := (blk_cell BK114.out 1).trans rfl
    have hfz20_0 := blk_frozen BK114.out 0
    have hfz20_1 := blk_frozen BK114.out 1
    go_wp2
    go_meet
    case rel => exact ⟨_, (false), pj, H', ⟨by first | omega | exact Nat.le_refl _⟩, ⟨by refine bk ?_; refine blk_far ?_ NB110_114.out _; refine bk ?_; refine blk_far ?_ NB110_114.out _; refine bk ?_; exact BK110.out⟩, ⟨by refine bk ?_; refine blk_put (cs := #[.bool false, .bool false]) ?_ 1 _ rfl; refine bk ?_; refine blk_put (cs := #[.bool false, .bool false]) ?_ 0 _ rfl; refine bk ?_; exact BK114.out⟩, ⟨bl⟩⟩
  case rest =>
   clear HC4
   try clear c1
   try clear p2
   try clear c3
   try clear c8
   try clear c9
   try clear c11
   try clear c12
   try clear c12b0
   try clear c13
   try clear c16
   try clear c19
   try clear hcz10_0
   try clear hcz10_1
   try clear hcz14_0
   try clear hcz14_1
   try clear hcz15_0
   try clear hcz15_1
   try clear hcz15_2
   try clear hcz17_0
   try clear hcz17_1
   try clear hcz18_0
   try clear hcz18_1
   try clear hcz18_2
   try clear hcz20_0
   try clear hcz20_1
   try clear hcz6_0
   try clear hcz6_1
   try clear hcz6_2
   try clear hfz10_0
   try clear hfz10_1
   try clear hfz14_0
   try clear hfz14_1
   try clear hfz15_0
   try clear hfz15_1
   try clear hfz15_2
   try clear hfz17_0
   try clear hfz17_1
   try clear hfz18_0
   try clear hfz18_1
   try clear hfz18_2
   try clear hfz20_0
   try clear hfz20_1
   try clear hfz6_0
   try clear hfz6_1
   try clear hfz6_2
   obtain ⟨kq, x13_3, rfl, HA, HJ3, BK110, BK114, HB⟩ := hcut
   cases kq with
   | zero => exact absurd HA.out (by simp [span_May.j0])
   | succ kj3 =>
    have H := HA.out
    clear HA
    simp only [span_May.j0] at H
    have HC21 := am H
    clear H
    go_upto_if 13 with (fail)
    go_cut [13] (fun v13 wc => ∃ (kq : Nat) (x13_20 : Bool), v13 = .bool x13_20 ∧ Aside0 (span_May.j1 kq x13_20 a0_0 a0_1 a0_2 t111 t112 = some r) ∧ Aside0 (kq ≤ kj3) ∧ Aside0 (wc.heap[gb110]? = some (.cells #[.int .i64 a0_0, .int .i64 a0_1, .string a0_2] 25 (0, 0))) ∧ Aside0 (wc.heap[gb114]? = some (.cells #[.bool t111, .bool t112] 138 (0, 0))) ∧ Aside0 (Below w.heap.size w wc))
    case first =>
     have H := HC21.out
     clear HC21
     by_cases c22 : x13_3 = true
     ·subst c22
      have H1 : (span_May.j1 kj3 true a0_0 a0_1 a0_2 t111 t112) = some r := by rw [if_pos rfl] at H; exact H
      clear H
      have H := H1
      clear H1
      have H' := am H
      clear H
      go_wp2
      go_meet
      case rel => exact ⟨_, (true), pj, H', ⟨by have := HJ3.out; first | omega | exact Nat.le_refl _⟩, ⟨by refine bk ?_; exact BK110.out⟩, ⟨by refine bk ?_; exact BK114.out⟩, ⟨bl⟩⟩
     ·replace c22 := Bool.eq_false_iff.mpr c22
      subst c22
      have H1 : (if t111 = true then (span_May.j1 kj3 false a0_0 a0_1 a0_2 t111 t112) else (span_May.j1 kj3 (a0_1 != 0) a0_0 a0_1 a0_2 t111 t112)) = some r := by rw [if_neg (show ¬ (false = true) by decide)] at H; exact H
      clear H
      have H := H1
      clear H1
      by_cases c23 : t111 = true
      ·subst c23
       have H1 : (span_May.j1 kj3 false a0_0 a0_1 a0_2 true t112) = some r := by rw [if_pos rfl] at H; exact H
       clear H
       have H := H1
       clear H1
       have H' := am H
       clear H
       have hnb24 := NB114_110.out
       have hnc24 := NB110_114.out
       have hcz25_0 : wc.cell? ⟨gb114, 0, none⟩ = some (.bool true) := (blk_cell BK114.out 0).trans rfl
       have hcz25_1 : wc.cell? ⟨gb114, 1, none⟩ = some (.bool t112) := (blk_cell BK114.out 1).trans rfl
       have hfz25_0 := blk_frozen BK114.out 0
       have hfz25_1 := blk_frozen BK114.out 1
       go_wp2
       go_meet
       case rel => exact ⟨_, (false), pj, H', ⟨by have := HJ3.out; first | omega | exact Nat.le_refl _⟩, ⟨by refine bk ?_; exact BK110.out⟩, ⟨by refine bk ?_; exact BK114.out⟩, ⟨bl⟩⟩
      ·replace c23 := Bool.eq_false_iff.mpr c23
       subst c23
       have H1 : (span_May.j1 kj3 (a0_1 != 0) a0_0 a0_1 a0_2 false t112) = some r := by rw [if_neg (show ¬ (false = true) by decide)] at H; exact H
       clear H
       have H := H1
       clear H1
       have H' := am H
       clear H
       have hnb26 := NB114_110.out
       have hnc26 := NB110_114.out
       have hcz27_0 : wc.cell? ⟨gb114, 0, none⟩ = some (.bool false) := (blk_cell BK114.out 0).trans rfl
       have hcz27_1 : wc.cell? ⟨gb114, 1, none⟩ = some (.bool t112) := (blk_cell BK114.out 1).trans rfl
       have hfz27_0 := blk_frozen BK114.out 0
       have hfz27_1 := blk_frozen BK114.out 1
       have hcz28_0 : wc.cell? ⟨gb110, 0, none⟩ = some (.int .i64 a0_0) := (blk_cell BK110.out 0).trans rfl
       have hcz28_1 : wc.cell? ⟨gb110, 1, none⟩ = some (.int .i64 a0_1) := (blk_cell BK110.out 1).trans rfl
       have hcz28_2 : wc.cell? ⟨gb110, 2, none⟩ = some (.string a0_2) := (blk_cell BK110.out 2).trans rfl
       have hfz28_0 := blk_frozen BK110.out 0
       have hfz28_1 := blk_frozen BK110.out 1
       have hfz28_2 := blk_frozen BK110.out 2
       go_wp2
       go_meet
       case rel => exact ⟨_, ((a0_1 != 0)), pj, H', ⟨by have := HJ3.out; first | omega | exact Nat.le_refl _⟩, ⟨by refine bk ?_; exact BK110.out⟩, ⟨by refine bk ?_; exact BK114.out⟩, ⟨bl⟩⟩
    case rest =>
     clear HC21
     try clear c1
     try clear c2
     try clear p2
     try clear c3
     try clear c8
     try clear c9
     try clear c11
     try clear c12
     try clear c12b0
     try clear c13
     try clear c16
     try clear c19
     try clear c22
     try clear c23
     try clear c24
     try clear c26
     try clear hcz10_0
     try clear hcz10_1
     try clear hcz14_0
     try clear hcz14_1
     try clear hcz15_0
     try clear hcz15_1
     try clear hcz15_2
     try clear hcz17_0
     try clear hcz17_1
     try clear hcz18_0
     try clear hcz18_1
     try clear hcz18_2
     try clear hcz20_0
     try clear hcz20_1
     try clear hcz25_0
     try clear hcz25_1
     try clear hcz27_0
     try clear hcz27_1
     try clear hcz28_0
     try clear hcz28_1
     try clear hcz28_2
     try clear hcz6_0
     try clear hcz6_1
     try clear hcz6_2
     try clear hfz10_0
     try clear hfz10_1
     try clear hfz14_0
     try clear hfz14_1
     try clear hfz15_0
     try clear hfz15_1
     try clear hfz15_2
     try clear hfz17_0
     try clear hfz17_1
     try clear hfz18_0
     try clear hfz18_1
     try clear hfz18_2
     try clear hfz20_0
     try clear hfz20_1
     try clear hfz25_0
     try clear hfz25_1
     try clear hfz27_0
     try clear hfz27_1
     try clear hfz28_0
     try clear hfz28_1
     try clear hfz28_2
     try clear hfz6_0
     try clear hfz6_1
     try clear hfz6_2
     try clear p2
     obtain ⟨kq, x13_20, rfl, HA, HJ20, BK110, BK114, HB⟩ := hcut
     cases kq with
     | zero => exact absurd HA.out (by simp [span_May.j1])
     | succ kj20 =>
      have H := HA.out
      clear HA
      simp only [span_May.j1] at H
      by_cases c29 : x13_20 = true
      ·subst c29
       have H1 : (some 2) = some r := by rw [if_pos rfl] at H; exact H
       clear H
       have H := H1
       clear H1
       obtain rfl := Option.some.inj H
       simp only [Option.some.injEq, Prod.mk.injEq] at H
       obtain ⟨rfl⟩ := H
       go_wp2
       go_ret
       exact ⟨by first | rfl | (simp [errW_none, errW_some] <;> rfl) | (simp [*, errW_none, errW_some] <;> rfl), bl⟩
      ·replace c29 := Bool.eq_false_iff.mpr c29
       subst c29
       have H1 : (if t111 = true then (span_May.j2 kj20 (a0_2.toList != ([] : List UInt8)) a0_0 a0_1 a0_2) else (span_May.j2 kj20 false a0_0 a0_1 a0_2)) = some r := by rw [if_neg (show ¬ (false = true) by decide)] at H; exact H
       clear H
       have H := H1
       clear H1
       have HC30 := am H
       clear H
       go_upto_region 7 with (fail)
       go_cut [34] (fun v34 wc => ∃ (kq : Nat) (x34_29 : Bool), v34 = .bool x34_29 ∧ Aside0 (span_May.j2 kq x34_29 a0_0 a0_1 a0_2 = some r) ∧ Aside0 (kq ≤ kj20) ∧ Aside0 (wc.heap[gb110]? = some (.cells #[.int .i64 a0_0, .int .i64 a0_1, .string a0_2] 25 (0, 0))) ∧ Aside0 (wc.heap[gb114]? = some (.cells #[.bool t111, .bool t112] 138 (0, 0))) ∧ Aside0 (Below w.heap.size w wc))
       case first =>
        have H := HC30.out
        clear HC30
        by_cases c31 : t111 = true
        ·subst c31
         have H1 : (span_May.j2 kj20 (a0_2.toList != ([] : List UInt8)) a0_0 a0_1 a0_2) = some r := by rw [if_pos rfl] at H; exact H
         clear H
         have H := H1
         clear H1
         have H' := am H
         clear H
         have hnb32 := NB114_110.out
         have hnc32 := NB110_114.out
         have hcz33_0 : wc.cell? ⟨gb114, 0, none⟩ = some (.bool true) := (blk_cell BK114.out 0).trans rfl
         have hcz33_1 : wc.cell? ⟨gb114, 1, none⟩ = some (.bool t112) := (blk_cell BK114.out 1).trans rfl
         have hfz33_0 := blk_frozen BK114.out 0
         have hfz33_1 := blk_frozen BK114.out 1
         have hcz34_0 : wc.cell? ⟨gb110, 0, none⟩ = some (.int .i64 a0_0) := (blk_cell BK110.out 0).trans rfl
         have hcz34_1 : wc.cell? ⟨gb110, 1, none⟩ = some (.int .i64 a0_1) := (blk_cell BK110.out 1).trans rfl
         have hcz34_2 : wc.cell? ⟨gb110, 2, none⟩ = some (.string a0_2) := (blk_cell BK110.out 2).trans rfl
         have hfz34_0 := blk_frozen BK110.out 0
         have hfz34_1 := blk_frozen BK110.out 1
         have hfz34_2 := blk_frozen BK110.out 2
         go_wp2
         go_meet
         case rel => exact ⟨_, ((a0_2.toList != ([] : List UInt8))), pj, H', ⟨by have := HJ3.out; have := HJ20.out; first | omega | exact Nat.le_refl _⟩, ⟨by refine bk ?_; exact BK110.out⟩, ⟨by refine bk ?_; exact BK114.out⟩, ⟨bl⟩⟩
        ·replace c31 := Bool.eq_false_iff.mpr c31
         subst c31
         have H1 : (span_May.j2 kj20 false a0_0 a0_1 a0_2) = some r := by rw [if_neg (show ¬ (false = true) by decide)] at H; exact H
         clear H
         have H := H1
         clear H1
         have H' := am H
         clear H
         have hnb35 := NB114_110.out
         have hnc35 := NB110_114.out
         have hcz36_0 : wc.cell? ⟨gb114, 0, none⟩ = some (.bool false) := (blk_cell BK114.out 0).trans rfl
         have hcz36_1 : wc.cell? ⟨gb114, 1, none⟩ = some (.bool t112) := (blk_cell BK114.out 1).trans rfl
         have hfz36_0 := blk_frozen BK114.out 0
         have hfz36_1 := blk_frozen BK114.out 1
         go_wp2
         go_meet
         case rel => exact ⟨_, (false), pj, H', ⟨by have := HJ3.out; have := HJ20.out; first | omega | exact Nat.le_refl _⟩, ⟨by refine bk ?_; exact BK110.out⟩, ⟨by refine bk ?_; exact BK114.out⟩, ⟨bl⟩⟩
       case rest =>
        clear HC30
        try clear c1
        try clear c2
        try clear p2
        try clear c3
        try clear c8
        try clear c9
        try clear c11
        try clear c12
        try clear c12b0
        try clear c13
        try clear c16
        try clear c19
        try clear c22
        try clear c23
        try clear c24
        try clear c26
        try clear c29
        try clear c31
        try clear c32
        try clear c35
        try clear hcz10_0
        try clear hcz10_1
        try clear hcz14_0
        try clear hcz14_1
        try clear hcz15_0
        try clear hcz15_1
        try clear hcz15_2
        try clear hcz17_0
        try clear hcz17_1
        try clear hcz18_0
        try clear hcz18_1
        try clear hcz18_2
        try clear hcz20_0
        try clear hcz20_1
        try clear hcz25_0
        try clear hcz25_1
        try clear hcz27_0
        try clear hcz27_1
        try clear hcz28_0
        try clear hcz28_1
        try clear hcz28_2
        try clear hcz33_0
        try clear hcz33_1
        try clear hcz34_0
        try clear hcz34_1
        try clear hcz34_2
        try clear hcz36_0
        try clear hcz36_1
        try clear hcz6_0
        try clear hcz6_1
        try clear hcz6_2
        try clear hfz10_0
        try clear hfz10_1
        try clear hfz14_0
        try clear hfz14_1
        try clear hfz15_0
        try clear hfz15_1
        try clear hfz15_2
        try clear hfz17_0
        try clear hfz17_1
        try clear hfz18_0
        try clear hfz18_1
        try clear hfz18_2
        try clear hfz20_0
        try clear hfz20_1
        try clear hfz25_0
        try clear hfz25_1
        try clear hfz27_0
        try clear hfz27_1
        try clear hfz28_0
        try clear hfz28_1
        try clear hfz28_2
        try clear hfz33_0
        try clear hfz33_1
        try clear hfz34_0
        try clear hfz34_1
        try clear hfz34_2
        try clear hfz36_0
        try clear hfz36_1
        try clear hfz6_0
        try clear hfz6_1
        try clear hfz6_2
        try clear p2
        obtain ⟨kq, x34_29, rfl, HA, HJ29, BK110, BK114, HB⟩ := hcut
        cases kq with
        | zero => exact absurd HA.out (by simp [span_May.j2])
        | succ kj29 =>
         have H := HA.out
         clear HA
         simp only [span_May.j2] at H
         by_cases c37 : x34_29 = true
         ·subst c37
          have H1 : (some 3) = some r := by rw [if_pos rfl] at H; exact H
          clear H
          have H := H1
          clear H1
          obtain rfl := Option.some.inj H
          simp only [Option.some.injEq, Prod.mk.injEq] at H
          obtain ⟨rfl⟩ := H
          go_wp2
          go_ret
          exact ⟨by first | rfl | (simp [errW_none, errW_some] <;> rfl) | (simp [*, errW_none, errW_some] <;> rfl), bl⟩
         ·replace c37 := Bool.eq_false_iff.mpr c37
          subst c37
          have H1 : ((points_Valid.f a0_2).bind fun t115 => (if t115 = true then (some 0) else (some 3))) = some r := by rw [if_neg (show ¬ (false = true) by decide)] at H; exact H
          clear H
          have H := H1
          clear H1
          replace H := Option.bind_eq_some_iff.mp H
          obtain ⟨t115, A380, H⟩ := H
          replace H : (if t115 = true then (some 0) else (some 3)) = some r := H
          have A38 := am A380
          clear A380
          by_cases c39 : t115 = true
          ·subst c39
           have H1 : (some 0) = some r := by rw [if_pos rfl] at H; exact H
           clear H
           have H := H1
           clear H1
           obtain rfl := Option.some.inj H
           simp only [Option.some.injEq, Prod.mk.injEq] at H
           obtain ⟨rfl⟩ := H
           have hnb40 := NB110_114.out
           have hnc40 := NB114_110.out
           have hcz41_0 : wc.cell? ⟨gb110, 0, none⟩ = some (.int .i64 a0_0) := (blk_cell BK110.out 0).trans rfl
           have hcz41_1 : wc.cell? ⟨gb110, 1, none⟩ = some (.int .i64 a0_1) := (blk_cell BK110.out 1).trans rfl
           have hcz41_2 : wc.cell? ⟨gb110, 2, none⟩ = some (.string a0_2) := (blk_cell BK110.out 2).trans rfl
           have hfz41_0 := blk_frozen BK110.out 0
           have hfz41_1 := blk_frozen BK110.out 1
           have hfz41_2 := blk_frozen BK110.out 2
           go_wp2_with (first | ((with_reducible refine gate_callee (f := 41) rfl ?_); refine goesL_ (some 44) rfl rfl Tryd.func41 (by kernel_rfl) rfl #[.string a0_2] rfl ar ?_; (with_reducible refine (points_Valid.calls a0_2 true _ ?side1 A38.out).mono ?_); (case side1 => exact Tabs.below HT.out bl); rintro e w42 ⟨rfl, hb⟩; refine ⟨_, rfl, ?_⟩; have n0_ := am (blk_below (g := gb110) (o := .cells #[.int .i64 a0_0, .int .i64 a0_1, .string a0_2] 25 (0, 0)) (by refine bk ?_; exact BK110.out) hb); have n1_ := am (blk_below (g := gb114) (o := .cells #[.bool t111, .bool t112] 138 (0, 0)) (by refine bk ?_; exact BK114.out) hb); have n2_ := am (below_step bl hb); clear BK110; clear BK114; clear HB; have BK110 := n0_; have BK114 := n1_; have HB := n2_; clear n0_ n1_ n2_; (try clear hb); (try clear hb2); (try clear hk); (try clear hi)))
           go_ret
           exact ⟨by first | rfl | (simp [errW_none, errW_some] <;> rfl) | (simp [*, errW_none, errW_some] <;> rfl), bl⟩
          ·replace c39 := Bool.eq_false_iff.mpr c39
           subst c39
           have H1 : (some 3) = some r := by rw [if_neg (show ¬ (false = true) by decide)] at H; exact H
           clear H
           have H := H1
           clear H1
           obtain rfl := Option.some.inj H
           simp only [Option.some.injEq, Prod.mk.injEq] at H
           obtain ⟨rfl⟩ := H
           have hnb43 := NB110_114.out
           have hnc43 := NB114_110.out
           have hcz44_0 : wc.cell? ⟨gb110, 0, none⟩ = some (.int .i64 a0_0) := (blk_cell BK110.out 0).trans rfl
           have hcz44_1 : wc.cell? ⟨gb110, 1, none⟩ = some (.int .i64 a0_1) := (blk_cell BK110.out 1).trans rfl
           have hcz44_2 : wc.cell? ⟨gb110, 2, none⟩ = some (.string a0_2) := (blk_cell BK110.out 2).trans rfl
           have hfz44_0 := blk_frozen BK110.out 0
           have hfz44_1 := blk_frozen BK110.out 1
           have hfz44_2 := blk_frozen BK110.out 2
           go_wp2_with (first | ((with_reducible refine gate_callee (f := 41) rfl ?_); refine goesL_ (some 44) rfl rfl Tryd.func41 (by kernel_rfl) rfl #[.string a0_2] rfl ar ?_; (with_reducible refine (points_Valid.calls a0_2 false _ ?side1 A38.out).mono ?_); (case side1 => exact Tabs.below HT.out bl); rintro e w45 ⟨rfl, hb⟩; refine ⟨_, rfl, ?_⟩; have n0_ := am (blk_below (g := gb110) (o := .cells #[.int .i64 a0_0, .int .i64 a0_1, .string a0_2] 25 (0, 0)) (by refine bk ?_; exact BK110.out) hb); have n1_ := am (blk_below (g := gb114) (o := .cells #[.bool t111, .bool t112] 138 (0, 0)) (by refine bk ?_; exact BK114.out) hb); have n2_ := am (below_step bl hb); clear BK110; clear BK114; clear HB; have BK110 := n0_; have BK114 := n1_; have HB := n2_; clear n0_ n1_ n2_; (try clear hb); (try clear hb2); (try clear hk); (try clear hi)))
           go_ret
           exact ⟨by first | rfl | (simp [errW_none, errW_some] <;> rfl) | (simp [*, errW_none, errW_some] <;> rfl), bl⟩
 ·replace c3 := Bool.eq_false_iff.mpr c3
  subst c3
  have H1 : (some 1) = some r := by rw [if_neg (show ¬ (false = true) by decide)] at H; exact H
  clear H
  have H := H1
  clear H1
  obtain rfl := Option.some.inj H
  simp only [Option.some.injEq, Prod.mk.injEq] at H
  obtain ⟨rfl⟩ := H
  go_enter Tryd.func84, Tryd.ntmps84
  go_wp2_with (first | ((with_reducible refine gate_dst (N := 1) rfl ?_); refine box_event ?hg (N := 1) ?hd (cs := #[.int .i64 a0_0, .int .i64 a0_1, .string a0_2]) (t := 25) ?hr ?_; (case hd => rfl); (case hg => rfl); (case hr => first | (go_simp; done) | (go_simp; rfl)); intro gb110 hg w46 hbox hb; have n0_ := am (below_step bl hb); have n1_ := am (hbox); have n2_ := am ((gs : w.heap.size ≤ gb110)); have n3_ := am ((gs : w.heap.size ≤ gb110)); clear HB; have HB := n0_; have BK110 := n1_; have GW110 := n2_; have GE110 := n3_; clear n0_ n1_ n2_ n3_; clear hb hbox hg; have hcz47_0 : w46.cell? ⟨gb110, 0, none⟩ = some (.int .i64 a0_0) := (blk_cell BK110.out 0).trans rfl; have hcz47_1 : w46.cell? ⟨gb110, 1, none⟩ = some (.int .i64 a0_1) := (blk_cell BK110.out 1).trans rfl; have hcz47_2 : w46.cell? ⟨gb110, 2, none⟩ = some (.string a0_2) := (blk_cell BK110.out 2).trans rfl; have hfz47_0 := blk_frozen BK110.out 0; have hfz47_1 := blk_frozen BK110.out 1; have hfz47_2 := blk_frozen BK110.out 2) | ((with_reducible refine gate_callee (f := 85) rfl ?_); refine goesL_ (some 7) rfl rfl Tryd.func85 (by kernel_rfl) rfl #[.agg #[.int .i64 a0_0, .int .i64 a0_1, .string a0_2]] rfl ar ?_; (with_reducible refine (span_of.calls a0_0 a0_1 a0_2 t111 t112 false _ ?side1 A2.out).mono ?_); (case side1 => exact Tabs.below HT.out bl); rintro e w48 ⟨rfl, hb⟩; refine ⟨_, rfl, ?_⟩; have n0_ := am (blk_below (g := gb110) (o := .cells #[.int .i64 a0_0, .int .i64 a0_1, .string a0_2] 25 (0, 0)) (by refine bk ?_; exact BK110.out) hb); have n1_ := am (below_step bl hb); clear BK110; clear HB; have BK110 := n0_; have HB := n1_; clear n0_ n1_; (try clear hb); (try clear hb2); (try clear hk); (try clear hi)) | ((with_reducible refine gate_dst (N := 3) rfl ?_); refine box_event ?hg (N := 3) ?hd (cs := #[.bool false, .bool false]) (t := 138) ?hr ?_; (case hd => rfl); (case hg => rfl); (case hr => first | (go_simp; done) | (go_simp; rfl)); intro gb114 hg w49 hbox hb; have n0_ := am (blk_below (g := gb110) (o := .cells #[.int .i64 a0_0, .int .i64 a0_1, .string a0_2] 25 (0, 0)) (by refine bk ?_; exact BK110.out) hb); have n1_ := am (below_step bl hb); have n2_ := am (hbox); have n3_ := am ((gs : w.heap.size ≤ gb114)); have n4_ := am ((gs : w.heap.size ≤ gb114)); have n5_ := am ((by rw [hg]; exact Nat.ne_of_lt (blk_lt (g := gb110) (o := .cells #[.int .i64 a0_0, .int .i64 a0_1, .string a0_2] 25 (0, 0)) (by refine bk ?_; exact BK110.out)) : gb110 ≠ gb114)); have n6_ := am ((by rw [hg]; exact Nat.ne_of_gt (blk_lt (g := gb110) (o := .cells #[.int .i64 a0_0, .int .i64 a0_1, .string a0_2] 25 (0, 0)) (by refine bk ?_; exact BK110.out)) : gb114 ≠ gb110)); clear BK110; clear HB; have BK110 := n0_; have HB := n1_; have BK114 := n2_; have GW114 := n3_; have GE114 := n4_; have NB110_114 := n5_; have NB114_110 := n6_; clear n0_ n1_ n2_ n3_ n4_ n5_ n6_; clear hb hbox hg; have hnb50 := NB114_110.out; have hnc50 := NB110_114.out; have hcz51_0 : w49.cell? ⟨gb114, 0, none⟩ = some (.bool false) := (blk_cell BK114.out 0).trans rfl; have hcz51_1 : w49.cell? ⟨gb114, 1, none⟩ = some (.bool false) := (blk_cell BK114.out 1).trans rfl; have hfz51_0 := blk_frozen BK114.out 0; have hfz51_1 := blk_frozen BK114.out 1))
  go_ret
  exact ⟨by first | rfl | (simp [errW_none, errW_some] <;> rfl) | (simp [*, errW_none, errW_some] <;> rfl), bl⟩
end Go.Proofs.YtegjegihcebimaaDoor.P
end
