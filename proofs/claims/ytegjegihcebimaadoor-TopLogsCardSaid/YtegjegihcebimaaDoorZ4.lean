/- Part 4 of the proof of topLogs_holds: out of the texts that this session's programs wrote, what the theorem reaches. -/
import Derived.Test.YtegjegihcebimaaDoorZ2
import Derived.Test.YtegjegihcebimaaDoorZ3
section
namespace Go.Proofs.YtegjegihcebimaaDoor.P
open Go.RowKit Go.Proofs.YtegjegihcebimaaDoorW.PrintWords Go.Proofs.YtegjegihcebimaaDoorW.PrintLast Go.Proofs.YtegjegihcebimaaDoorW.PrintMore
attribute [local go_sem] max2_int min2_int max_two min_two max_three min_three max_four min_four
set_option linter.unusedVariables false
set_option linter.unusedSimpArgs false
def op_May.l0 : Nat → List (S25) → List (S25) → Int → Int → Option (Int)
 | 0, _, _, _, _ => none
 | k + 1, x0, x6, x7, x8 => if x8 < x7 then (if 0 ≤ x8 then (if x8 < (x6.length : Int) then ((span_May.f k ((rd_T25 x6 x8).f0) ((rd_T25 x6 x8).f1) ((rd_T25 x6 x8).f2)).bind fun t118 => (if t118 = 0 then (op_May.l0 k x0 x6 x7 (wrap64 (x8 + 1))) else (some t118))) else (none)) else (none)) else ((op_In.f x0).bind fun t119 => (if t119 > 1048576 then (some 4) else (some 0)))
def op_May.f (k : Nat) (l0 : List (S25)) : Option (Int) := op_May.l0 k l0 l0 (l0.length : Int) 0
theorem op_May.mono_l : ∀ k, (∀ y0 y1 y2 y3, LeO (op_May.l0 k y0 y1 y2 y3) (op_May.l0 (k + 1) y0 y1 y2 y3))
 | 0 => fun _ _ _ _ r h => by simp [op_May.l0] at h
 | k + 1 => by
  have ih0 := op_May.mono_l k
  ·intro y0 y1 y2 y3
   unfold op_May.l0
   repeat' first
   | (with_reducible exact ih0 _ _ _ _)
   | (with_reducible exact span_May.mono _ _ _ _)
   | (with_reducible exact LeO.refl _)
   | (with_reducible exact LeO.none _)
   | (with_reducible refine LeO.ite ?_ ?_)
   | (with_reducible refine LeO.bind ?_ (fun _ => ?_))
   | exact ih0 _ _ _ _
   | exact span_May.mono _ _ _ _
   | exact LeO.none _
   | refine LeO.ite ?_ ?_
   | refine LeO.bind ?_ (fun _ => ?_)
theorem op_May.mono : ∀ a0 k, LeO (op_May.f k a0) (op_May.f (k + 1) a0) := by
 intro a0 k
 have ih0 := op_May.mono_l k
 unfold op_May.f
 repeat' first
   | (with_reducible exact ih0 _ _ _ _)
   | (with_reducible exact span_May.mono _ _ _ _)
   | (with_reducible exact LeO.refl _)
   | (with_reducible exact LeO.none _)
   | (with_reducible refine LeO.ite ?_ ?_)
   | (with_reducible refine LeO.bind ?_ (fun _ => ?_))
   | exact ih0 _ _ _ _
   | exact span_May.mono _ _ _ _
   | exact LeO.none _
   | refine LeO.ite ?_ ?_
   | refine LeO.bind ?_ (fun _ => ?_)
set_option maxHeartbeats 8000000 in
set_option maxRecDepth 100000 in
theorem op_May.calls (k : Nat) (A0 : Option Addr) (c0 : Nat) (l0 : List (S25)) (r : Int) (w : World) (hr0 : Kd.C k25 w A0 l0.length l0) (hc0 : l0.length ≤ c0) (hT : Tabs w) (h : op_May.f k l0 = some r) :
  Calls Tryd.prog 46 #[.slice A0 l0.length c0] w fun e w' => e = .returned (.int .i64 r) ∧ Below w.heap.size w w' := by
 have HT := am hT
 clear hT
 have hu25 := Tryd.underlying25
 have HR0 := am hr0
 have HC0 := am hc0
 clear hr0 hc0
 have HB := am (Below.refl w.heap.size w)
 have H : (op_May.l0 k l0 l0 (l0.length : Int) 0) = some r := h
 clear h
 have H' := am H
 clear H
 go_enter Tryd.func46, Tryd.ntmps46
 go_wp2
 go_loopg [8] k (fun kq v8 w' => ∃ (x8_1 : Int), v8 = .int .i64 x8_1 ∧ Aside0 (op_May.l0 kq l0 l0 (l0.length : Int) x8_1 = some r) ∧ Aside0 (kq ≤ k) ∧ Aside0 (Below w.heap.size w w'))
 case atStart => exact ⟨(0), pj, H', ⟨Nat.le_refl _⟩, ⟨bl⟩⟩
 case round =>
  clear H'
  obtain ⟨x8_1, rfl, HA, HK1, HB⟩ := hrel
  cases gk with
  | zero => exact absurd HA.out (by simp [op_May.l0])
  | succ k1 =>
   have H := HA.out
   clear HA
   simp only [op_May.l0] at H
   by_cases c2 : x8_1 < (l0.length : Int)
   ·rw [if_pos c2] at H
    have c2b0 : decide (x8_1 < (l0.length : Int)) = true := decide_eq_true c2
    clear c2
    by_cases c3 : 0 ≤ x8_1
    ·rw [if_pos c3] at H
     have c3b0 : decide (0 ≤ x8_1) = true := decide_eq_true c3
     clear c3
     by_cases c4 : x8_1 < (l0.length : Int)
     ·rw [if_pos c4] at H
      have c4b0 : decide (x8_1 < (l0.length : Int)) = true := decide_eq_true c4
      clear c4
      replace H := Option.bind_eq_some_iff.mp H
      obtain ⟨t118, A50, H⟩ := H
      replace H : (if t118 = 0 then (op_May.l0 k1 l0 l0 (l0.length : Int) (wrap64 (x8_1 + 1))) else (some t118)) = some r := H
      have A5 := am A50
      clear A50
      by_cases c6 : t118 = 0
      ·rw [if_pos c6] at H
       have c6b0 : (t118 == 0) = true := beq_iff_eq.mpr c6
       have c6b1 : (t118 != 0) = false := bne_eq_false_iff_eq.mpr c6
       clear c6
       have H' := am H
       clear H
       have p116 : 0 ≤ (x8_1 : Int) := of_decide_eq_true as0
       have q116 : x8_1 < (l0.length : Int) := of_decide_eq_true as0
       obtain ⟨ad116, e116, hx116_0, hx116_1, hx116_2⟩ := at_T25 HR0.out x8_1 p116 q116
       cases e116
       replace hx116_0 := (HB.out.cell (World.block_lt_of_cell? w _ hx116_0)).trans hx116_0
       replace hx116_1 := (HB.out.cell (World.block_lt_of_cell? w _ hx116_1)).trans hx116_1
       replace hx116_2 := (HB.out.cell (World.block_lt_of_cell? w _ hx116_2)).trans hx116_2
       replace p116 := eq_true p116
       replace q116 := eq_true q116
       go_wp2_with (first | ((with_reducible refine gate_dst (N := 4) rfl ?_); refine box_event ?hg (N := 4) ?hd (cs := #[.int .i64 0, .int .i64 0, .string (⟨#[]⟩ : ByteArray)]) (t := 25) ?hr ?_; (case hd => rfl); (case hg => rfl); (case hr => first | (go_simp; done) | (go_simp; rfl)); intro gb117 hg w7 hbox hb; have n0_ := am (below_step bl hb); have n1_ := am (hbox); have n2_ := am ((gs : w.heap.size ≤ gb117)); have n3_ := am ((gs : w.heap.size ≤ gb117)); clear HB; have HB := n0_; have BK117 := n1_; have GW117 := n2_; have GE117 := n3_; clear n0_ n1_ n2_ n3_; clear hb hbox hg; have hcz8_0 : w7.cell? ⟨gb117, 0, none⟩ = some (.int .i64 0) := (blk_cell BK117.out 0).trans rfl; have hcz8_1 : w7.cell? ⟨gb117, 1, none⟩ = some (.int .i64 0) := (blk_cell BK117.out 1).trans rfl; have hcz8_2 : w7.cell? ⟨gb117, 2, none⟩ = some (.string (⟨#[]⟩ : ByteArray)) := (blk_cell BK117.out 2).trans rfl; have hfz8_0 := blk_frozen BK117.out 0; have hfz8_1 := blk_frozen BK117.out 1; have hfz8_2 := blk_frozen BK117.out 2) | ((with_reducible refine gate_callee (f := 84) rfl ?_); refine goesL_ (some 13) rfl rfl Tryd.func84 (by kernel_rfl) rfl #[.agg #[.int .i64 ((rd_T25 l0 x8_1).f0), .int .i64 ((rd_T25 l0 x8_1).f1), .string ((rd_T25 l0 x8_1).f2)]] rfl ar ?_; (with_reducible refine (span_May.calls k1 ((rd_T25 l0 x8_1).f0) ((rd_T25 l0 x8_1).f1) ((rd_T25 l0 x8_1).f2) t118 _ ?side1 A5.out).mono ?_); (case side1 => exact Tabs.below HT.out bl); rintro e w9 ⟨rfl, hb⟩; refine ⟨_, rfl, ?_⟩; have n0_ := am (blk_below (g := gb117) (o := .cells #[.int .i64 ((rd_T25 l0 x8_1).f0), .int .i64 ((rd_T25 l0 x8_1).f1), .string ((rd_T25 l0 x8_1).f2)] 25 (0, 0)) (by refine bk ?_; refine blk_put (cs := #[.int .i64 ((rd_T25 l0 x8_1).f0), .int .i64 ((rd_T25 l0 x8_1).f1), .string (⟨#[]⟩ : ByteArray)]) ?_ 2 _ rfl; refine bk ?_; refine blk_put (cs := #[.int .i64 ((rd_T25 l0 x8_1).f0), .int .i64 0, .string (⟨#[]⟩ : ByteArray)]) ?_ 1 _ rfl; refine bk ?_; refine blk_put (cs := #[.int .i64 0, .int .i64 0, .string (⟨#[]⟩ : ByteArray)]) ?_ 0 _ rfl; refine bk ?_; exact BK117.out) hb); have n1_ := am (below_step bl hb); clear BK117; clear HB; have BK117 := n0_; have HB := n1_; clear n0_ n1_; (try clear hb); (try clear hb2); (try clear hk); (try clear hi)))
       go_roundg k1
       case measure => have := HK1.out; omega
       case rel => exact ⟨(wrap64 (x8_1 + 1)), pj, H', ⟨by have := HK1.out; omega⟩, ⟨bl⟩⟩
      ·rw [if_neg c6] at H
       have c6b0 : (t118 == 0) = false := beq_eq_false_iff_ne.mpr c6
       have c6b1 : (t118 != 0) = true := bne_iff_ne.mpr c6
       obtain rfl := Option.some.inj H
       simp only [Option.some.injEq, Prod.mk.injEq] at H
       obtain ⟨rfl⟩ := H
       have p116 : 0 ≤ (x8_1 : Int) := of_decide_eq_true as0
       have q116 : x8_1 < (l0.length : Int) := of_decide_eq_true as0
       obtain ⟨ad116, e116, hx116_0, hx116_1, hx116_2⟩ := at_T25 HR0.out x8_1 p116 q116
       cases e116
       replace hx116_0 := (HB.out.cell (World.block_lt_of_cell? w _ hx116_0)).trans hx116_0
       replace hx116_1 := (HB.out.cell (World.block_lt_of_cell? w _ hx116_1)).trans hx116_1
       replace hx116_2 := (HB.out.cell (World.block_lt_of_cell? w _ hx116_2)).trans hx116_2
       replace p116 := eq_true p116
       replace q116 := eq_true q116
       go_wp2_with (first | ((with_reducible refine gate_dst (N := 4) rfl ?_); refine box_event ?hg (N := 4) ?hd (cs := #[.int .i64 0, .int .i64 0, .string (⟨#[]⟩ : ByteArray)]) (t := 25) ?hr ?_; (case hd => rfl); (case hg => rfl); (case hr => first | (go_simp; done) | (go_simp; rfl)); intro gb117 hg w10 hbox hb; have n0_ := am (below_step bl hb); have n1_ := am (hbox); have n2_ := am ((gs : w.heap.size ≤ gb117)); have n3_ := am ((gs : w.heap.size ≤ gb117)); clear HB; have HB := n0_; have BK117 := n1_; have GW117 := n2_; have GE117 := n3_; clear n0_ n1_ n2_ n3_; clear hb hbox hg; have hcz11_0 : w10.cell? ⟨gb117, 0, none⟩ = some (.int .i64 0) := (blk_cell BK117.out 0).trans rfl; have hcz11_1 : w10.cell? ⟨gb117, 1, none⟩ = some (.int .i64 0) := (blk_cell BK117.out 1).trans rfl; have hcz11_2 : w10.cell? ⟨gb117, 2, none⟩ = some (.string (⟨#[]⟩ : ByteArray)) := (blk_cell BK117.out 2).trans rfl; have hfz11_0 := blk_frozen BK117.out 0; have hfz11_1 := blk_frozen BK117.out 1; have hfz11_2 := blk_frozen BK117.out 2) | ((with_reducible refine gate_callee (f := 84) rfl ?_); refine goesL_ (some 13) rfl rfl Tryd.func84 (by kernel_rfl) rfl #[.agg #[.int .i64 ((rd_T25 l0 x8_1).f0), .int .i64 ((rd_T25 l0 x8_1).f1), .string ((rd_T25 l0 x8_1).f2)]] rfl ar ?_; (with_reducible refine (span_May.calls k1 ((rd_T25 l0 x8_1).f0) ((rd_T25 l0 x8_1).f1) ((rd_T25 l0 x8_1).f2) t118 _ ?side1 A5.out).mono ?_); (case side1 => exact Tabs.below HT.out bl); rintro e w12 ⟨rfl, hb⟩; refine ⟨_, rfl, ?_⟩; have n0_ := am (blk_below (g := gb117) (o := .cells #[.int .i64 ((rd_T25 l0 x8_1).f0), .int .i64 ((rd_T25 l0 x8_1).f1), .string ((rd_T25 l0 x8_1).f2)] 25 (0, 0)) (by refine bk ?_; refine blk_put (cs := #[.int .i64 ((rd_T25 l0 x8_1).f0), .int .i64 ((rd_T25 l0 x8_1).f1), .string (⟨#[]⟩ : ByteArray)]) ?_ 2 _ rfl; refine bk ?_; refine blk_put (cs := #[.int .i64 ((rd_T25 l0 x8_1).f0), .int .i64 0, .string (⟨#[]⟩ : ByteArray)]) ?_ 1 _ rfl; refine bk ?_; refine blk_put (cs := #[.int .i64 0, .int .i64 0, .string (⟨#[]⟩ : ByteArray)]) ?_ 0 _ rfl; refine bk ?_; exact BK117.out) hb); have n1_ := am (below_step bl hb); clear BK117; clear HB; have BK117 := n0_; have HB := n1_; clear n0_ n1_; (try clear hb); (try clear hb2); (try clear hk); (try clear hi)))
       go_ret
       exact ⟨by first | rfl | (simp [errW_none, errW_some] <;> rfl) | (simp [*, errW_none, errW_some] <;> rfl), bl⟩
     ·rw [if_neg c4] at H
      exact absurd H (by simp)
    ·rw [if_neg c3] at H
     exact absurd H (by simp)
   ·rw [if_neg c2] at H
    have c2b0 : decide (x8_1 < (l0.length : Int)) = false := decide_eq_false c2
    clear c2
    replace H := Option.bind_eq_some_iff.mp H
    obtain ⟨t119, A130, H⟩ := H
    replace H : (if t119 > 1048576 then (some 4) else (some 0)) = some r := H
    have A13 := am A130
    clear A130
    by_cases c14 : t119 > 1048576
    ·rw [if_pos c14] at H
     have c14b0 : decide (1048576 < t119) = true := decide_eq_true c14
     clear c14
     obtain rfl := Option.some.inj H
     simp only [Option.some.injEq, Prod.mk.injEq] at H
     obtain ⟨rfl⟩ := H
     go_wp2_with (first | ((with_reducible refine gate_callee (f := 20) rfl ?_); refine goesL_ (some 19) rfl rfl Tryd.func20 (by kernel_rfl) rfl #[.slice A0 l0.length c0] rfl ar ?_; (with_reducible refine (op_In.calls _ _ l0 t119 _ ?side1 ?side2 ?side3 A13.out).mono ?_); (case side1 => repeat (first | exact (Kd.C_below HR0.out HB.out) | (with_reducible refine Kd.C_alloc ?_ _) | (with_reducible refine Kd.C_drewN ?_ _) | (with_reducible refine Kd.C_drew ?_))); (case side2 => exact HC0.out); (case side3 => exact Tabs.below HT.out bl); rintro e w15 ⟨rfl, hb⟩; refine ⟨_, rfl, ?_⟩; have n0_ := am (below_step bl hb); clear HB; have HB := n0_; clear n0_; (try clear hb); (try clear hb2); (try clear hk); (try clear hi)))
     go_ret
     exact ⟨by first | rfl | (simp [errW_none, errW_some] <;> rfl) | (simp [*, errW_none, errW_some] <;> rfl), bl⟩
    ·rw [if_neg c14] at H
     have c14b0 : decide (1048576 < t119) = false := decide_eq_false c14
     clear c14
     obtain rfl := Option.some.inj H
     simp only [Option.some.injEq, Prod.mk.injEq] at H
     obtain ⟨rfl⟩ := H
     go_wp2_with (first | ((with_reducible refine gate_callee (f := 20) rfl ?_); refine goesL_ (some 19) rfl rfl Tryd.func20 (by kernel_rfl) rfl #[.slice A0 l0.length c0] rfl ar ?_; (with_reducible refine (op_In.calls _ _ l0 t119 _ ?side1 ?side2 ?side3 A13.out).mono ?_); (case side1 => repeat (first | exact (Kd.C_below HR0.out HB.out) | (with_reducible refine Kd.C_alloc ?_ _) | (with_reducible refine Kd.C_drewN ?_ _) | (with_reducible refine Kd.C_drew ?_))); (case side2 => exact HC0.out); (case side3 => exact Tabs.below HT.out bl); rintro e w16 ⟨rfl, hb⟩; refine ⟨_, rfl, ?_⟩; have n0_ := am (below_step bl hb); clear HB; have HB := n0_; clear n0_; (try clear hb); (try clear hb2); (try clear hk); (try clear hi)))
     go_ret
     exact ⟨by first | rfl | (simp [errW_none, errW_some] <;> rfl) | (simp [*, errW_none, errW_some] <;> rfl), bl⟩
def points_Count.f (a0 : ByteArray) : Option Int := if a0.size < 9223372036854775807 then some (countT a0) else none
def points_Count.J (s : ByteArray) (B : Nat) (w0 : World) (k : Nat) (wr : World) : Prop :=
 (∃ b, k + Lib.runeCountFrom s b (posT s k) = Lib.runeCount s ∧ s.size ≤ posT s k + b) ∧ k ≤ Lib.runeCount s ∧ Below B w0 wr
theorem points_Count.start (w1 : World) (s : ByteArray) : (w1.iter s 0).heap[w1.heap.size]? = some (.stringIter s (posT s 0)) := by
 show (w1.heap.push _)[w1.heap.size]? = _
 rw [Array.getElem?_push_size]; rfl
set_option maxHeartbeats 8000000 in
set_option maxRecDepth 100000 in
theorem points_Count.calls (a0 : ByteArray) (r : Int) (w : World) (hT : Tabs w) (h : points_Count.f a0 = some r) :
  Calls Tryd.prog 10 #[.string a0] w fun e w' => e = .returned (.int .i64 r) ∧ Below w.heap.size w w' := by
 unfold points_Count.f at h
 by_cases c : a0.size < 9223372036854775807
 ·rw [if_pos c] at h
  obtain rfl := Option.some.inj h
  clear h
  have hv := points_Valid.calls a0 (validT a0) w hT (by unfold points_Valid.f; rw [if_pos c])
  have HV := am hv
  clear hv
  have HS := am c
  by_cases v : validT a0 = true
  ·have HR : Aside0 (countT a0 = (Lib.runeCount a0 : Int)) := ⟨by unfold countT; rw [if_pos v]⟩
   rw [HR.out]
   rw [v] at HV
   clear v HR
   go_enter Tryd.func10, Tryd.ntmps10
   go_wp2_with (go_at_call 41; (with_reducible refine (HV.out).mono ?_); rintro e w1 ⟨rfl, hb⟩)
   have HB := am hb
   clear hb
   go_loopw [3] (fun v3 wr => ∃ k : Nat, v3 = .int .i64 k ∧ wr.heap[w1.heap.size]? = some (.stringIter a0 (posT a0 k)) ∧ Aside0 (points_Count.J a0 w.heap.size w k wr)) (fun _ wr => a0.size - wr.iterPos w1.heap.size)
   case atStart => exact ⟨0, rfl, points_Count.start w1 a0, ⟨⟨a0.size, by simp [posT, Lib.runeCount], by simp [posT]⟩, Nat.zero_le _, HB.out.alloc HB.out.size _⟩⟩
   case round =>
    obtain ⟨k, rfl, hit, HJ⟩ := hrel
    have HI := am hit
    have hcnt := runeCount_lt a0
    have hsz := HS.out
    by_cases hp : posT a0 k < a0.size
    ·have hnx : ∀ ty, (Instr.next (.pointer (some ⟨w1.heap.size, 0, none⟩)) true ty).run Tryd.prog wr = _ := fun ty => Lib.run_next_any_at wr w1.heap.size a0 (posT a0 k) ty hit hp
     have hk := HJ.out.2.1
     clear hit
     go_wp2
     have hwd := Lib.decode_width_pos a0 (posT a0 k) hp
     obtain ⟨⟨b, j1, j2⟩, j3, j4⟩ := HJ.out
     have hj := runeCount_from a0 k b j1 j2 hp
     have e : posT a0 (k + 1) = posT a0 k + (Utf8.decode a0 (posT a0 k)).2 := by rw [posT, if_pos hp]
     go_roundw
     case rel =>
      exact ⟨k + 1, by go_num, by rw [e]; exact Lib.iterAt_heap _ _ _ _ _ HI.out, ⟨⟨⟨b - 1, hj.1, hj.2⟩, by omega, Lib.below_iterAt j4 HB.out.size _ _⟩⟩⟩
     case measure =>
      have h1 : wr.iterPos w1.heap.size = posT a0 k := by simp [World.iterPos, HI.out]
      rw [h1]
      simp [World.iterPos, Lib.iterAt_heap _ _ _ _ _ HI.out]
      omega
    ·have hnx : ∀ ty, (Instr.next (.pointer (some ⟨w1.heap.size, 0, none⟩)) true ty).run Tryd.prog wr = _ := fun ty => Lib.run_next_end_at wr w1.heap.size a0 (posT a0 k) ty hit hp
     obtain ⟨⟨b, j1, j2⟩, j3, j4⟩ := HJ.out
     rw [Lib.runeCountFrom_end a0 b _ hp, Nat.add_zero] at j1
     have J1 := am j1
     clear hit j1
     go_wp2
     go_ret
     exact ⟨by rw [J1.out]; rfl, j4⟩
  ·have v' : validT a0 = false := by simpa using v
   have HR : Aside0 (countT a0 = -1) := ⟨by unfold countT; rw [if_neg v]⟩
   rw [HR.out]
   rw [v'] at HV
   clear v v' HR
   go_enter Tryd.func10, Tryd.ntmps10
   go_wp2_with (go_at_call 41; (with_reducible refine (HV.out).mono ?_); rintro e w1 ⟨rfl, hb⟩)
   go_ret
   exact ⟨rfl, hb⟩
 ·rw [if_neg c] at h; cases h
def span_Out.f (a0_0 : Int) (a0_1 : Int) (a0_2 : ByteArray) : Option (Int) := (span_of.f a0_0 a0_1 a0_2).bind fun bt121 => (if bt121.2.1 = true then (some a0_1) else (if a0_0 = 2 then ((points_Count.f a0_2).bind fun t125 => (some (mx t125 0))) else (some 0)))
set_option maxHeartbeats 8000000 in
set_option maxRecDepth 100000 in
theorem span_Out.calls (a0_0 : Int) (a0_1 : Int) (a0_2 : ByteArray) (r : Int) (w : World) (hT : Tabs w) (h : span_Out.f a0_0 a0_1 a0_2 = some r) :
  Calls Tryd.prog 48 #[.agg #[.int .i64 a0_0, .int .i64 a0_1, .string a0_2]] w fun e w' => e = .returned (.int .i64 r) ∧ Below w.heap.size w w' := by
 have HT := am hT
 clear hT
 have hu25 := Tryd.underlying25
 have hu138 := Tryd.underlying138
 have HB := am (Below.refl w.heap.size w)
 have H : ((span_of.f a0_0 a0_1 a0_2).bind fun bt121 => (if bt121.2.1 = true then (some a0_1) else (if a0_0 = 2 then ((points_Count.f a0_2).bind fun t125 => (some (mx t125 0))) else (some 0)))) = some r := h
 clear h
 replace H := Option.bind_eq_some_iff.mp H
 obtain ⟨⟨t121, t122, t123⟩, A20, H⟩ := H
 replace H : (if t122 = true then (some a0_1) else (if a0_0 = 2 then ((points_Count.f a0_2).bind fun t125 => (some (mx t125 0))) else (some 0))) = some r := H
 have A2 := am A20
 clear A20
 by_cases c3 : t122 = true
 ·subst c3
  have H1 : (some a0_1) = some r := by rw [if_pos rfl] at H; exact H
  clear H
  have H := H1
  clear H1
  obtain rfl := Option.some.inj H
  simp only [Option.some.injEq, Prod.mk.injEq] at H
  obtain ⟨rfl⟩ := H
  go_enter Tryd.func48, Tryd.ntmps48
  go_wp2_with (first | ((with_reducible refine gate_dst (N := 1) rfl ?_); refine box_event ?hg (N := 1) ?hd (cs := #[.int .i64 a0_0, .int .i64 a0_1, .string a0_2]) (t := 25) ?hr ?_; (case hd => rfl); (case hg => rfl); (case hr => first | (go_simp; done) | (go_simp; rfl)); intro gb120 hg w4 hbox hb; have n0_ := am (below_step bl hb); have n1_ := am (hbox); have n2_ := am ((gs : w.heap.size ≤ gb120)); have n3_ := am ((gs : w.heap.size ≤ gb120)); clear HB; have HB := n0_; have BK120 := n1_; have GW120 := n2_; have GE120 := n3_; clear n0_ n1_ n2_ n3_; clear hb hbox hg; have hcz5_0 : w4.cell? ⟨gb120, 0, none⟩ = some (.int .i64 a0_0) := (blk_cell BK120.out 0).trans rfl; have hcz5_1 : w4.cell? ⟨gb120, 1, none⟩ = some (.int .i64 a0_1) := (blk_cell BK120.out 1).trans rfl; have hcz5_2 : w4.cell? ⟨gb120, 2, none⟩ = some (.string a0_2) := (blk_cell BK120.out 2).trans rfl; have hfz5_0 := blk_frozen BK120.out 0; have hfz5_1 := blk_frozen BK120.out 1; have hfz5_2 := blk_frozen BK120.out 2) | ((with_reducible refine gate_callee (f := 85) rfl ?_); refine goesL_ (some 7) rfl rfl Tryd.func85 (by kernel_rfl) rfl #[.agg #[.int .i64 a0_0, .int .i64 a0_1, .string a0_2]] rfl ar ?_; (with_reducible refine (span_of.calls a0_0 a0_1 a0_2 t121 true t123 _ ?side1 A2.out).mono ?_); (case side1 => exact Tabs.below HT.out bl); rintro e w6 ⟨rfl, hb⟩; refine ⟨_, rfl, ?_⟩; have n0_ := am (blk_below (g := gb120) (o := .cells #[.int .i64 a0_0, .int .i64 a0_1, .string a0_2] 25 (0, 0)) (by refine bk ?_; exact BK120.out) hb); have n1_ := am (below_step bl hb); clear BK120; clear HB; have BK120 := n0_; have HB := n1_; clear n0_ n1_; (try clear hb); (try clear hb2); (try clear hk); (try clear hi)) | ((with_reducible refine gate_dst (N := 3) rfl ?_); refine box_event ?hg (N := 3) ?hd (cs := #[.bool false, .bool false]) (t := 138) ?hr ?_; (case hd => rfl); (case hg => rfl); (case hr => first | (go_simp; done) | (go_simp; rfl)); intro gb124 hg w7 hbox hb; have n0_ := am (blk_below (g := gb120) (o := .cells #[.int .i64 a0_0, .int .i64 a0_1, .string a0_2] 25 (0, 0)) (by refine bk ?_; exact BK120.out) hb); have n1_ := am (below_step bl hb); have n2_ := am (hbox); have n3_ := am ((gs : w.heap.size ≤ gb124)); have n4_ := am ((gs : w.heap.size ≤ gb124)); have n5_ := am ((by rw [hg]; exact Nat.ne_of_lt (blk_lt (g := gb120) (o := .cells #[.int .i64 a0_0, .int .i64 a0_1, .string a0_2] 25 (0, 0)) (by refine bk ?_; exact BK120.out)) : gb120 ≠ gb124)); have n6_ := am ((by rw [hg]; exact Nat.ne_of_gt (blk_lt (g := gb120) (o := .cells #[.int .i64 a0_0, .int .i64 a0_1, .string a0_2] 25 (0, 0)) (by refine bk ?_; exact BK120.out)) : gb124 ≠ gb120)); clear BK120; clear HB; have BK120 := n0_; have HB := n1_; have BK124 := n2_; have GW124 := n3_; have GE124 := n4_; have NB120_124 := n5_; have NB124_120 := n6_; clear n0_ n1_ n2_ n3_ n4_ n5_ n6_; clear hb hbox hg; have hnb8 := NB124_120.out; have hnc8 := NB120_124.out; have hcz9_0 : w7.cell? ⟨gb124, 0, none⟩ = some (.bool false) := (blk_cell BK124.out 0).trans rfl; have hcz9_1 : w7.cell? ⟨gb124, 1, none⟩ = some (.bool false) := (blk_cell BK124.out 1).trans rfl; have hfz9_0 := blk_frozen BK124.out 0; have hfz9_1 := blk_frozen BK124.out 1; have hcz10_0 : w7.cell? ⟨gb120, 0, none⟩ = some (.int .i64 a0_0) := (blk_cell BK120.out 0).trans rfl; have hcz10_1 : w7.cell? ⟨gb120, 1, none⟩ = some (.int .i64 a0_1) := (blk_cell BK120.out 1).trans rfl; have hcz10_2 : w7.cell? ⟨gb120, 2, none⟩ = some (.string a0_2) := (blk_cell BK120.out 2).trans rfl; have hfz10_0 := blk_frozen BK120.out 0; have hfz10_1 := blk_frozen BK120.out 1; have hfz10_2 := blk_frozen BK120.out 2))
  go_ret
  exact ⟨by first | rfl | (simp [errW_none, errW_some] <;> rfl) | (simp [*, errW_none, errW_some] <;> rfl), bl⟩
 ·replace c3 := Bool.eq_false_iff.mpr c3
  subst c3
  have H1 : (if a0_0 = 2 then ((points_Count.f a0_2).bind fun t125 => (some (mx t125 0))) else (some 0)) = some r := by rw [if_neg (show ¬ (false = true) by decide)] at H; exact H
  clear H
  have H := H1
  clear H1
  by_cases c11 : a0_0 = 2
  ·rw [if_pos c11] at H
   have c11b0 : (a0_0 == 2) = true := beq_iff_eq.mpr c11
   have c11b1 : (a0_0 != 2) = false := bne_eq_false_iff_eq.mpr c11
   clear c11
   replace H := Option.bind_eq_some_iff.mp H
   obtain ⟨t125, A120, H⟩ := H
   replace H : (some (mx t125 0)) = some r := H
   have A12 := am A120
   clear A120
   obtain ⟨ji13, hji13⟩ : ∃ j_ : Int, (mx t125 0) = j_ := ⟨_, rfl⟩
   replace H : (some ji13) = some r := by first | (rw [hji13] at H; exact H) | (simp only [hji13] at H ⊢; exact H)
   (try rw [hji13] at A2)
   (try rw [hji13] at A12)
   (try (have hji13l : 0 ≤ ji13 := by (rw [← hji13]; unfold mx; (repeat' split) <;> omega)))
   (try (have hji13m : 0 ≤ ji13 := by omega))
   have hji13_ : (if t125 < 0 then 0 else t125) = ji13 := hji13
   obtain rfl := Option.some.inj H
   simp only [Option.some.injEq, Prod.mk.injEq] at H
   obtain ⟨rfl⟩ := H
   go_enter Tryd.func48, Tryd.ntmps48
   go_wp2_with (first | ((with_reducible refine gate_dst (N := 1) rfl ?_); refine box_event ?hg (N := 1) ?hd (cs := #[.int .i64 a0_0, .int .i64 a0_1, .string a0_2]) (t := 25) ?hr ?_; (case hd => rfl); (case hg => rfl); (case hr => first | (go_simp; done) | (go_simp; rfl)); intro gb120 hg w14 hbox hb; have n0_ := am (below_step bl hb); have n1_ := am (hbox); have n2_ := am ((gs : w.heap.size ≤ gb120)); have n3_ := am ((gs : w.heap.size ≤ gb120)); clear HB; have HB := n0_; have BK120 := n1_; have GW120 := n2_; have GE120 := n3_; clear n0_ n1_ n2_ n3_; clear hb hbox hg; have hcz15_0 : w14.cell? ⟨gb120, 0, none⟩ = some (.int .i64 a0_0) := (blk_cell BK120.out 0).trans rfl; have hcz15_1 : w14.cell? ⟨gb120, 1, none⟩ = some (.int .i64 a0_1) := (blk_cell BK120.out 1).trans rfl; have hcz15_2 : w14.cell? ⟨gb120, 2, none⟩ = some (.string a0_2) := (blk_cell BK120.out 2).trans rfl; have hfz15_0 := blk_frozen BK120.out 0; have hfz15_1 := blk_frozen BK120.out 1; have hfz15_2 := blk_frozen BK120.out 2) | ((with_reducible refine gate_callee (f := 85) rfl ?_); refine goesL_ (some 7) rfl rfl Tryd.func85 (by kernel_rfl) rfl #[.agg #[.int .i64 a0_0, .int .i64 a0_1, .string a0_2]] rfl ar ?_; (with_reducible refine (span_of.calls a0_0 a0_1 a0_2 t121 false t123 _ ?side1 A2.out).mono ?_); (case side1 => exact Tabs.below HT.out bl); rintro e w16 ⟨rfl, hb⟩; refine ⟨_, rfl, ?_⟩; have n0_ := am (blk_below (g := gb120) (o := .cells #[.int .i64 a0_0, .int .i64 a0_1, .string a0_2] 25 (0, 0)) (by refine bk ?_; exact BK120.out) hb); have n1_ := am (below_step bl hb); clear BK120; clear HB; have BK120 := n0_; have HB := n1_; clear n0_ n1_; (try clear hb); (try clear hb2); (try clear hk); (try clear hi)) | ((with_reducible refine gate_dst (N := 3) rfl ?_); refine box_event ?hg (N := 3) ?hd (cs := #[.bool false, .bool false]) (t := 138) ?hr ?_; (case hd => rfl); (case hg => rfl); (case hr => first | (go_simp; done) | (go_simp; rfl)); intro gb124 hg w17 hbox hb; have n0_ := am (blk_below (g := gb120) (o := .cells #[.int .i64 a0_0, .int .i64 a0_1, .string a0_2] 25 (0, 0)) (by refine bk ?_; exact BK120.out) hb); have n1_ := am (below_step bl hb); have n2_ := am (hbox); have n3_ := am ((gs : w.heap.size ≤ gb124)); have n4_ := am ((gs : w.heap.size ≤ gb124)); have n5_ := am ((by rw [hg]; exact Nat.ne_of_lt (blk_lt (g := gb120) (o := .cells #[.int .i64 a0_0, .int .i64 a0_1, .string a0_2] 25 (0, 0)) (by refine bk ?_; exact BK120.out)) : gb120 ≠ gb124)); have n6_ := am ((by rw [hg]; exact Nat.ne_of_gt (blk_lt (g := gb120) (o := .cells #[.int .i64 a0_0, .int .i64 a0_1, .string a0_2] 25 (0, 0)) (by refine bk ?_; exact BK120.out)) : gb124 ≠ gb120)); clear BK120; clear HB; have BK120 := n0_; have HB := n1_; have BK124 := n2_; have GW124 := n3_; have GE124 := n4_; have NB120_124 := n5_; have NB124_120 := n6_; clear n0_ n1_ n2_ n3_ n4_ n5_ n6_; clear hb hbox hg; have hnb18 := NB124_120.out; have hnc18 := NB120_124.out; have hcz19_0 : w17.cell? ⟨gb124, 0, none⟩ = some (.bool false) := (blk_cell BK124.out 0).trans rfl; have hcz19_1 : w17.cell? ⟨gb124, 1, none⟩ = some (.bool false) := (blk_cell BK124.out 1).trans rfl; have hfz19_0 := blk_frozen BK124.out 0; have hfz19_1 := blk_frozen BK124.out 1; have hcz20_0 : w17.cell? ⟨gb120, 0, none⟩ = some (.int .i64 a0_0) := (blk_cell BK120.out 0).trans rfl; have hcz20_1 : w17.cell? ⟨gb120, 1, none⟩ = some (.int .i64 a0_1) := (blk_cell BK120.out 1).trans rfl; have hcz20_2 : w17.cell? ⟨gb120, 2, none⟩ = some (.string a0_2) := (blk_cell BK120.out 2).trans rfl; have hfz20_0 := blk_frozen BK120.out 0; have hfz20_1 := blk_frozen BK120.out 1; have hfz20_2 := blk_frozen BK120.out 2) | ((with_reducible refine gate_callee (f := 10) rfl ?_); refine goesL_ (some 21) rfl rfl Tryd.func10 (by kernel_rfl) rfl #[.string a0_2] rfl ar ?_; (with_reducible refine (points_Count.calls a0_2 t125 _ ?side1 A12.out).mono ?_); (case side1 => exact Tabs.below HT.out bl); rintro e w21 ⟨rfl, hb⟩; refine ⟨_, rfl, ?_⟩; have n0_ := am (blk_below (g := gb120) (o := .cells #[.int .i64 a0_0, .int .i64 a0_1, .string a0_2] 25 (0, 0)) (by refine bk ?_; refine blk_far ?_ NB120_124.out _; refine bk ?_; refine blk_far ?_ NB120_124.out _; refine bk ?_; exact BK120.out) hb); have n1_ := am (blk_below (g := gb124) (o := .cells #[.bool t121, .bool false] 138 (0, 0)) (by refine bk ?_; refine blk_put (cs := #[.bool t121, .bool false]) ?_ 1 _ rfl; refine bk ?_; refine blk_put (cs := #[.bool false, .bool false]) ?_ 0 _ rfl; refine bk ?_; exact BK124.out) hb); have n2_ := am (below_step bl hb); clear BK120; clear BK124; clear HB; have BK120 := n0_; have BK124 := n1_; have HB := n2_; clear n0_ n1_ n2_; (try clear hb); (try clear hb2); (try clear hk); (try clear hi)))
   go_ret
   exact ⟨by first | rfl | (simp [errW_none, errW_some] <;> rfl) | (simp only [← hji13]; first | rfl | (simp [errW_none, errW_some] <;> rfl)) | (simp [*, errW_none, errW_some] <;> rfl), bl⟩
  ·rw [if_neg c11] at H
   have c11b0 : (a0_0 == 2) = false := beq_eq_false_iff_ne.mpr c11
   have c11b1 : (a0_0 != 2) = true := bne_iff_ne.mpr c11
   obtain rfl := Option.some.inj H
   simp only [Option.some.injEq, Prod.mk.injEq] at H
   obtain ⟨rfl⟩ := H
   go_enter Tryd.func48, Tryd.ntmps48
   go_wp2_with (first | ((with_reducible refine gate_dst (N := 1) rfl ?_); refine box_event ?hg (N := 1) ?hd (cs := #[.int .i64 a0_0, .int .i64 a0_1, .string a0_2]) (t := 25) ?hr ?_; (case hd => rfl); (case hg => rfl); (case hr => first | (go_simp; done) | (go_simp; rfl)); intro gb120 hg w22 hbox hb; have n0_ := am (below_step bl hb); have n1_ := am (hbox); have n2_ := am ((gs : w.heap.size ≤ gb120)); have n3_ := am ((gs : w.heap.size ≤ gb120)); clear HB; have HB := n0_; have BK120 := n1_; have GW120 := n2_; have GE120 := n3_; clear n0_ n1_ n2_ n3_; clear hb hbox hg; have hcz23_0 : w22.cell? ⟨gb120, 0, none⟩ = some (.int .i64 a0_0) := (blk_cell BK120.out 0).trans rfl; have hcz23_1 : w22.cell? ⟨gb120, 1, none⟩ = some (.int .i64 a0_1) := (blk_cell BK120.out 1).trans rfl; have hcz23_2 : w22.cell? ⟨gb120, 2, none⟩ = some (.string a0_2) := (blk_cell BK120.out 2).trans rfl; have hfz23_0 := blk_frozen BK120.out 0; have hfz23_1 := blk_frozen BK120.out 1; have hfz23_2 := blk_frozen BK120.out 2) | ((with_reducible refine gate_callee (f := 85) rfl ?_); refine goesL_ (some 7) rfl rfl Tryd.func85 (by kernel_rfl) rfl #[.agg #[.int .i64 a0_0, .int .i64 a0_1, .string a0_2]] rfl ar ?_; (with_reducible refine (span_of.calls a0_0 a0_1 a0_2 t121 false t123 _ ?side1 A2.out).mono ?_); (case side1 => exact Tabs.below HT.out bl); rintro e w24 ⟨rfl, hb⟩; refine ⟨_, rfl, ?_⟩; have n0_ := am (blk_below (g := gb120) (o := .cells #[.int .i64 a0_0, .int .i64 a0_1, .string a0_2] 25 (0, 0)) (by refine bk ?_; exact BK120.out) hb); have n1_ := am (below_step bl hb); clear BK120; clear HB; have BK120 := n0_; have HB := n1_; clear n0_ n1_; (try clear hb); (try clear hb2); (try clear hk); (try clear hi)) | ((with_reducible refine gate_dst (N := 3) rfl ?_); refine box_event ?hg (N := 3) ?hd (cs := #[.bool false, .bool false]) (t := 138) ?hr ?_; (case hd => rfl); (case hg => rfl); (case hr => first | (go_simp; done) | (go_simp; rfl)); intro gb124 hg w25 hbox hb; have n0_ := am (blk_below (g := gb120) (o := .cells #[.int .i64 a0_0, .int .i64 a0_1, .string a0_2] 25 (0, 0)) (by refine bk ?_; exact BK120.out) hb); have n1_ := am (below_step bl hb); have n2_ := am (hbox); have n3_ := am ((gs : w.heap.size ≤ gb124)); have n4_ := am ((gs : w.heap.size ≤ gb124)); have n5_ := am ((by rw [hg]; exact Nat.ne_of_lt (blk_lt (g := gb120) (o := .cells #[.int .i64 a0_0, .int .i64 a0_1, .string a0_2] 25 (0, 0)) (by refine bk ?_; exact BK120.out)) : gb120 ≠ gb124)); have n6_ := am ((by rw [hg]; exact Nat.ne_of_gt (blk_lt (g := gb120) (o := .cells #[.int .i64 a0_0, .int .i64 a0_1, .string a0_2] 25 (0, 0)) (by refine bk ?_; exact BK120.out)) : gb124 ≠ gb120)); clear BK120; clear HB; have BK120 := n0_; have HB := n1_; have BK124 := n2_; have GW124 := n3_; have GE124 := n4_; have NB120_124 := n5_; have NB124_120 := n6_; clear n0_ n1_ n2_ n3_ n4_ n5_ n6_; clear hb hbox hg; have hnb26 := NB124_120.out; have hnc26 := NB120_124.out; have hcz27_0 : w25.cell? ⟨gb124, 0, none⟩ = some (.bool false) := (blk_cell BK124.out 0).trans rfl; have hcz27_1 : w25.cell? ⟨gb124, 1, none⟩ = some (.bool false) := (blk_cell BK124.out 1).trans rfl; have hfz27_0 := blk_frozen BK124.out 0; have hfz27_1 := blk_frozen BK124.out 1; have hcz28_0 : w25.cell? ⟨gb120, 0, none⟩ = some (.int .i64 a0_0) := (blk_cell BK120.out 0).trans rfl; have hcz28_1 : w25.cell? ⟨gb120, 1, none⟩ = some (.int .i64 a0_1) := (blk_cell BK120.out 1).trans rfl; have hcz28_2 : w25.cell? ⟨gb120, 2, none⟩ = some (.string a0_2) := (blk_cell BK120.out 2).trans rfl; have hfz28_0 := blk_frozen BK120.out 0; have hfz28_1 := blk_frozen BK120.out 1; have hfz28_2 := blk_frozen BK120.out 2))
   go_ret
   exact ⟨by first | rfl | (simp [errW_none, errW_some] <;> rfl) | (simp [*, errW_none, errW_some] <;> rfl), bl⟩
set_option maxHeartbeats 8000000 in
set_option maxRecDepth 100000 in
theorem op_sum.callsspan_Out (A0 : Option Addr) (c0 : Nat) (l0 : List S25) (r : Int) (w : World) (hr0 : Kd.C k25 w A0 l0.length l0) (hc0 : l0.length ≤ c0) (hs : l0.length < 9223372036854775807) (hT : Tabs w) (h : op_sum.l (fun x : S25 => span_Out.f x.f0 x.f1 x.f2) 0 l0 = some r) :
  Calls Tryd.prog 59 #[.slice A0 l0.length c0, .func (Fn.func 48) #[] #[]] w fun e w' => e = .returned (.int .i64 r) ∧ Below w.heap.size w w' := by
 have HR0 := am hr0; have HC0 := am hc0; have HT := am hT; have HZ := am hs; have H := am h
 clear hr0 hc0 hT hs h
 go_enter Tryd.func59, Tryd.ntmps59
 go_wp2
 go_loopw [5, 10] (fun v5 v10 wr => ∃ j : Nat, v10 = .int .i64 j ∧ j ≤ l0.length ∧ ∃ n : Int, v5 = .int .i64 n ∧ Aside0 (op_sum.l (fun x : S25 => span_Out.f x.f0 x.f1 x.f2) n (l0.drop j) = some r) ∧ Aside0 (Below w.heap.size w wr)) (fun _ v10 _ => l0.length - (intOf v10).toNat)
 case atStart => exact ⟨0, rfl, Nat.zero_le _, 0, rfl, H, ⟨Below.refl _ _⟩⟩
 case round =>
  clear H
  obtain ⟨j, rfl, hj, n, rfl, HA, HB⟩ := hrel
  by_cases hlt : j < l0.length
  ·have hltb : decide ((j : Int) < (l0.length : Int)) = true := decide_eq_true (by omega)
   have HL := am hlt
   have h := HA.out
   clear HA
   rw [op_sum.next l0 j hlt, op_sum.l] at h
   obtain ⟨v, hv, h⟩ := Option.bind_eq_some_iff.mp h
   obtain ⟨ad, rfl, hx0, hx1, hx2⟩ := at_T25 (Kd.C_below HR0.out HB.out) (j : Int) (by omega) (by omega)
   rw [Int.toNat_natCast] at hx0 hx1 hx2
   have p1 : (0 ≤ (j : Int)) = True := eq_true (by omega)
   have p2 : ((j : Int) < (l0.length : Int)) = True := eq_true (by omega)
   have p3 : (j < l0.length) = True := eq_true hlt
   have HV := am hv
   have HE := am h
   have ew : wrap64 ((j : Int) + 1) = ((j + 1 : Nat) : Int) := by have := HZ.out; unfold wrap64; omega
   clear h hv hlt
   go_wp2_with (go_at_call 48; (with_reducible refine (span_Out.calls _ _ _ v _ (Tabs.below HT.out (below_alloc HB.out _)) HV.out).mono ?_); rintro e w1 ⟨rfl, hb⟩; have HB1 := am (below_then (below_alloc HB.out _) (below_alloc HB.out _).size hb); clear hb)
   go_round
   case measure => exact op_sum.less HL.out ew
   case rel => exact ⟨j + 1, by rw [ew], HL.out, _, rfl, HE, HB1⟩
  ·have hltb : decide ((j : Int) < (l0.length : Int)) = false := decide_eq_false (by omega)
   have h := HA.out
   clear HA
   rw [List.drop_of_length_le (by omega), op_sum.l] at h
   obtain rfl := Option.some.inj h
   go_wp2
   go_ret
   exact ⟨rfl, HB.out⟩
def op_Out.f (l0 : List S25) : Option Int := if l0.length < 9223372036854775807 then op_sum.l (fun x : S25 => span_Out.f x.f0 x.f1 x.f2) 0 l0 else none
set_option maxHeartbeats 8000000 in
set_option maxRecDepth 100000 in
theorem op_Out.calls (A0 : Option Addr) (c0 : Nat) (l0 : List S25) (r : Int) (w : World) (hr0 : Kd.C k25 w A0 l0.length l0) (hc0 : l0.length ≤ c0) (hT : Tabs w) (h : op_Out.f l0 = some r) :
  Calls Tryd.prog 62 #[.slice A0 l0.length c0] w fun e w' => e = .returned (.int .i64 r) ∧ Below w.heap.size w w' := by
 unfold op_Out.f at h
 by_cases c : l0.length < 9223372036854775807
 ·rw [if_pos c] at h
  have HW := am (op_sum.callsspan_Out A0 c0 l0 r w hr0 hc0 c hT h)
  clear hr0 hc0 c hT h
  go_enter Tryd.func62, Tryd.ntmps62
  go_wp2_with (go_at_call 59; (with_reducible refine HW.out.mono ?_); rintro e w1 ⟨rfl, hb⟩; have HB1 := am hb; clear hb)
  go_ret
  exact ⟨rfl, HB1.out⟩
 ·rw [if_neg c] at h; cases h
def normal_empty.f (a0_0 : Int) (a0_1 : Int) (a0_2 : ByteArray) : Option (Bool) := if a0_1 = 0 then (some (a0_2.toList == ([] : List UInt8))) else (some false)
set_option maxHeartbeats 8000000 in
set_option maxRecDepth 100000 in
theorem normal_empty.calls (a0_0 : Int) (a0_1 : Int) (a0_2 : ByteArray) (r : Bool) (w : World) (h : normal_empty.f a0_0 a0_1 a0_2 = some r) :
  Calls Tryd.prog 74 #[.agg #[.int .i64 a0_0, .int .i64 a0_1, .string a0_2]] w fun e w' => e = .returned (.bool r) ∧ Below w.heap.size w w' := by
 have hu25 := Tryd.underlying25
 have HB := am (Below.refl w.heap.size w)
 have H : (if a0_1 = 0 then (some (a0_2.toList == ([] : List UInt8))) else (some false)) = some r := h
 clear h
 by_cases c2 : a0_1 = 0
 ·rw [if_pos c2] at H
  have c2b0 : (a0_1 == 0) = true := beq_iff_eq.mpr c2
  have c2b1 : (a0_1 != 0) = false := bne_eq_false_iff_eq.mpr c2
  clear c2
  obtain rfl := Option.some.inj H
  simp only [Option.some.injEq, Prod.mk.injEq] at H
  obtain ⟨rfl⟩ := H
  go_enter Tryd.func74, Tryd.ntmps74
  go_wp2_with (first | ((with_reducible refine gate_dst (N := 1) rfl ?_); refine box_event ?hg (N := 1) ?hd (cs := #[.int .i64 a0_0, .int .i64 a0_1, .string a0_2]) (t := 25) ?hr ?_; (case hd => rfl); (case hg => rfl); (case hr => first | (go_simp; done) | (go_simp; rfl)); intro gb109 hg w3 hbox hb; have n0_ := am (below_step bl hb); have n1_ := am (hbox); have n2_ := am ((gs : w.heap.size ≤ gb109)); have n3_ := am ((gs : w.heap.size ≤ gb109)); clear HB; have HB := n0_; have BK109 := n1_; have GW109 := n2_; have GE109 := n3_; clear n0_ n1_ n2_ n3_; clear hb hbox hg; have hcz4_0 : w3.cell? ⟨gb109, 0, none⟩ = some (.int .i64 a0_0) := (blk_cell BK109.out 0).trans rfl; have hcz4_1 : w3.cell? ⟨gb109, 1, none⟩ = some (.int .i64 a0_1) := (blk_cell BK109.out 1).trans rfl; have hcz4_2 : w3.cell? ⟨gb109, 2, none⟩ = some (.string a0_2) := (blk_cell BK109.out 2).trans rfl; have hfz4_0 := blk_frozen BK109.out 0; have hfz4_1 := blk_frozen BK109.out 1; have hfz4_2 := blk_frozen BK109.out 2))
  go_ret
  exact ⟨by first | rfl | (simp [errW_none, errW_some] <;> rfl) | (simp [*, errW_none, errW_some] <;> rfl), bl⟩
 ·rw [if_neg c2] at H
  have c2b0 : (a0_1 == 0) = false := beq_eq_false_iff_ne.mpr c2
  have c2b1 : (a0_1 != 0) = true := bne_iff_ne.mpr c2
  obtain rfl := Option.some.inj H
  simp only [Option.some.injEq, Prod.mk.injEq] at H
  obtain ⟨rfl⟩ := H
  go_enter Tryd.func74, Tryd.ntmps74
  go_wp2_with (first | ((with_reducible refine gate_dst (N := 1) rfl ?_); refine box_event ?hg (N := 1) ?hd (cs := #[.int .i64 a0_0, .int .i64 a0_1, .string a0_2]) (t := 25) ?hr ?_; (case hd => rfl); (case hg => rfl); (case hr => first | (go_simp; done) | (go_simp; rfl)); intro gb109 hg w5 hbox hb; have n0_ := am (below_step bl hb); have n1_ := am (hbox); have n2_ := am ((gs : w.heap.size ≤ gb109)); have n3_ := am ((gs : w.heap.size ≤ gb109)); clear HB; have HB := n0_; have BK109 := n1_; have GW109 := n2_; have GE109 := n3_; clear n0_ n1_ n2_ n3_; clear hb hbox hg; have hcz6_0 : w5.cell? ⟨gb109, 0, none⟩ = some (.int .i64 a0_0) := (blk_cell BK109.out 0).trans rfl; have hcz6_1 : w5.cell? ⟨gb109, 1, none⟩ = some (.int .i64 a0_1) := (blk_cell BK109.out 1).trans rfl; have hcz6_2 : w5.cell? ⟨gb109, 2, none⟩ = some (.string a0_2) := (blk_cell BK109.out 2).trans rfl; have hfz6_0 := blk_frozen BK109.out 0; have hfz6_1 := blk_frozen BK109.out 1; have hfz6_2 := blk_frozen BK109.out 2))
  go_ret
  exact ⟨by first | rfl | (simp [errW_none, errW_some] <;> rfl) | (simp [*, errW_none, errW_some] <;> rfl), bl⟩
def encP (x : S25) : List Value := [.int .i64 x.f0, .int .i64 x.f1, .string x.f2]
def encS : List S25 → List Value
 | [] => []
 | x :: l => encP x ++ encS l
theorem encS_len : ∀ l : List S25, (encS l).length = l.length * 3
 | [] => rfl
 | x :: l => by rw [encS, List.length_append, encS_len l, List.length_cons]; simp only [encP, List.length_cons, List.length_nil]; omega
theorem encS_append : ∀ a b : List S25, encS (a ++ b) = encS a ++ encS b
 | [], b => rfl
 | x :: a, b => by rw [List.cons_append, encS, encS, encS_append a b, List.append_assoc]
theorem encS_take : ∀ (l : List S25) (i : Nat), encS (l.take i) = (encS l).take (i * 3)
 | [], i => by simp [encS]
 | x :: l, 0 => by simp [encS]
 | x :: l, i + 1 => by
  rw [List.take_succ_cons, encS, encS, encS_take l i, show (i + 1) * 3 = i * 3 + 1 + 1 + 1 by omega]
  simp [encP]
theorem encS_drop : ∀ (l : List S25) (i : Nat), encS (l.drop i) = (encS l).drop (i * 3)
 | [], i => by simp [encS]
 | x :: l, 0 => by simp [encS]
 | x :: l, i + 1 => by
  rw [List.drop_succ_cons, encS, encS_drop l i, show (i + 1) * 3 = i * 3 + 1 + 1 + 1 by omega]
  simp [encP]
theorem encS_one : ∀ (l : List S25), ∀ v ∈ encS l, v.oneCell' = true
 | [], v, h => by simp [encS] at h
 | x :: l, v, h => by
  rw [encS] at h
  rcases List.mem_append.mp h with h | h
  ·simp only [encP, List.mem_cons, List.not_mem_nil, or_false] at h
   rcases h with rfl | rfl | rfl <;> rfl
  ·exact encS_one l v h
theorem reps_encS (w : World) (base : Nat) (ok : Nat → Prop) (l : List S25) : Reps (k25.M w base ok) 3 l (encS l) := by
 refine ⟨encS_len l, fun j p hj => ?_⟩
 have hlt : j < l.length := (List.getElem?_eq_some_iff.mp hj).1
 have e : ((encS l).drop (j * 3)).take 3 = encP p := by
  rw [← encS_drop, List.drop_eq_getElem_cons hlt, encS]
  have : l[j] = p := (List.getElem?_eq_some_iff.mp hj).2
  rw [this, List.take_left' (by rfl)]
 rw [e]
 exact k25_mkM w base ok p
theorem reps_eq {w : World} {base : Nat} {ok : Nat → Prop} : ∀ {l : List S25} {inner : List Value}, Reps (k25.M w base ok) 3 l inner → inner = encS l := by
 intro l
 induction l with
 | nil => intro inner h; exact List.eq_nil_of_length_eq_zero (by have := h.1; simpa using this)
 | cons x l ih =>
  intro inner h
  have h0 := k25_openM (h.2 0 x rfl)
  rw [Nat.zero_mul, List.drop_zero] at h0
  have hr : Reps (k25.M w base ok) 3 l (inner.drop 3) := by
   refine ⟨by rw [List.length_drop, h.1, List.length_cons]; omega, fun j p hj => ?_⟩
   have := h.2 (j + 1) p (by simpa using hj)
   rw [List.drop_drop, show 3 + j * 3 = (j + 1) * 3 by omega]
   exact this
  rw [encS, ← ih hr]
  conv => lhs; rw [← List.take_append_drop 3 inner, h0]
  rfl
theorem own_spans {w : World} {base : Nat} {ok : Nat → Prop} {v : Value} {l : List S25} (h : Kd.R k25 25 w base ok v l) : w.ownsRow base 25 3 v l.length (encS l) := by
 obtain ⟨inner, ho, hr⟩ := h.2
 rw [← reps_eq hr]; exact ho
theorem spans_own {w : World} {base : Nat} {ok : Nat → Prop} {v : Value} {l : List S25} (h : w.ownsRow base 25 3 v l.length (encS l)) (hok : ∀ k, v.ownBlock = some k → ok k) : Kd.R k25 25 w base ok v l :=
 ⟨hok, encS l, h, reps_encS _ _ _ _⟩
theorem spans_set {w : World} {base g cap : Nat} {l m : List S25} {o : Nat} (h : w.ownsRow base 25 3 (.slice (some ⟨g, 0, none⟩) l.length cap) l.length (encS l)) (ho : o + m.length ≤ l.length) :
  (w.setCells g (o * 3) (encS m)).ownsRow base 25 3 (.slice (some ⟨g, 0, none⟩) l.length cap) l.length (encS (l.take o ++ m ++ l.drop (o + m.length))) ∧ w.grownBy (w.setCells g (o * 3) (encS m)) (some g) := by
 obtain ⟨h1, h2⟩ := h
 rcases h2 with ⟨e, _⟩ | ⟨g', cap', cur, e, hb, hh, hn, hc, hs, ht⟩
 ·cases e
 ·injection e with e1 e2 e3
  injection e1 with e1
  injection e1 with e1
  subst e1; subst e3
  have hl := encS_len m
  obtain ⟨cur', h3, h4, h5⟩ := setCells_row (encS m) (o * 3) w cur hh (by rw [hl, hs]; omega)
  obtain ⟨s1, s2, s3, s4⟩ := setCells_same g (encS m) (o * 3) w
  refine ⟨⟨?_, .inr ⟨g, cap, cur', rfl, hb, h3, hn, hc, by rw [h4, hs], ?_⟩⟩, ⟨s1, s2, s3, by rw [s4]; exact Nat.le_refl _, fun k _ hk => setCells_far _ _ k (fun he => hk (by rw [he]))⟩⟩
  ·rw [encS_len, List.length_append, List.length_append, List.length_take, List.length_drop]; omega
  ·rw [h5, encS_append, encS_append, encS_take, encS_drop, ← ht, hl]
   have hcl : cur.toList.length = cap * 3 := by rw [Array.length_toList, hs]
   rw [List.take_append, List.take_append, List.take_take, List.length_append, List.length_take, List.take_take]
   rw [List.take_of_length_le (l := encS m) (by rw [hl]; omega)]
   rw [show min (l.length * 3) (o * 3) = o * 3 by omega, show min (o * 3) (l.length * 3) = o * 3 by omega]
   congr 1
   rw [show l.length * 3 - (min (o * 3) cur.toList.length + (encS m).length) = l.length * 3 - (o * 3 + m.length * 3) by rw [hl, hcl]; omega, ← List.drop_take]
   rw [show (o + m.length) * 3 = o * 3 + m.length * 3 by omega]
section
variable {ops : Array Oper} {rest : List Oper} {o : Oper} {a : Act} {Q : Exit → Act → World → Prop} {W : World}
theorem run_copy_spans (w : World) (ty : TypeId) (b n dCap : Nat) (ad : Addr) (sCap : Nat) (ys : List S25) (hn : ys.length = n) (h0 : 0 < n)
  (hsrc : ∀ j v, (encS ys)[j]? = some v → w.cell? (ad.add j) = some v) (hc : ∀ j, j < n * 3 → (w.cell? ⟨b, j, none⟩).isSome = true) (hf : ∀ j, j < n * 3 → w.frozen? ⟨b, j, none⟩ = false) :
  (Builtin.copy_ #[27, 27] ty #[.slice (some ⟨b, 0, none⟩) n dCap, .slice (some ad) n sCap]).run Tryd.prog w = .ok (goInt n) (w.setCells b 0 (encS ys)) := by
 have hlen := encS_len ys
 have hl := run_loadCells_list (P := Tryd.prog) w ad (encS ys) hsrc
 have hst := run_storeCells_cells (P := Tryd.prog) b 0 (encS ys) 0 w (by intro j hj; simpa using hc j (by rw [hlen, hn] at hj; exact hj)) (by intro j hj; simpa using hf j (by rw [hlen, hn] at hj; exact hj)) (encS_one ys)
 simp only [Nat.add_zero] at hst
 rw [hlen, hn] at hl
 obtain ⟨i, hi, hz⟩ := Option.map_eq_some_iff.1 info25
 simp only [Prod.mk.injEq] at hz
 have hs : i.size = 3 := hz.2.1
 simp [Builtin.copy_, run_underlying Tryd.underlying27, Builtin.lenOf, Builtin.firstCells, sizeOf, typeInfo, hi, hs, hl, hst]
theorem spans_copy (base : Nat) (hgd : o.guard = none) (s x : Operand) (ho : o.op = .call { callee := .builtin .copy, args := #[s, x], argTypes := #[27, 27] })
  (v : Value) (xs ys : List S25) (A : Option Addr) (c : Nat) (ok : Nat → Prop) (hs : a.eval s = v) (hx : a.eval x = .slice A ys.length c) (HO : Kd.R k25 25 W base ok v xs) (HR : Kd.C k25 W A ys.length ys) (hl : xs.length = ys.length)
  (h : ∀ w1, Kd.R k25 25 w1 base ok v ys → W.grownBy w1 v.ownBlock → wpList Tryd.prog ops Q rest (a.put o.dst (.int .i64 (ys.length : Int))) w1) : wpList Tryd.prog ops Q (o :: rest) a W := by
 have hown := own_spans HO
 have fin : ∀ w1, (Builtin.copy_ #[27, 27] o.type #[v, .slice A ys.length c]).run Tryd.prog W = .ok (goInt (ys.length : Int)) w1 → Kd.R k25 25 w1 base ok v ys → W.grownBy w1 v.ownBlock → wpList Tryd.prog ops Q (o :: rest) a W := by
  intro w1 hr hrow hg
  refine wpList_plain hgd fun K hK => ?_
  unfold Oper.wp execOp
  simp only [ho, resolve, invoke, builtin, Sem.run_bind, Sem.run_pure, Result.andThen_ok, List.map_toArray, List.map_cons, List.map_nil, hs, hx, hr]
  exact hK _ _ (h w1 hrow hg)
 rcases Nat.eq_zero_or_pos ys.length with h0 | hp
 ·have hy : ys = [] := List.eq_nil_of_length_eq_zero h0
  have hxs : xs = [] := List.eq_nil_of_length_eq_zero (by omega)
  subst hy; subst hxs
  refine fin W ?_ HO (World.grownBy.refl W _)
  obtain ⟨A', c', hv⟩ := own_slice hown
  rw [hv]
  obtain ⟨i, hi, hz⟩ := Option.map_eq_some_iff.1 info25
  have hl0 : ∀ (x : Addr), (loadCells x 0).run Tryd.prog W = .ok #[] W := fun x => by simpa using run_loadCells_list (P := Tryd.prog) W x [] (by simp)
  cases A' <;> cases A <;> simp [Builtin.copy_, run_underlying Tryd.underlying27, Builtin.lenOf, Builtin.firstCells, sizeOf, typeInfo, hi, storeCells, hl0]
 ·obtain ⟨ad, hA, hc⟩ := HR.2.2 (by omega)
  rcases hown.2 with ⟨_, hx0⟩ | ⟨g, cap, cur, hv, hb, hh, hnc, hcm, hcs, htake⟩
  ·omega
  have hsrc : ∀ j u, (encS ys)[j]? = some u → W.cell? (ad.add j) = some u := by
   intro j u hu
   have hjl : j < ys.length * 3 := by
    have := (List.getElem?_eq_some_iff.mp hu).1
    rwa [encS_len] at this
   have hq : j / 3 < ys.length := by omega
   obtain ⟨cs, hcl, hK, hcell⟩ := hc (j / 3) _ (List.getElem?_eq_getElem hq)
   have e := k25_open hK
   have he : (encS ys)[j]? = cs[j % 3]? := by
    have e1 : ((encS ys).drop (j / 3 * 3))[j % 3]? = (encS ys)[j]? := by rw [List.getElem?_drop]; congr 1; omega
    rw [← e1, ← encS_drop, List.drop_eq_getElem_cons hq, encS, List.getElem?_append_left (by show j % 3 < 3; omega), e]; rfl
   have := hcell (j % 3) u (by rw [← he]; exact hu)
   rwa [show j / 3 * k25.sz + j % 3 = j by show j / 3 * 3 + j % 3 = j; omega] at this
  have hown2 := hown
  rw [hv] at hown2
  have hr := run_copy_spans W o.type g ys.length cap ad c ys rfl hp hsrc (fun j hj => by rw [cell_of_row W g _ cur 25 (0, 0) hh]; simp; omega) (fun j _ => blk_frozen hh _)
  have hset := spans_set (m := ys) (o := 0) hown2 (by omega)
  rw [Nat.zero_mul, List.take_zero, List.nil_append, List.drop_of_length_le (by omega), List.append_nil] at hset
  refine fin _ (by rw [hv, hA, hl, hr]) (spans_own ?_ HO.1) ?_
  ·rw [hv, ← hl]; exact hset.1
  ·rw [hv]; exact hset.2
theorem zero_spans (n : Nat) : (Builtin.zeroCells #[.int .i64 0, .int .i64 0, .string ⟨#[]⟩] n).toList = encS (List.replicate n z25) := by
 induction n with
 | zero => simp [Builtin.zeroCells, encS]
 | succ n ih =>
  rw [List.replicate_succ, encS, ← ih]
  simp [Builtin.zeroCells, encP, z25]
  apply List.ext_getElem
  ·simp; omega
  ·intro i h1 h2
   simp
   match i with
   | 0 => rfl
   | 1 => rfl
   | 2 => rfl
   | i + 3 => simp
theorem spans_store (base : Nat) (hN : o.dst = none) (hgd : o.guard = none) (p x : Operand) (ho : o.op = .store 25 p x) {g cap : Nat} (i : Nat) (xs : List S25) (y : S25) (ok : Nat → Prop)
  (haddr : a.eval p = .pointer (some ⟨g, i * 3, none⟩)) (hx : a.eval x = .agg #[.int .i64 y.f0, .int .i64 y.f1, .string y.f2]) (HO : Kd.R k25 25 W base ok (.slice (some ⟨g, 0, none⟩) xs.length cap) xs) (hi : i < xs.length)
  (h : ∀ w1, Kd.R k25 25 w1 base ok (.slice (some ⟨g, 0, none⟩) xs.length cap) (xs.set i y) → W.grownBy w1 (some g) → wpList Tryd.prog ops Q rest a w1) : wpList Tryd.prog ops Q (o :: rest) a W := by
 obtain ⟨c, hcl, hM, hcc, _⟩ := Kd.R_elem HO z25 (i : Int) (by omega) (by omega)
 have hbase : base ≤ W.heap.size := by
  obtain ⟨_, inner, hown, _⟩ := HO
  have h1 := own_base hown g rfl
  have h2 := own_lt hown g rfl
  omega
 refine Kd.R_store k25 (w0 := W) base hN hgd 25 p x ho 25 (g := g) (n := xs.length) (cap := cap) (o' := i * 3) (i : Int) 0 xs y (.agg #[.int .i64 y.f0, .int .i64 y.f1, .string y.f2]) (encP y) c ok (fun _ => False) haddr (by simp; rfl) hx rfl (by kernel_rfl) (by intro q hq; exact encS_one [y] q (by simpa [encS] using hq)) HO (by omega) (by omega) hcl hcc (by show 3 ≤ 3; omega) ?_ (fun _ hk => hk.elim) ?_ ?_
 ·have e : c.take 0 ++ encP y ++ c.drop (0 + (encP y).length) = encP y := by
   rw [List.take_zero, List.nil_append, List.drop_of_length_le (by rw [hcl]; show 3 ≤ 0 + 3; omega), List.append_nil]
  rw [e]; exact k25_mkM _ _ _ y
 ·exact ⟨rfl, rfl, rfl, Nat.le_refl _, fun _ _ => rfl⟩
 ·intro w1 h1 _ hg
  rw [Int.toNat_natCast] at h1
  exact h w1 h1 hg
set_option maxRecDepth 100000 in
theorem spans_clear (base : Nat) (hgd : o.guard = none) (s : Operand) (ho : o.op = .call { callee := .builtin .clear, args := #[s], argTypes := #[27] }) {g cap c : Nat} (i m : Nat) (xs : List S25) (ok : Nat → Prop)
  (hs : a.eval s = .slice (some ⟨g, i * 3, none⟩) m c) (hm : 0 < m) (HO : Kd.R k25 25 W base ok (.slice (some ⟨g, 0, none⟩) xs.length cap) xs) (hi : i + m = xs.length)
  (h : ∀ w1, Kd.R k25 25 w1 base ok (.slice (some ⟨g, 0, none⟩) xs.length cap) (xs.take i ++ List.replicate m z25) → W.grownBy w1 (some g) → wpList Tryd.prog ops Q rest (a.put o.dst (.tuple #[])) w1) : wpList Tryd.prog ops Q (o :: rest) a W := by
 have hown := own_spans HO
 have hset := spans_set (m := List.replicate m z25) (o := i) hown (by rw [List.length_replicate]; omega)
 rw [List.length_replicate, List.drop_of_length_le (l := xs) (by omega), List.append_nil] at hset
 have hlen : (xs.take i ++ List.replicate m z25).length = xs.length := by rw [List.length_append, List.length_take, List.length_replicate]; omega
 have hrun : (Builtin.clear_ #[27] o.type #[.slice (some ⟨g, i * 3, none⟩) m c]).run Tryd.prog W = .ok (.tuple #[]) (W.setCells g (i * 3) (encS (List.replicate m z25))) := by
  rcases hown.2 with ⟨e, _⟩ | ⟨g', cap', cur, hv, hb, hh, hnc, hcm, hcs, htake⟩
  ·cases e
  injection hv with e1 e2 e3
  injection e1 with e1
  injection e1 with e1
  subst e1; subst e3
  have hl : (encS (List.replicate m z25)).length = m * 3 := by rw [encS_len, List.length_replicate]
  have hst := run_storeCells_cells (P := Tryd.prog) g (i * 3) (encS (List.replicate m z25)) 0 W (fun j hj => by rw [cell_of_row W g _ cur 25 (0, 0) hh]; simp; rw [hl] at hj; omega) (fun j _ => blk_frozen hh _) (encS_one _)
  simp only [Nat.add_zero] at hst
  obtain ⟨i0, hi0, hz⟩ := Option.map_eq_some_iff.1 info25
  simp only [Prod.mk.injEq] at hz
  have hzv : (zeroValue 25).run Tryd.prog W = .ok (.agg #[.int .i64 0, .int .i64 0, .string ⟨#[]⟩]) W := by
   simp [zeroValue, typeInfo, hi0, hz.1]
  obtain ⟨m', rfl⟩ : ∃ m', m = m' + 1 := ⟨m - 1, by omega⟩
  have hzc := zero_spans (m' + 1)
  simp [Builtin.clear_, run_underlying Tryd.underlying27, hzv, Value.cells, hzc, hst]
 refine wpList_plain hgd fun K hK => ?_
 unfold Oper.wp execOp
 simp only [ho, resolve, invoke, builtin, Sem.run_bind, Sem.run_pure, Result.andThen_ok, List.map_toArray, List.map_cons, List.map_nil, hs, hrun]
 refine hK _ _ (h _ (spans_own ?_ HO.1) hset.2)
 rw [hlen]; exact hset.1
end
def normal_Of.e (x : S25) : Bool := decide (x.f1 = 0) && (x.f2.toList == ([] : List UInt8))
theorem normal_Of.e_f (x : S25) : normal_empty.f x.f0 x.f1 x.f2 = some (normal_Of.e x) := by
 unfold normal_empty.f normal_Of.e
 by_cases c : x.f1 = 0 <;> simp [c]
def normal_Of.idx : List S25 → Int → Int
 | [], _ => -1
 | x :: l, i => if normal_Of.e x = true then i else normal_Of.idx l (i + 1)
def normal_Of.keep (l : List S25) : List S25 := l.filter fun x => !normal_Of.e x
theorem normal_Of.idx_spec : ∀ (l : List S25) (i : Nat), (normal_Of.idx l (i : Int) = -1 ∧ normal_Of.keep l = l) ∨ ∃ k, k < l.length ∧ normal_Of.idx l (i : Int) = ((i + k : Nat) : Int) ∧ normal_Of.keep (l.take (k + 1)) = l.take k
 | [], _ => .inl ⟨rfl, rfl⟩
 | x :: l, i => by
  by_cases h : normal_Of.e x = true
  ·refine .inr ⟨0, by simp, by simp [normal_Of.idx, h], by simp [normal_Of.keep, h]⟩
  ·have e1 : normal_Of.idx (x :: l) (i : Int) = normal_Of.idx l ((i + 1 : Nat) : Int) := by rw [normal_Of.idx, if_neg h]; rfl
   rw [e1]
   rcases normal_Of.idx_spec l (i + 1) with ⟨a, b⟩ | ⟨k, hk, a, b⟩
   ·refine .inl ⟨a, ?_⟩
    unfold normal_Of.keep at b ⊢
    rw [List.filter_cons_of_pos (by simpa using h), b]
   ·refine .inr ⟨k + 1, by simpa using hk, by rw [a]; congr 1; omega, ?_⟩
    unfold normal_Of.keep at b ⊢
    rw [List.take_succ_cons, List.filter_cons_of_pos (by simpa using h), b, List.take_succ_cons]
theorem normal_Of.idx_next (l : List S25) (j : Nat) (h : j < l.length) : normal_Of.idx (l.drop j) (j : Int) = if normal_Of.e (rd_T25 l (j : Int)) = true then (j : Int) else normal_Of.idx (l.drop (j + 1)) ((j + 1 : Nat) : Int) := by
 rw [op_sum.next l j h, normal_Of.idx]; rfl
set_option maxHeartbeats 8000000 in
set_option maxRecDepth 100000 in
theorem normal_Of.index (A0 : Option Addr) (c0 : Nat) (l0 : List S25) (w : World) (hr0 : Kd.C k25 w A0 l0.length l0) (hs : l0.length < 9223372036854775807) :
  Calls Tryd.prog 90 #[.slice A0 l0.length c0, .func (Fn.func 74) #[] #[]] w fun e w' => e = .returned (.int .i64 (normal_Of.idx l0 0)) ∧ Below w.heap.size w w' := by
 have HR0 := am hr0; have HZ := am hs
 obtain ⟨r, hr⟩ : ∃ r, normal_Of.idx l0 0 = r := ⟨_, rfl⟩
 rw [hr]
 have H := am hr
 clear hr0 hs hr
 go_enter Tryd.func90, Tryd.ntmps90
 go_wp2
 go_loopw [5, 8] (fun _ v8 wr => ∃ j : Nat, v8 = .int .i64 j ∧ j ≤ l0.length ∧ Aside0 (normal_Of.idx (l0.drop j) (j : Int) = r) ∧ Aside0 (Below w.heap.size w wr)) (fun _ v8 _ => l0.length - (intOf v8).toNat)
 case atStart => exact ⟨0, rfl, Nat.zero_le _, H, ⟨Below.refl _ _⟩⟩
 case round =>
  clear H
  obtain ⟨j, rfl, hj, HA, HB⟩ := hrel
  by_cases hlt : j < l0.length
  ·have hltb : decide ((j : Int) < (l0.length : Int)) = true := decide_eq_true (by omega)
   have HL := am hlt
   have h := HA.out
   clear HA
   rw [normal_Of.idx_next l0 j hlt] at h
   obtain ⟨ad, rfl, hx0, hx1, hx2⟩ := at_T25 (Kd.C_below HR0.out HB.out) (j : Int) (by omega) (by omega)
   rw [Int.toNat_natCast] at hx0 hx1 hx2
   have p1 : (0 ≤ (j : Int)) = True := eq_true (by omega)
   have p2 : ((j : Int) < (l0.length : Int)) = True := eq_true (by omega)
   have p3 : (j < l0.length) = True := eq_true hlt
   have HV := am (normal_Of.e_f (rd_T25 l0 (j : Int)))
   have ew : wrap64 ((j : Int) + 1) = ((j + 1 : Nat) : Int) := by have := HZ.out; unfold wrap64; omega
   by_cases he : normal_Of.e (rd_T25 l0 (j : Int)) = true
   ·rw [if_pos he] at h
    rw [he] at HV
    subst h
    clear hlt he
    go_wp2_with (go_at_call 74; (with_reducible refine (normal_empty.calls _ _ _ true _ HV.out).mono ?_); rintro e w1 ⟨rfl, hb⟩; have HB1 := am (below_then HB.out HB.out.size hb); clear hb)
    go_ret
    exact ⟨rfl, HB1.out⟩
   ·rw [if_neg he] at h
    rw [Bool.eq_false_iff.mpr he] at HV
    have HE := am h
    clear hlt he h
    go_wp2_with (go_at_call 74; (with_reducible refine (normal_empty.calls _ _ _ false _ HV.out).mono ?_); rintro e w1 ⟨rfl, hb⟩; have HB1 := am (below_then HB.out HB.out.size hb); clear hb)
    go_round
    case measure => exact op_sum.less HL.out ew
    case rel => exact ⟨j + 1, by rw [ew], HL.out, HE, HB1⟩
  ·have hltb : decide ((j : Int) < (l0.length : Int)) = false := decide_eq_false (by omega)
   have h := HA.out
   clear HA
   rw [List.drop_of_length_le (by omega), normal_Of.idx] at h
   subst h
   go_wp2
   go_ret
   exact ⟨rfl, HB.out⟩
theorem normal_Of.keep_take (l : List S25) (j : Nat) (h : j < l.length) : normal_Of.keep (l.take (j + 1)) = normal_Of.keep (l.take j) ++ (if normal_Of.e (rd_T25 l (j : Int)) = true then [] else [rd_T25 l (j : Int)]) := by
 have e : rd_T25 l (j : Int) = l[j] := by
  unfold rd_T25
  rw [Int.toNat_natCast, List.getD_eq_getElem?_getD, List.getElem?_eq_getElem h]; rfl
 rw [e, List.take_succ_eq_append_getElem h]
 unfold normal_Of.keep
 rw [List.filter_append]
 by_cases c : normal_Of.e l[j] = true <;> simp [c]
theorem rd_drop {ys l : List S25} {j : Nat} (h : ys.drop j = l.drop j) (hj : j < l.length) : rd_T25 ys (j : Int) = rd_T25 l (j : Int) := by
 unfold rd_T25
 rw [Int.toNat_natCast, List.getD_eq_getElem?_getD, List.getD_eq_getElem?_getD]
 have e := congrArg (·[0]?) h
 simp only [List.getElem?_drop, Nat.add_zero] at e
 rw [e]
theorem set_take (ys : List S25) (i : Nat) (y : S25) (h : i < ys.length) : (ys.set i y).take (i + 1) = ys.take i ++ [y] := by
 rw [List.take_set, List.take_succ_eq_append_getElem h, List.set_append_right _ _ (by rw [List.length_take]; omega), List.length_take, Nat.min_eq_left (by omega), Nat.sub_self]; rfl
theorem set_drop (ys : List S25) (i j : Nat) (y : S25) (h : i < j) : (ys.set i y).drop j = ys.drop j := by
 rw [List.drop_set, if_pos h]
def normal_Of.J (w0 : World) (g cap : Nat) (l : List S25) (i j : Nat) (wr : World) : Prop :=
 i < j ∧ j ≤ l.length ∧ ∃ ys : List S25, ys.length = l.length ∧ ys.take i = normal_Of.keep (l.take j) ∧ ys.drop j = l.drop j ∧ Kd.R k25 25 wr w0.heap.size (fun _ => True) (.slice (some ⟨g, 0, none⟩) l.length cap) ys ∧ Below w0.heap.size w0 wr
set_option maxHeartbeats 8000000 in
set_option maxRecDepth 100000 in
theorem normal_Of.del (l : List S25) (v : Value) (w0 w : World) (hO : Kd.R k25 25 w w0.heap.size (fun _ => True) v l) (hB : Below w0.heap.size w0 w) (hs : l.length < 9223372036854775807) :
  Calls Tryd.prog 73 #[v, .func (Fn.func 74) #[] #[]] w fun e w' => ∃ A m c, e = .returned (.slice A m c) ∧ Kd.R k25 25 w' w0.heap.size (fun _ => True) (.slice A m c) (normal_Of.keep l) ∧ Below w0.heap.size w0 w' := by
 obtain ⟨A0, c0, rfl, hc0, hC⟩ := Kd.R_reads hO
 have HI := am (normal_Of.index A0 c0 l w hC hs)
 have HO := am hO; have HB := am hB; have HZ := am hs
 clear hO hB hs hC
 rcases normal_Of.idx_spec l 0 with ⟨e1, e2⟩ | ⟨k, hk, e1, e2⟩
 ·rw [show ((0 : Nat) : Int) = 0 from rfl] at e1
  rw [e1] at HI
  rw [e2]
  clear e1 e2
  go_enter Tryd.func73, Tryd.ntmps73
  go_wp2_with (go_at_call 90; (with_reducible refine HI.out.mono ?_); rintro e w1 ⟨rfl, hb⟩; have HO1 := am (Kd.R_below HO.out hb); have HB1 := am (below_then HB.out HB.out.size hb); clear hb)
  go_ret
  exact ⟨_, _, _, rfl, HO1.out, HB1.out⟩
 ·rw [show ((0 : Nat) : Int) = 0 from rfl, Nat.zero_add] at e1
  rw [e1] at HI
  have hne : ((k : Int) == -1) = false := beq_eq_false_iff_ne.mpr (by omega)
  have ew : wrap64 ((k : Int) + 1) = ((k + 1 : Nat) : Int) := by have := HZ.out; unfold wrap64; omega
  obtain ⟨g, cap, hv, hg1, hg2, _⟩ := Kd.R_form HO.out (by omega)
  injection hv with h1 h2 h3
  subst h1; subst h3
  have HG := am hg1
  have HE2 := am e2
  have HK := am hk
  clear e1 e2 hg1 hg2 hk
  go_enter Tryd.func73, Tryd.ntmps73
  go_wp2_with (go_at_call 90; (with_reducible refine HI.out.mono ?_); rintro e w1 ⟨rfl, hb⟩; have HO1 := am (Kd.R_below HO.out hb); have HB1 := am (below_then HB.out HB.out.size hb); clear hb)
  go_loopw [5, 6, 7] (fun v5 v6 _ wr => ∃ i j : Nat, v5 = .int .i64 i ∧ v6 = .int .i64 j ∧ Aside0 (normal_Of.J w0 g c0 l i j wr)) (fun _ v6 _ _ => l.length - (intOf v6).toNat)
  case atStart => exact ⟨k, k + 1, rfl, by rw [ew], ⟨by have := HK.out; refine ⟨by omega, by omega, l, rfl, HE2.out.symm, rfl, HO1.out, HB1.out⟩⟩⟩
  case round =>
   clear ew
   obtain ⟨i, j, rfl, rfl, HJ⟩ := hrel
   obtain ⟨hij, hj, ys, hyl, hyt, hyd, hO, hB⟩ := HJ.out
   clear HJ
   have HO := am hO; have HB := am hB; have HYL := am hyl; have HYT := am hyt; have HYD := am hyd; have HIJ := am hij; have HJJ := am hj
   clear hB hyt
   by_cases hlt : j < l.length
   ·have hltb : decide ((j : Int) < (l.length : Int)) = true := decide_eq_true (by omega)
    have HL := am hlt
    rw [← hyl] at hO
    obtain ⟨ad, had, hx0, hx1, hx2⟩ := at_T25 (Kd.R_reads' hO).2.2 (j : Int) (by omega) (by omega)
    injection had with had
    subst had
    rw [Int.toNat_natCast, add_plain] at hx0 hx1 hx2
    rw [rd_drop hyd hlt] at hx0 hx1 hx2
    have p1 : (0 ≤ (j : Int)) = True := eq_true (by omega)
    have p2 : ((j : Int) < (l.length : Int)) = True := eq_true (by omega)
    have p3 : (j < l.length) = True := eq_true hlt
    have HV := am (normal_Of.e_f (rd_T25 l (j : Int)))
    have ew : wrap64 ((j : Int) + 1) = ((j + 1 : Nat) : Int) := by have := HZ.out; unfold wrap64; omega
    have ew2 : wrap64 ((i : Int) + 1) = ((i + 1 : Nat) : Int) := by have := HZ.out; unfold wrap64; omega
    have q1 : (0 ≤ (i : Int)) = True := eq_true (by omega)
    have q2 : ((i : Int) < (l.length : Int)) = True := eq_true (by omega)
    have q3 : (i < l.length) = True := eq_true (by omega)
    have hnext := normal_Of.keep_take l j hlt
    clear hO hyd
    by_cases he : normal_Of.e (rd_T25 l (j : Int)) = true
    ·rw [if_pos he, List.append_nil] at hnext
     rw [he] at HV
     have HN := am hnext
     clear hlt he hnext hij hj hyl
     go_wp2_with (go_at_call 74; (with_reducible refine (normal_empty.calls _ _ _ true _ HV.out).mono ?_); rintro e w1 ⟨rfl, hb⟩; have HO1 := am (Kd.R_below (Kd.R_alloc HO.out _) hb); have HB1 := am (below_then (below_alloc HB.out _) (below_alloc HB.out _).size hb); clear hb)
     go_round
     case measure => exact op_sum.less HL.out ew
     case rel => exact ⟨i, j + 1, rfl, by rw [ew], ⟨by have := HIJ.out; have := HL.out; exact ⟨by omega, by omega, ys, HYL.out, by rw [HN.out]; exact HYT.out, by rw [← List.drop_drop, HYD.out, List.drop_drop], HO1.out, HB1.out⟩⟩⟩
    ·rw [if_neg he] at hnext
     rw [Bool.eq_false_iff.mpr he] at HV
     have HN := am hnext
     clear hlt he hnext hij hj hyl
     go_wp2_with (first | (go_at_call 74; (with_reducible refine (normal_empty.calls _ _ _ false _ HV.out).mono ?_); rintro e w1 ⟨rfl, hb⟩; have HO1 := am (Kd.R_below (Kd.R_alloc HO.out _) hb); have HB1 := am (below_then (below_alloc HB.out _) (below_alloc HB.out _).size hb); have hs := blk_below (heap_alloc_new wr _) hb; clear hb; have s0 := blk_cell hs 0; have s1 := blk_cell hs 1; have s2 := blk_cell hs 2; clear hs) | ((with_reducible refine gate_store (t := 25) (p := 33) rfl ?_); refine spans_store w0.heap.size rfl rfl (.tmp 33) (.tmp 32) rfl (g := g) (cap := c0) i ys (rd_T25 l (j : Int)) (fun _ => True) rfl rfl (by rw [HYL.out]; exact HO1.out) (by have := HIJ.out; have := HL.out; have := HYL.out; omega) ?_; intro w2 h2 hg2; rw [HYL.out] at h2; have HO2 := am h2; have HB2 := am (HB1.out.grown hg2 HB1.out.size (fun k_ e_ => by injection e_ with e_; rw [← e_]; exact HG.out)); clear h2 hg2 HO1 HB1))
     go_round
     case measure => exact op_sum.less HL.out ew
     case rel => exact ⟨i + 1, j + 1, by rw [ew2], by rw [ew], ⟨by have := HIJ.out; have := HL.out; have := HYL.out; exact ⟨by omega, by omega, ys.set i (rd_T25 l (j : Int)), by rw [List.length_set]; exact HYL.out, by rw [HN.out, set_take _ _ _ (by omega), HYT.out], by rw [set_drop _ _ _ _ (by omega), ← List.drop_drop, HYD.out, List.drop_drop], HO2.out, HB2.out⟩⟩⟩
   ·have hltb : decide ((j : Int) < (l.length : Int)) = false := decide_eq_false (by omega)
    have hjl : j = l.length := by omega
    subst hjl
    obtain ⟨i0, hi0, _, hsz, _⟩ := info_parts info25
    have hcut1 := cut_from (P := Tryd.prog) 27 25 .i64 Tryd.underlying27 hi0 3 hsz (some ⟨g, 0, none⟩) l.length c0 (i : Int) (by omega) (by omega)
    have hcut2 := cut_to (P := Tryd.prog) 27 25 .i64 Tryd.underlying27 hi0 (some ⟨g, 0, none⟩) l.length c0 (i : Int) (by omega) (by omega) (Kd.R_reads' hO).2.1
    have hne : ¬ c0 = ((i : Int)).toNat := by omega
    rw [if_neg hne] at hcut1
    simp only [Int.toNat_natCast, Option.map_some, add_plain] at hcut1 hcut2
    have hyt := HYT.out
    have hyl2 := HYL.out
    rw [List.take_length] at hyt
    have HYK := am hyt
    clear hi0 hsz hne hyt hyd hO hlt hj hij hyl hyl2
    go_wp2_with ((with_reducible refine gate_builtin (b := .clear) (xs := #[.tmp 38]) rfl ?_); refine spans_clear w0.heap.size rfl (.tmp 38) rfl (g := g) (cap := c0) (c := c0 - i) i (l.length - i) ys (fun _ => True) rfl (by have := HIJ.out; omega) (by rw [HYL.out]; exact HO.out) (by have := HIJ.out; have := HYL.out; omega) ?_; intro w2 h2 hg2; rw [HYL.out] at h2; have HO2 := am h2; have HB2 := am (HB.out.grown hg2 HB.out.size (fun k_ e_ => by injection e_ with e_; rw [← e_]; exact HG.out)); clear h2 hg2)
    go_ret
    refine ⟨_, _, _, rfl, ?_, HB2.out⟩
    have hR := Kd.R_take (m := i) HO2.out (by have := HIJ.out; have := HYL.out; rw [List.length_append, List.length_take, List.length_replicate]; omega)
    rw [List.take_left' (by have := HIJ.out; have := HYL.out; rw [List.length_take]; omega), HYK.out] at hR
    exact hR
def normal_Of.step (d : List S25) (x : S25) : List S25 := if d.length = 0 then [x] else if x.f0 = (rd_T25 d ((d.length - 1 : Nat) : Int)).f0 then d.set (d.length - 1) ⟨(rd_T25 d ((d.length - 1 : Nat) : Int)).f0, wrap64 ((rd_T25 d ((d.length - 1 : Nat) : Int)).f1 + x.f1), (rd_T25 d ((d.length - 1 : Nat) : Int)).f2 ++ x.f2⟩ else d ++ [x]
def normal_Of.n (l : List S25) : List S25 := (normal_Of.keep l).foldl normal_Of.step []
def normal_Of.t : List S25 → Nat
 | [] => 0
 | x :: l => x.f2.size + normal_Of.t l
def normal_Of.f (l0 : List S25) : Option (List S25) := if l0.length < 1000000000 ∧ normal_Of.t l0 < 140737488355328 then some (normal_Of.n l0) else none
theorem normal_Of.t_append : ∀ a b : List S25, normal_Of.t (a ++ b) = normal_Of.t a + normal_Of.t b
 | [], b => by simp [normal_Of.t]
 | x :: a, b => by rw [List.cons_append, normal_Of.t, normal_Of.t, normal_Of.t_append a b]; omega
theorem normal_Of.t_get : ∀ (l : List S25) (i : Nat), i < l.length → (rd_T25 l (i : Int)).f2.size ≤ normal_Of.t l
 | [], _, h => by simp at h
 | x :: l, 0, _ => by
  rw [normal_Of.t]; show x.f2.size ≤ _; omega
 | x :: l, i + 1, h => by
  have ih := normal_Of.t_get l i (by simpa using h)
  have e : rd_T25 (x :: l) ((i + 1 : Nat) : Int) = rd_T25 l (i : Int) := by
   unfold rd_T25; rw [Int.toNat_natCast, Int.toNat_natCast, List.getD_cons_succ]
  rw [e, normal_Of.t]; omega
theorem normal_Of.t_keep : ∀ l : List S25, normal_Of.t (normal_Of.keep l) ≤ normal_Of.t l
 | [] => Nat.le_refl _
 | x :: l => by
  have ih := normal_Of.t_keep l
  unfold normal_Of.keep at ih ⊢
  by_cases c : normal_Of.e x = true
  ·rw [List.filter_cons_of_neg (by simpa using c), normal_Of.t]; omega
  ·rw [List.filter_cons_of_pos (by simpa using c), normal_Of.t, normal_Of.t]; omega
theorem normal_Of.set_last (d : List S25) (y : S25) (h : 0 < d.length) : d.set (d.length - 1) y = d.take (d.length - 1) ++ [y] := by
 have e := set_take d (d.length - 1) y (by omega)
 rw [show d.length - 1 + 1 = d.length by omega, List.take_of_length_le (by rw [List.length_set]; omega)] at e
 exact e
theorem normal_Of.t_split (d : List S25) (h : 0 < d.length) : normal_Of.t (d.take (d.length - 1)) + (rd_T25 d ((d.length - 1 : Nat) : Int)).f2.size = normal_Of.t d := by
 have e : d = d.take (d.length - 1) ++ [rd_T25 d ((d.length - 1 : Nat) : Int)] := by
  conv => lhs; rw [← List.take_append_drop (d.length - 1) d]
  rw [op_sum.next d (d.length - 1) (by omega), List.drop_of_length_le (by omega)]
 conv => rhs; rw [e]
 rw [normal_Of.t_append]; simp [normal_Of.t]
theorem normal_Of.step_t (d : List S25) (x : S25) : normal_Of.t (normal_Of.step d x) = normal_Of.t d + x.f2.size := by
 unfold normal_Of.step
 by_cases c : d.length = 0
 ·rw [if_pos c]
  obtain rfl : d = [] := List.eq_nil_of_length_eq_zero c
  simp [normal_Of.t]
 ·rw [if_neg c]
  split
  ·rw [normal_Of.set_last d _ (by omega), normal_Of.t_append]
   have := normal_Of.t_split d (by omega)
   simp only [normal_Of.t, ByteArray.size_append]; omega
  ·rw [normal_Of.t_append]; simp [normal_Of.t]
theorem normal_Of.step_len (d : List S25) (x : S25) : 0 < (normal_Of.step d x).length ∧ (normal_Of.step d x).length ≤ d.length + 1 := by
 unfold normal_Of.step
 by_cases c : d.length = 0
 ·rw [if_pos c]; simp
 ·rw [if_neg c]
  split
  ·rw [List.length_set]; omega
  ·rw [List.length_append]; simp
def normal_Of.d (q : List S25) (j : Nat) : List S25 := (q.take j).foldl normal_Of.step []
theorem normal_Of.d_next (q : List S25) (j : Nat) (h : j < q.length) : normal_Of.d q (j + 1) = normal_Of.step (normal_Of.d q j) (rd_T25 q (j : Int)) := by
 unfold normal_Of.d
 have e : rd_T25 q (j : Int) = q[j] := by
  unfold rd_T25
  rw [Int.toNat_natCast, List.getD_eq_getElem?_getD, List.getElem?_eq_getElem h]; rfl
 rw [e, List.take_succ_eq_append_getElem h, List.foldl_append]; rfl
theorem normal_Of.d_facts (q : List S25) : ∀ j, j ≤ q.length → (normal_Of.d q j).length ≤ j ∧ (0 < j → 0 < (normal_Of.d q j).length) ∧ normal_Of.t (normal_Of.d q j) = normal_Of.t (q.take j)
 | 0, _ => ⟨by simp [normal_Of.d], fun h => absurd h (by omega), by simp [normal_Of.d, normal_Of.t]⟩
 | j + 1, h => by
  obtain ⟨h1, h2, h3⟩ := normal_Of.d_facts q j (by omega)
  rw [normal_Of.d_next q j (by omega)]
  have s := normal_Of.step_len (normal_Of.d q j) (rd_T25 q (j : Int))
  refine ⟨by omega, fun _ => s.1, ?_⟩
  rw [normal_Of.step_t, h3]
  have e : q.take (j + 1) = q.take j ++ [rd_T25 q (j : Int)] := by
   rw [List.take_succ_eq_append_getElem (by omega)]
   unfold rd_T25
   rw [Int.toNat_natCast, List.getD_eq_getElem?_getD, List.getElem?_eq_getElem (by omega)]; rfl
  rw [e, normal_Of.t_append]; simp [normal_Of.t]
def normal_Of.I (w0 : World) (A : Option Addr) (c : Nat) (q : List S25) (j la : Nat) (wr : World) : Prop :=
 j ≤ q.length ∧ la = (normal_Of.d q j).length - 1 ∧ ∃ ys : List S25, ys.length = q.length ∧ ys.take (normal_Of.d q j).length = normal_Of.d q j ∧ ys.drop j = q.drop j ∧ Kd.R k25 25 wr w0.heap.size (fun _ => True) (.slice A q.length c) ys ∧ Below w0.heap.size w0 wr
theorem normal_Of.la_facts {n j la dl : Nat} (hlt : j < n) (hla : la = dl - 1) (df1 : dl ≤ j) (df2 : 0 < j → 0 < dl) (z : ¬ j = 0) :
  0 < dl ∧ la < dl ∧ la < n ∧ (0 ≤ (la : Int)) = True ∧ ((la : Int) < (n : Int)) = True ∧ (la < n) = True ∧ (((j : Int) == 0) = false) ∧ 0 ≤ (la : Int) ∧ (la : Int) < (n : Int) := by
 have h := df2 (by omega)
 exact ⟨h, by omega, by omega, eq_true (by omega), eq_true (by omega), eq_true (by omega), beq_eq_false_iff_ne.mpr (by omega), by omega, by omega⟩
theorem normal_Of.last_eq {ys d : List S25} {la : Nat} (hyt : ys.take d.length = d) (h : la < d.length) : rd_T25 ys (la : Int) = rd_T25 d (la : Int) := by
 unfold rd_T25
 rw [Int.toNat_natCast]
 conv => rhs; rw [← hyt]
 rw [List.getD_eq_getElem?_getD, List.getD_eq_getElem?_getD, List.getElem?_take, if_pos h]
theorem normal_Of.last_cells {w : World} {base g cap : Nat} {ys d : List S25} {la : Nat} (hO : Kd.R k25 25 w base (fun _ => True) (.slice (some ⟨g, 0, none⟩) ys.length cap) ys) (hyt : ys.take d.length = d) (h : la < d.length) (h2 : la < ys.length) :
  w.cell? ⟨g, la * 3, none⟩ = some (.int .i64 (rd_T25 d (la : Int)).f0) ∧ w.cell? ⟨g, la * 3 + 1, none⟩ = some (.int .i64 (rd_T25 d (la : Int)).f1) ∧ w.cell? ⟨g, la * 3 + 2, none⟩ = some (.string (rd_T25 d (la : Int)).f2) ∧
   w.frozen? ⟨g, la * 3, none⟩ = false ∧ w.frozen? ⟨g, la * 3 + 1, none⟩ = false ∧ w.frozen? ⟨g, la * 3 + 2, none⟩ = false := by
 obtain ⟨cs, hcl, hM, hcc, hfr⟩ := Kd.R_elem hO z25 (la : Int) (by omega) (by omega)
 obtain rfl := k25_openM hM
 rw [Int.toNat_natCast] at hcc hfr
 have e : ys.getD la z25 = rd_T25 d (la : Int) := by
  rw [← normal_Of.last_eq hyt h]; unfold rd_T25; rw [Int.toNat_natCast]
 rw [e] at hcc
 exact ⟨hcc 0 _ rfl, hcc 1 _ rfl, hcc 2 _ rfl, hfr 0, hfr 1, hfr 2⟩
theorem spans_f1 {W : World} {base g cap : Nat} {ys : List S25} {la : Nat} (v : Int) (hO : Kd.R k25 25 W base (fun _ => True) (.slice (some ⟨g, 0, none⟩) ys.length cap) ys) (h : la < ys.length) :
  Kd.R k25 25 (W.setCell ⟨g, la * 3 + 1, none⟩ (.int .i64 v)) base (fun _ => True) (.slice (some ⟨g, 0, none⟩) ys.length cap) (ys.set la ⟨(rd_T25 ys (la : Int)).f0, v, (rd_T25 ys (la : Int)).f2⟩) ∧ W.grownBy (W.setCell ⟨g, la * 3 + 1, none⟩ (.int .i64 v)) (some g) := by
 obtain ⟨cs, hcl, hM, hcc, hfr⟩ := Kd.R_elem hO z25 (la : Int) (by omega) (by omega)
 obtain rfl := k25_openM hM
 have hp := Kd.R_seg hO (la : Int) (by omega) (by omega) (seg := [.int .i64 v]) (j := 1) hcl hcc (show 2 ≤ 3 from by decide) (x' := (⟨(rd_T25 ys (la : Int)).f0, v, (rd_T25 ys (la : Int)).f2⟩ : S25)) (k25_mkM _ _ _ (⟨(rd_T25 ys (la : Int)).f0, v, (rd_T25 ys (la : Int)).f2⟩ : S25)) (fun _ hk => hk)
 exact hp
theorem spans_f2 {W : World} {base g cap : Nat} {ys : List S25} {la : Nat} (v : ByteArray) (hO : Kd.R k25 25 W base (fun _ => True) (.slice (some ⟨g, 0, none⟩) ys.length cap) ys) (h : la < ys.length) :
  Kd.R k25 25 (W.setCell ⟨g, la * 3 + 2, none⟩ (.string v)) base (fun _ => True) (.slice (some ⟨g, 0, none⟩) ys.length cap) (ys.set la ⟨(rd_T25 ys (la : Int)).f0, (rd_T25 ys (la : Int)).f1, v⟩) ∧ W.grownBy (W.setCell ⟨g, la * 3 + 2, none⟩ (.string v)) (some g) := by
 obtain ⟨cs, hcl, hM, hcc, hfr⟩ := Kd.R_elem hO z25 (la : Int) (by omega) (by omega)
 obtain rfl := k25_openM hM
 have hp := Kd.R_seg hO (la : Int) (by omega) (by omega) (seg := [.string v]) (j := 2) hcl hcc (show 3 ≤ 3 from by decide) (x' := (⟨(rd_T25 ys (la : Int)).f0, (rd_T25 ys (la : Int)).f1, v⟩ : S25)) (k25_mkM _ _ _ (⟨(rd_T25 ys (la : Int)).f0, (rd_T25 ys (la : Int)).f1, v⟩ : S25)) (fun _ hk => hk)
 exact hp
theorem rd_set {ys : List S25} {la : Nat} (y : S25) (h : la < ys.length) : rd_T25 (ys.set la y) (la : Int) = y := by
 unfold rd_T25
 rw [Int.toNat_natCast, List.getD_eq_getElem?_getD, List.getElem?_set_self h]; rfl
theorem normal_Of.cat {q : List S25} {j la : Nat} (hj : j < q.length) (hl : la < (normal_Of.d q j).length) (ht : normal_Of.t q < 140737488355328) : (rd_T25 (normal_Of.d q j) (la : Int)).f2.size + (rd_T25 q (j : Int)).f2.size < 140737488355328 := by
 have h1 := normal_Of.t_get _ la hl
 rw [(normal_Of.d_facts q j (by omega)).2.2] at h1
 have h2 : normal_Of.t q = normal_Of.t (q.take j) + normal_Of.t (q.drop j) := by rw [← normal_Of.t_append, List.take_append_drop]
 rw [op_sum.next q j hj, normal_Of.t] at h2
 omega
theorem normal_Of.merge {q ys : List S25} {j la : Nat} {x y : S25} (hyl : ys.length = q.length) (hyt : ys.take (normal_Of.d q j).length = normal_Of.d q j) (hyd : ys.drop j = q.drop j) (hj : j < q.length) (z : ¬ j = 0)
  (hla : la = (normal_Of.d q j).length - 1) (hd0 : 0 < (normal_Of.d q j).length) (hdj : (normal_Of.d q j).length ≤ j) (hn : normal_Of.d q (j + 1) = normal_Of.step (normal_Of.d q j) x) (hy : rd_T25 (normal_Of.d q j) (la : Int) = y) (hk : x.f0 = y.f0) (m : S25) (hm : m = ⟨y.f0, wrap64 (y.f1 + x.f1), y.f2 ++ x.f2⟩) :
  la = (normal_Of.d q (j + 1)).length - 1 ∧ (ys.set la m).length = q.length ∧ (ys.set la m).take (normal_Of.d q (j + 1)).length = normal_Of.d q (j + 1) ∧ (ys.set la m).drop (j + 1) = q.drop (j + 1) := by
 have e : normal_Of.d q (j + 1) = (normal_Of.d q j).set la m := by
  rw [hn]
  unfold normal_Of.step
  rw [if_neg (by omega), ← hla, hy, if_pos hk, hm]
 rw [e, List.length_set]
 refine ⟨hla, by rw [List.length_set]; exact hyl, ?_, ?_⟩
 ·rw [List.take_set, hyt]
 ·rw [set_drop _ _ _ _ (by omega), ← List.drop_drop, hyd, List.drop_drop]
theorem normal_Of.other {q ys : List S25} {j la : Nat} {x y : S25} (hyl : ys.length = q.length) (hyt : ys.take (normal_Of.d q j).length = normal_Of.d q j) (hyd : ys.drop j = q.drop j) (hj : j < q.length) (z : ¬ j = 0)
  (hla : la = (normal_Of.d q j).length - 1) (hd0 : 0 < (normal_Of.d q j).length) (hdj : (normal_Of.d q j).length ≤ j) (hn : normal_Of.d q (j + 1) = normal_Of.step (normal_Of.d q j) x) (hy : rd_T25 (normal_Of.d q j) (la : Int) = y) (hk : ¬ x.f0 = y.f0) :
  la + 1 = (normal_Of.d q (j + 1)).length - 1 ∧ (ys.set (la + 1) x).length = q.length ∧ (ys.set (la + 1) x).take (normal_Of.d q (j + 1)).length = normal_Of.d q (j + 1) ∧ (ys.set (la + 1) x).drop (j + 1) = q.drop (j + 1) := by
 have e : normal_Of.d q (j + 1) = normal_Of.d q j ++ [x] := by
  rw [hn]
  unfold normal_Of.step
  rw [if_neg (by omega), ← hla, hy, if_neg hk]
 rw [e, List.length_append]
 have hl1 : la + 1 = (normal_Of.d q j).length := by omega
 refine ⟨by simp; omega, by rw [List.length_set]; exact hyl, ?_, ?_⟩
 ·rw [hl1, show [x].length = 1 from rfl, set_take _ _ _ (by omega), hyt]
 ·rw [set_drop _ _ _ _ (by omega), ← List.drop_drop, hyd, List.drop_drop]
theorem normal_Of.merged {w0 wr : World} {g cap : Nat} {q ys : List S25} {j la : Nat} {x y : S25} (o : Obj) (n m : Nat) (hO : Kd.R k25 25 wr w0.heap.size (fun _ => True) (.slice (some ⟨g, 0, none⟩) q.length cap) ys) (hB : Below w0.heap.size w0 wr) (hg : w0.heap.size ≤ g)
  (hyl : ys.length = q.length) (hyt : ys.take (normal_Of.d q j).length = normal_Of.d q j) (hyd : ys.drop j = q.drop j) (hj : j < q.length) (z : ¬ j = 0)
  (hla : la = (normal_Of.d q j).length - 1) (hd0 : 0 < (normal_Of.d q j).length) (hdj : (normal_Of.d q j).length ≤ j) (hn : normal_Of.d q (j + 1) = normal_Of.step (normal_Of.d q j) x) (hy : rd_T25 (normal_Of.d q j) (la : Int) = y) (hk : x.f0 = y.f0) :
  normal_Of.I w0 (some ⟨g, 0, none⟩) cap q (j + 1) la ((((((wr.alloc o).drewN n).setCell ⟨g, la * 3 + 1, none⟩ (.int .i64 (wrap64 (y.f1 + x.f1)))).setCell ⟨g, la * 3 + 2, none⟩ (.string (y.f2 ++ x.f2)))).drewN m) := by
 have hlq : la < ys.length := by omega
 have hye : rd_T25 ys (la : Int) = y := by rw [normal_Of.last_eq hyt (by omega), hy]
 have h0 := Kd.R_drewN (Kd.R_alloc hO o) n
 rw [← hyl] at h0
 obtain ⟨h1, g1⟩ := spans_f1 (la := la) (wrap64 (y.f1 + x.f1)) h0 hlq
 have hl' : (ys.set la (⟨y.f0, wrap64 (y.f1 + x.f1), y.f2⟩ : S25)).length = ys.length := List.length_set
 rw [hye, ← hl'] at h1
 obtain ⟨h2, g2⟩ := spans_f2 (la := la) (y.f2 ++ x.f2) h1 (by rw [List.length_set]; exact hlq)
 rw [rd_set _ hlq, List.set_set, List.length_set, hyl] at h2
 obtain ⟨m1, m2, m3, m4⟩ := normal_Of.merge hyl hyt hyd hj z hla hd0 hdj hn hy hk _ rfl
 have hb0 : Below w0.heap.size w0 ((wr.alloc o).drewN n) := pw_below_drewN (below_alloc hB o) n
 have hb1 := hb0.grown g1 hb0.size (fun k e => by injection e with e; omega)
 have hb2 := hb1.grown g2 hb1.size (fun k e => by injection e with e; omega)
 exact ⟨by omega, m1, _, m2, m3, m4, Kd.R_drewN h2 m, pw_below_drewN hb2 m⟩
theorem normal_Of.wrap_next {la : Nat} (h : la < 1000000000) : wrap64 ((la : Int) + 1) = (la : Int) + 1 := by unfold wrap64; omega
theorem normal_Of.next_facts {la dl j n : Nat} (h1 : la < dl) (h2 : dl ≤ j) (h3 : j < n) : (0 ≤ (la : Int) + 1) = True ∧ ((la : Int) + 1 < (n : Int)) = True ∧ (la + 1 < n) = True := ⟨eq_true (by omega), eq_true (by omega), eq_true (by omega)⟩
theorem normal_Of.end_facts {la dl n c : Nat} (h1 : la = dl - 1) (h2 : dl ≤ n) (h3 : 0 < n → 0 < dl) (h4 : n < 1000000000) (h5 : n ≤ c) : (n = 0 ∧ la = 0 ∧ dl = 0) ∨ (la + 1 = dl ∧ ((n : Int) < (la : Int) + 1) = False ∧ (0 ≤ (la : Int) + 1) = True ∧ ((la : Int) + 1 ≤ (c : Int)) = True ∧ wrap64 ((la : Int) + 1) = (la : Int) + 1) := by
 rcases Nat.eq_zero_or_pos n with h | h
 ·exact .inl ⟨h, by omega, by omega⟩
 ·have := h3 h
  exact .inr ⟨by omega, eq_false (by omega), eq_true (by omega), eq_true (by omega), by unfold wrap64; omega⟩
set_option maxHeartbeats 8000000 in
set_option maxRecDepth 100000 in
theorem normal_Of.calls (A0 : Option Addr) (c0 : Nat) (l0 : List S25) (r : List S25) (w : World) (hr0 : Kd.C k25 w A0 l0.length l0) (hc0 : l0.length ≤ c0) (h : normal_Of.f l0 = some r) :
  Calls Tryd.prog 33 #[.slice A0 l0.length c0] w fun e w' => ∃ v0_ : Value, e = .returned (v0_) ∧ Kd.R k25 25 w' w.heap.size (fun _ => True) v0_ r ∧ Below w.heap.size w w' := by
 unfold normal_Of.f at h
 by_cases c : l0.length < 1000000000 ∧ normal_Of.t l0 < 140737488355328
 ·rw [if_pos c] at h
  have hr := Option.some.inj h
  have HR := am hr
  have HL := am c.1; have HT := am c.2; have HC := am hr0; have HCC := am hc0
  clear h c hr hr0 hc0
  go_enter Tryd.func33, Tryd.ntmps33
  go_wp2_with (first | ((with_reducible refine gate_dst (N := 9) rfl ?_); refine Kd.R_make k25 (w0 := w) w.heap.size 25 rfl (N := 9) rfl 27 (.tmp 8) (.tmp 8) rfl (l0.length : Int) rfl rfl Tryd.underlying27 _ 32 info25 rfl (by decide) (by decide) z25 (ok := fun _ => True) (okp := fun _ => False) (k25_mkM _ _ _ z25) (fun _ h_ => h_.elim) trivial (by omega) (by have := HL.out; omega) (Below.refl _ _) (Nat.le_refl _) ?_; intro v1 w1 ho hb hg hat; rw [Int.toNat_natCast] at ho; have HO1 := am ho; have HB1 := am hb; clear ho hb hg hat) | ((with_reducible refine gate_builtin (b := .copy) (xs := #[.tmp 10, .tmp 11]) rfl ?_); refine spans_copy w.heap.size rfl (.tmp 10) (.tmp 11) rfl v1 (List.replicate l0.length z25) l0 A0 c0 (fun _ => True) rfl rfl HO1.out (Kd.C_below HC.out HB1.out) (by rw [List.length_replicate]) ?_; intro w2 h2 hg2; have HO2 := am h2; have HB2 := am (HB1.out.grown hg2 HB1.out.size (own_base (own_spans HO1.out))); clear h2 hg2 HO1 HB1) | (go_at_call 73; (with_reducible refine (normal_Of.del l0 v1 w w2 HO2.out HB2.out (by have := HL.out; omega)).mono ?_); rintro e w3 ⟨A3, m3, c3, rfl, ho, hb⟩; have HO3 := am ho; have HB3 := am hb; clear ho hb HO2 HB2))
  obtain ⟨q, hq⟩ : ∃ q, normal_Of.keep l0 = q := ⟨_, rfl⟩
  have hql : q.length ≤ l0.length := by rw [← hq]; exact List.length_filter_le _ _
  have hqt : normal_Of.t q ≤ normal_Of.t l0 := by rw [← hq]; exact normal_Of.t_keep l0
  have HQL : Aside0 (q.length < 1000000000) := ⟨by have := HL.out; omega⟩
  have HQT : Aside0 (normal_Of.t q < 140737488355328) := ⟨by have := HT.out; omega⟩
  have hr := HR.out
  have ho := HO3.out
  unfold normal_Of.n at hr
  rw [hq] at hr ho
  obtain rfl : m3 = q.length := (Kd.R_reads' ho).1
  have HRR : Aside0 (normal_Of.d q q.length = r) := ⟨by unfold normal_Of.d; rw [List.take_length]; exact hr⟩
  have HO4 := am ho
  clear hql hqt hr hq ho HO3 HR HL HT
  go_loopw [4, 5, 6, 17] (fun v4 _ _ v17 wr => ∃ j la : Nat, v4 = .int .i64 la ∧ v17 = .int .i64 j ∧ Aside0 (normal_Of.I w A3 c3 q j la wr)) (fun _ _ _ v17 _ => q.length - (intOf v17).toNat)
  case atStart => exact ⟨0, 0, rfl, rfl, ⟨Nat.zero_le _, rfl, q, rfl, rfl, rfl, HO4.out, HB3.out⟩⟩
  case round =>
   obtain ⟨j, la, rfl, rfl, HI⟩ := hrel
   obtain ⟨hj, hla, ys, hyl, hyt, hyd, hO, hB⟩ := HI.out
   clear HI
   obtain ⟨df1, df2, df3⟩ := normal_Of.d_facts q j hj
   have HO := am hO; have HB := am hB; have HYL := am hyl; have HYT := am hyt; have HYD := am hyd; have HJJ := am hj; have HLA := am hla
   clear hB
   by_cases hlt : j < q.length
   ·have hltb : decide ((j : Int) < (q.length : Int)) = true := decide_eq_true (by omega)
    have HLT := am hlt
    obtain ⟨g, cap, hv, hg1, hg2, _⟩ := Kd.R_form hO (by omega)
    injection hv with h1 h2 h3
    subst h1; subst h3
    have HG := am hg1
    rw [← hyl] at hO
    obtain ⟨ad, had, hx0, hx1, hx2⟩ := at_T25 (Kd.R_reads' hO).2.2 (j : Int) (by omega) (by omega)
    injection had with had
    subst had
    rw [Int.toNat_natCast, add_plain] at hx0 hx1 hx2
    rw [rd_drop hyd hlt] at hx0 hx1 hx2
    have p1 : (0 ≤ (j : Int)) = True := eq_true (by omega)
    have p2 : ((j : Int) < (q.length : Int)) = True := eq_true (by omega)
    have p3 : (j < q.length) = True := eq_true hlt
    have ew : wrap64 ((j : Int) + 1) = ((j + 1 : Nat) : Int) := by have := HQL.out; unfold wrap64; omega
    have HN := am (normal_Of.d_next q j hlt)
    obtain ⟨x, hx⟩ : ∃ x, rd_T25 q (j : Int) = x := ⟨_, rfl⟩
    rw [hx] at hx0 hx1 hx2 HN
    by_cases z : j = 0
    ·subst z
     have zb : (((0 : Nat) : Int) == 0) = true := rfl
     clear hyt hyd hO hlt hj hla hyl df1 df2 df3 h2
     go_wp2
     go_round
     case measure => have := HLT.out; show q.length - 1 < q.length - 0; omega
     case rel =>
      refine ⟨1, la, rfl, rfl, ⟨HLT.out, ?_, ys, HYL.out, ?_, ?_, Kd.R_alloc HO.out _, below_alloc HB.out _⟩⟩
      ·rw [HN.out, HLA.out]; rfl
      ·have e : ys = q := by have := HYD.out; rwa [List.drop_zero, List.drop_zero] at this
       rw [HN.out, e]
       show q.take 1 = [x]
       have h1 := op_sum.next q 0 HLT.out
       rw [List.drop_zero] at h1
       rw [h1, ← hx]; rfl
      ·have e : ys = q := by have := HYD.out; rwa [List.drop_zero, List.drop_zero] at this
       rw [e]
    ·obtain ⟨hd0, hld, hlaq, q1, q2, q3, zb, r1, r2⟩ := normal_Of.la_facts hlt hla df1 df2 z
     obtain ⟨y0, y1, y2, f0, f1, f2⟩ := normal_Of.last_cells hO hyt hld (by rw [hyl]; exact hlaq)
     obtain ⟨y, hy⟩ : ∃ y, rd_T25 (normal_Of.d q j) (la : Int) = y := ⟨_, rfl⟩
     rw [hy] at y0 y1 y2
     have hcat := normal_Of.cat hlt hld HQT.out
     rw [hx, hy] at hcat
     have hcb : (9223372036854775807 < y.f2.size + x.f2.size) = False := eq_false (Nat.not_lt.mpr (Nat.le_trans (Nat.le_of_lt hcat) (by decide)))
     clear hcat
     have HX := am hx; have HY := am hy; have HD0 := am hd0; have HLQ := am hlaq; have HLD := am hld; have HZ := am z; have HDF := am df1
     clear hyt hyd hO hlt hj hla hyl df1 df2 df3 h2 hx hy hd0 hld hlaq r1 r2 z
     by_cases ck : x.f0 = y.f0
     ·have ckb : (x.f0 == y.f0) = true := beq_iff_eq.mpr ck
      have CK := am ck
      clear ck
      go_wp2
      go_quiet (fail)
      go_wp2
      go_region
      go_wp2
      go_region
      go_wp2
      go_round
      case measure => exact op_sum.less HLT.out ew
      case rel => exact ⟨j + 1, la, rfl, by rw [ew], ⟨normal_Of.merged _ _ 1 HO.out HB.out HG.out HYL.out HYT.out HYD.out HLT.out HZ.out HLA.out HD0.out HDF.out HN.out HY.out CK.out⟩⟩
     ·have ckb : (x.f0 == y.f0) = false := beq_eq_false_iff_ne.mpr ck
      have CK := am ck
      clear ck
      have ewl : wrap64 ((la : Int) + 1) = (la : Int) + 1 := normal_Of.wrap_next (Nat.lt_trans HLQ.out HQL.out)
      obtain ⟨l1, l2, l3⟩ := normal_Of.next_facts HLD.out HDF.out HLT.out
      go_wp2
      go_quiet (fail)
      go_wp2_with ((with_reducible refine gate_store (t := 25) (p := 27) rfl ?_); refine spans_store w.heap.size rfl rfl (.tmp 27) (.tmp 26) rfl (g := g) (cap := c3) (la + 1) ys x (fun _ => True) rfl rfl (by rw [HYL.out]; exact Kd.R_drewN (Kd.R_alloc HO.out _) _) (by rw [HYL.out]; exact of_eq_true l3) ?_; intro w9 h9 hg9; rw [HYL.out] at h9; have HO9 := am h9; have HB9 := am ((pw_below_drewN (below_alloc HB.out _) _).grown hg9 (pw_below_drewN (below_alloc HB.out _) _).size (fun k_ e_ => by injection e_ with e_; rw [← e_]; exact HG.out)); clear h9 hg9)
      go_round
      case measure => exact op_sum.less HLT.out ew
      case rel =>
       obtain ⟨m1, m2, m3, m4⟩ := normal_Of.other HYL.out HYT.out HYD.out HLT.out HZ.out HLA.out HD0.out HDF.out HN.out HY.out CK.out
       exact ⟨j + 1, la + 1, congrArg (Value.int .i64) (ewl.trans (Int.natCast_succ la).symm), by rw [ew], ⟨HLT.out, m1, _, m2, m3, m4, HO9.out, HB9.out⟩⟩
   ·have hltb : decide ((j : Int) < (q.length : Int)) = false := decide_eq_false (by omega)
    obtain rfl : j = q.length := by omega
    have hR := Kd.R_take (m := (normal_Of.d q q.length).length) hO (by rw [hyl]; exact df1)
    rw [hyt, HRR.out] at hR
    rcases normal_Of.end_facts hla df1 df2 HQL.out (Kd.R_reads' hO).2.1 with ⟨e1, e2, e3⟩ | ⟨e1, m1, m2, m3, ew⟩
    ·rw [HRR.out] at e3
     rw [e3] at hR
     have HR2 := am hR
     have hq0 : q = [] := List.eq_nil_of_length_eq_zero e1
     subst hq0; subst e2
     clear hyt hyd hO hj hla hyl df1 df2 df3 hlt hR e1 e3
     go_wp2
     go_ret
     exact ⟨_, rfl, HR2.out, HB.out⟩
    ·rw [HRR.out] at e1
     rw [← e1] at hR
     have HR2 := am hR
     clear hyt hyd hO hj hla hyl df1 df2 df3 hlt hR e1
     go_wp2
     go_ret
     exact ⟨_, rfl, HR2.out, HB.out⟩
 ·rw [if_neg c] at h; cases h
end Go.Proofs.YtegjegihcebimaaDoor.P
end
