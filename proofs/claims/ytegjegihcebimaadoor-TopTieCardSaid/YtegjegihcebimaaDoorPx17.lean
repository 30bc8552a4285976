-- WRITTEN BY A PROGRAM OF THIS SESSION (wip/pp in its repo), made after the kit's print
import Derived.Test.YtegjegihcebimaaDoorPx0
import Derived.Test.YtegjegihcebimaaDoorPx2
import Derived.Test.YtegjegihcebimaaDoorPx7
import Derived.Test.YtegjegihcebimaaDoorPx8
import Derived.Test.YtegjegihcebimaaDoorPx10
import Derived.Test.YtegjegihcebimaaDoorPx16
namespace Go.Proofs.YtegjegihcebimaaDoor.P
open Go.RowKit Go.Proofs.YtegjegihcebimaaDoorW.PrintWords Go.Proofs.YtegjegihcebimaaDoorW.PrintLast Go.Proofs.YtegjegihcebimaaDoorW.PrintMore
attribute [local go_sem] max2_int min2_int max_two min_two max_three min_three max_four min_four   -- for this text's walks alone
set_option linter.unusedVariables false
set_option linter.unusedSimpArgs false

/-! ### epitomeref01_Fit: function 9 -/
def epitomeref01_Fit.tab : List Int := [97, 98, 99, 120, 121, 233, 8364, 128512]
/-- Each byte, made one of eight code points. -/
def epitomeref01_Fit.l (s : ByteArray) : List Int := s.data.toList.map fun b => epitomeref01_Fit.tab.getD (b.toNat % 8) 0
def epitomeref01_Fit.f (k : Nat) (a0 : ByteArray) : Option ByteArray := if a0.size < 35184372088832 then epitomeref01_Of.f k (epitomeref01_Fit.l a0) else none
theorem epitomeref01_Fit.mono (a0 : ByteArray) (k : Nat) : LeO (epitomeref01_Fit.f k a0) (epitomeref01_Fit.f (k + 1) a0) := by
  unfold epitomeref01_Fit.f
  exact LeO.ite (epitomeref01_Of.mono _ _) (LeO.none _)
theorem epitomeref01_Fit.len (s : ByteArray) : (epitomeref01_Fit.l s).length = s.size := by
  unfold epitomeref01_Fit.l; rw [List.length_map, Array.length_toList]; rfl
theorem epitomeref01_Fit.next (s : ByteArray) (k : Nat) (h : k < s.size) : (epitomeref01_Fit.l s).take (k + 1) = (epitomeref01_Fit.l s).take k ++ [epitomeref01_Fit.tab.getD ((s[k]'h).toNat % 8) 0] := by
  have hl := epitomeref01_Fit.len s
  rw [List.take_succ_eq_append_getElem (by omega)]
  congr 2
  simp only [epitomeref01_Fit.l, List.getElem_map, Array.getElem_toList]
  rfl
def epitomeref01_Fit.arr : Array Value := #[.int .i32 97, .int .i32 98, .int .i32 99, .int .i32 120, .int .i32 121, .int .i32 233, .int .i32 8364, .int .i32 128512]
theorem epitomeref01_Fit.cell {W : World} {B : Nat} {T : TypeId} (h : W.heap[B]? = some (.cells epitomeref01_Fit.arr T (0, 0))) (m : Nat) (hm : m < 8) : W.cell? ⟨B, m, none⟩ = some (.int .i32 (epitomeref01_Fit.tab.getD m 0)) := by
  rw [cell_of_row W B m _ T (0, 0) h]
  rcases (by omega : m = 0 ∨ m = 1 ∨ m = 2 ∨ m = 3 ∨ m = 4 ∨ m = 5 ∨ m = 6 ∨ m = 7) with rfl | rfl | rfl | rfl | rfl | rfl | rfl | rfl <;> rfl
set_option maxHeartbeats 8000000 in
set_option maxRecDepth 100000 in
theorem epitomeref01_Fit.calls (k : Nat) (a0 : ByteArray) (r : ByteArray) (w : World) (h : epitomeref01_Fit.f k a0 = some r) :
    Calls Tryd.prog 9 #[.string a0] w fun e w' => e = .returned (.string r) ∧ Below w.heap.size w w' := by
  unfold epitomeref01_Fit.f at h
  by_cases c : a0.size < 35184372088832
  · rw [if_pos c] at h
    have A1 := Aside0.mk h
    have HS := Aside0.mk c
    clear h c
    go_enter Tryd.func9, Tryd.ntmps9
    go_wp2
    go_loopw [4, 5] (fun v4 v5 wr => ∃ j : Nat, v5 = .int .i64 j ∧ j ≤ a0.size ∧ Aside0 (Kd.R (Kd.int .i32) 21 wr w.heap.size (fun _ => True) v4 ((epitomeref01_Fit.l a0).take j)) ∧ Aside0 (wr.heap[w.heap.size]? = some (.cells epitomeref01_Fit.arr 86 (0, 0))) ∧ Aside0 (Below w.heap.size w wr)) (fun _ v5 _ => a0.size - (intOf v5).toNat)
    case atStart =>
      have ho := own_lit (w.alloc (.cells epitomeref01_Fit.arr 86)) w.heap.size 21 .i32 [] (by simp) (by simp)
      have e : (w.alloc (.cells epitomeref01_Fit.arr 86)).heap.size = w.heap.size + 1 := by simp
      rw [e] at ho
      refine ⟨0, rfl, Nat.zero_le _, ⟨⟨fun _ _ => trivial, [], ho, Reps.none _ _⟩⟩, ⟨?_⟩, ⟨below_alloc (below_alloc (Below.refl _ _) _) _⟩⟩
      exact blk_alloc (heap_alloc_new w (.cells epitomeref01_Fit.arr 86)) _
    case round =>
      obtain ⟨j, rfl, hj, HO, HC, HB⟩ := hrel
      have hsz := HS.out
      by_cases hlt : j < a0.size
      · have hm : (a0[j]'hlt).toNat % 8 < 8 := Nat.mod_lt _ (by decide)
        have hcell := epitomeref01_Fit.cell HC.out _ hm
        have N1 := Aside0.mk (epitomeref01_Fit.next a0 j hlt)
        generalize epitomeref01_Fit.tab.getD ((a0[j]'hlt).toNat % 8) 0 = x at hcell N1
        have HL : Aside0 (((epitomeref01_Fit.l a0).take j).length < 35184372088832) := ⟨by rw [List.length_take]; omega⟩
        go_wp2_with (first | ((with_reducible refine gate_builtin (b := .append) (xs := #[.tmp 14, .tmp 21]) rfl ?_); at_builtin; refine Kd.R_append (Kd.int .i32) (w0 := w) w.heap.size rfl (.tmp 14) (.tmp 21) 87 21 (.int .i32 0) 4 rfl Tryd.underlying87 info21 rfl (by decide) (by omega) u4 ((epitomeref01_Fit.l a0).take j) (x) [.int .i32 (x)] (fun _ => True) (fun _ => False) rfl rfl ?aP (fun _ hk => hk.elim) ?aF ?aO ?aB ?aS ?aL ?_; (case aP => exact rfl); (case aB => exact (by repeat (first | (with_reducible first | exact HB.out | apply below_alloc | apply pw_below_drewN | apply below_drew1) | exact HB.out))); (case aF => exact (fun _ _ => trivial)); (case aO => exact (by (with_reducible repeat (first | apply Kd.R_alloc | apply Kd.R_drewN | apply Kd.R_drew)); exact HO.out)); (case aS => exact (below_size (by repeat (first | (with_reducible first | exact HB.out | apply below_alloc | apply pw_below_drewN | apply below_drew1) | exact HB.out)))); (case aL => have := HL.out; omega); intro v100 w100 ho hb hg hat; have HB1 := Aside0.mk hb; have HO1 := Aside0.mk ho; have HC1 := Aside0.mk (blk_grown HC.out hg (Kd.R_ne HO.out HC.out (by decide))); clear ho hb hg hat hcell))
        go_roundw
        case rel => exact ⟨j + 1, by go_num, by omega, ⟨by rw [N1.out]; exact HO1.out⟩, HC1, HB1⟩
        case measure => simp [intOf]; omega
      · obtain rfl : j = a0.size := by omega
        have HL : Aside0 (List.take a0.size (epitomeref01_Fit.l a0) = epitomeref01_Fit.l a0) := ⟨by rw [List.take_of_length_le]; rw [epitomeref01_Fit.len]; exact Nat.le_refl _⟩
        rw [HL.out] at HO
        obtain ⟨A, q, e, hq, hc⟩ := Kd.R_reads HO.out
        subst e
        have HQ := Aside0.mk hq; have HR := Aside0.mk hc
        clear hq hc HO
        go_wp2_with (go_at_call 40; (with_reducible refine (epitomeref01_Of.calls k _ _ (epitomeref01_Fit.l a0) r _ HR.out HQ.out A1.out).mono ?_); rintro e w1 ⟨rfl, hb⟩)
        go_ret
        exact ⟨rfl, below_then HB.out HB.out.size hb⟩
  · rw [if_neg c] at h; cases h

/-! ### fuse_next: function 94 -/
def fuse_next.f (k : Nat) (a0 : Int) (l1 : List (S25)) : Option (Int × Int) := (op_May.f k l1).bind fun t214 => (if t214 = 0 then ((op_In.f l1).bind fun t215 => (if t215 = a0 then ((op_Out.f l1).bind fun t216 => (some (t216, 0))) else (some (0, 5)))) else (some (0, t214)))
theorem fuse_next.mono : ∀ a0 a1 k, LeO (fuse_next.f k a0 a1) (fuse_next.f (k + 1) a0 a1) := by
 intro a0 a1 k
 unfold fuse_next.f
 repeat' first
   | (with_reducible exact op_May.mono _ _)
   | (with_reducible exact LeO.refl _)
   | (with_reducible exact LeO.none _)
   | (with_reducible refine LeO.ite ?_ ?_)
   | (with_reducible refine LeO.bind ?_ (fun _ => ?_))
   | exact op_May.mono _ _
   | exact LeO.none _
   | refine LeO.ite ?_ ?_
   | refine LeO.bind ?_ (fun _ => ?_)
set_option maxHeartbeats 8000000 in
set_option maxRecDepth 100000 in
theorem fuse_next.calls (k : Nat) (a0 : Int) (A1 : Option Addr) (c1 : Nat) (l1 : List (S25)) (r1 : Int) (r2 : Int) (w : World) (hr1 : Kd.C k25 w A1 l1.length l1) (hc1 : l1.length ≤ c1) (hT : Tabs w) (h : fuse_next.f k a0 l1 = some (r1, r2)) :
  Calls Tryd.prog 94 #[.int .i64 a0, .slice A1 l1.length c1] w fun e w' => e = .returned (.tuple #[.int .i64 r1, .int .i64 r2]) ∧ Below w.heap.size w w' := by
 have HT := Aside0.mk hT
 clear hT
 have HR1 := Aside0.mk hr1
 have HC1 := Aside0.mk hc1
 clear hr1 hc1
 have HB := Aside0.mk (Below.refl w.heap.size w)
 have H : ((op_May.f k l1).bind fun t214 => (if t214 = 0 then ((op_In.f l1).bind fun t215 => (if t215 = a0 then ((op_Out.f l1).bind fun t216 => (some (t216, 0))) else (some (0, 5)))) else (some (0, t214)))) = some (r1, r2) := h
 clear h
 replace H := Option.bind_eq_some_iff.mp H
 obtain ⟨t214, A30, H⟩ := H
 replace H : (if t214 = 0 then ((op_In.f l1).bind fun t215 => (if t215 = a0 then ((op_Out.f l1).bind fun t216 => (some (t216, 0))) else (some (0, 5)))) else (some (0, t214))) = some (r1, r2) := H
 have A3 := Aside0.mk A30
 clear A30
 by_cases c4 : t214 = 0
 ·rw [if_pos c4] at H
  have c4b0 : (t214 == 0) = true := beq_iff_eq.mpr c4
  have c4b1 : (t214 != 0) = false := bne_eq_false_iff_eq.mpr c4
  clear c4
  replace H := Option.bind_eq_some_iff.mp H
  obtain ⟨t215, A50, H⟩ := H
  replace H : (if t215 = a0 then ((op_Out.f l1).bind fun t216 => (some (t216, 0))) else (some (0, 5))) = some (r1, r2) := H
  have A5 := Aside0.mk A50
  clear A50
  by_cases c6 : t215 = a0
  ·rw [if_pos c6] at H
   have c6b0 : (t215 == a0) = true := beq_iff_eq.mpr c6
   have c6b1 : (t215 != a0) = false := bne_eq_false_iff_eq.mpr c6
   clear c6
   replace H := Option.bind_eq_some_iff.mp H
   obtain ⟨t216, A70, H⟩ := H
   replace H : (some (t216, 0)) = some (r1, r2) := H
   have A7 := Aside0.mk A70
   clear A70
   simp only [Option.some.injEq, Prod.mk.injEq] at H
   obtain ⟨rfl, rfl⟩ := H
   go_enter Tryd.func94, Tryd.ntmps94
   go_wp2_with (first | ((with_reducible refine gate_callee (f := 46) rfl ?_); refine goesL_ (some 8) rfl rfl Tryd.func46 (by kernel_rfl) rfl #[.slice A1 l1.length c1] rfl (by (try simp only [List.map_toArray, List.map_cons, List.map_nil]); first | done | rfl | (simp only [List.length_drop, List.length_take]; rfl)) ?_; (with_reducible refine (op_May.calls k _ _ l1 t214 _ ?side1 ?side2 ?side3 A3.out).mono ?_); (case side1 => repeat (first | exact HR1.out | (with_reducible refine Kd.C_alloc ?_ _) | (with_reducible refine Kd.C_drewN ?_ _) | (with_reducible refine Kd.C_drew ?_))); (case side2 => exact HC1.out); (case side3 => exact Tabs.below HT.out (by repeat (first | (with_reducible first | exact HB.out | apply below_alloc | apply pw_below_drewN | apply below_drew1) | exact HB.out))); rintro e w8 ⟨rfl, hb⟩; refine ⟨_, rfl, ?_⟩; have n0_ := Aside0.mk (below_step (by repeat (first | (with_reducible first | exact HB.out | apply below_alloc | apply pw_below_drewN | apply below_drew1) | exact HB.out)) hb); clear HB; have HB := n0_; clear n0_; (try clear hb); (try clear hb2); (try clear hk); (try clear hi)) | ((with_reducible refine gate_callee (f := 20) rfl ?_); refine goesL_ (some 15) rfl rfl Tryd.func20 (by kernel_rfl) rfl #[.slice A1 l1.length c1] rfl (by (try simp only [List.map_toArray, List.map_cons, List.map_nil]); first | done | rfl | (simp only [List.length_drop, List.length_take]; rfl)) ?_; (with_reducible refine (op_In.calls _ _ l1 t215 _ ?side1 ?side2 ?side3 A5.out).mono ?_); (case side1 => repeat (first | exact (Kd.C_below HR1.out HB.out) | (with_reducible refine Kd.C_alloc ?_ _) | (with_reducible refine Kd.C_drewN ?_ _) | (with_reducible refine Kd.C_drew ?_))); (case side2 => exact HC1.out); (case side3 => exact Tabs.below HT.out (by repeat (first | (with_reducible first | exact HB.out | apply below_alloc | apply pw_below_drewN | apply below_drew1) | exact HB.out))); rintro e w9 ⟨rfl, hb⟩; refine ⟨_, rfl, ?_⟩; have n0_ := Aside0.mk (below_step (by repeat (first | (with_reducible first | exact HB.out | apply below_alloc | apply pw_below_drewN | apply below_drew1) | exact HB.out)) hb); clear HB; have HB := n0_; clear n0_; (try clear hb); (try clear hb2); (try clear hk); (try clear hi)) | ((with_reducible refine gate_callee (f := 62) rfl ?_); refine goesL_ (some 19) rfl rfl Tryd.func62 (by kernel_rfl) rfl #[.slice A1 l1.length c1] rfl (by (try simp only [List.map_toArray, List.map_cons, List.map_nil]); first | done | rfl | (simp only [List.length_drop, List.length_take]; rfl)) ?_; (with_reducible refine (op_Out.calls _ _ l1 t216 _ ?side1 ?side2 ?side3 A7.out).mono ?_); (case side1 => repeat (first | exact (Kd.C_below HR1.out HB.out) | (with_reducible refine Kd.C_alloc ?_ _) | (with_reducible refine Kd.C_drewN ?_ _) | (with_reducible refine Kd.C_drew ?_))); (case side2 => exact HC1.out); (case side3 => exact Tabs.below HT.out (by repeat (first | (with_reducible first | exact HB.out | apply below_alloc | apply pw_below_drewN | apply below_drew1) | exact HB.out))); rintro e w10 ⟨rfl, hb⟩; refine ⟨_, rfl, ?_⟩; have n0_ := Aside0.mk (below_step (by repeat (first | (with_reducible first | exact HB.out | apply below_alloc | apply pw_below_drewN | apply below_drew1) | exact HB.out)) hb); clear HB; have HB := n0_; clear n0_; (try clear hb); (try clear hb2); (try clear hk); (try clear hi)))
   go_ret2
   exact ⟨by first | rfl | (simp [errW_none, errW_some] <;> rfl) | (simp [*, errW_none, errW_some] <;> rfl), by repeat (first | (with_reducible first | exact HB.out | apply below_alloc | apply pw_below_drewN | apply below_drew1) | exact HB.out)⟩
  ·rw [if_neg c6] at H
   have c6b0 : (t215 == a0) = false := beq_eq_false_iff_ne.mpr c6
   have c6b1 : (t215 != a0) = true := bne_iff_ne.mpr c6
   simp only [Option.some.injEq, Prod.mk.injEq] at H
   obtain ⟨rfl, rfl⟩ := H
   go_enter Tryd.func94, Tryd.ntmps94
   go_wp2_with (first | ((with_reducible refine gate_callee (f := 46) rfl ?_); refine goesL_ (some 8) rfl rfl Tryd.func46 (by kernel_rfl) rfl #[.slice A1 l1.length c1] rfl (by (try simp only [List.map_toArray, List.map_cons, List.map_nil]); first | done | rfl | (simp only [List.length_drop, List.length_take]; rfl)) ?_; (with_reducible refine (op_May.calls k _ _ l1 t214 _ ?side1 ?side2 ?side3 A3.out).mono ?_); (case side1 => repeat (first | exact HR1.out | (with_reducible refine Kd.C_alloc ?_ _) | (with_reducible refine Kd.C_drewN ?_ _) | (with_reducible refine Kd.C_drew ?_))); (case side2 => exact HC1.out); (case side3 => exact Tabs.below HT.out (by repeat (first | (with_reducible first | exact HB.out | apply below_alloc | apply pw_below_drewN | apply below_drew1) | exact HB.out))); rintro e w11 ⟨rfl, hb⟩; refine ⟨_, rfl, ?_⟩; have n0_ := Aside0.mk (below_step (by repeat (first | (with_reducible first | exact HB.out | apply below_alloc | apply pw_below_drewN | apply below_drew1) | exact HB.out)) hb); clear HB; have HB := n0_; clear n0_; (try clear hb); (try clear hb2); (try clear hk); (try clear hi)) | ((with_reducible refine gate_callee (f := 20) rfl ?_); refine goesL_ (some 15) rfl rfl Tryd.func20 (by kernel_rfl) rfl #[.slice A1 l1.length c1] rfl (by (try simp only [List.map_toArray, List.map_cons, List.map_nil]); first | done | rfl | (simp only [List.length_drop, List.length_take]; rfl)) ?_; (with_reducible refine (op_In.calls _ _ l1 t215 _ ?side1 ?side2 ?side3 A5.out).mono ?_); (case side1 => repeat (first | exact (Kd.C_below HR1.out HB.out) | (with_reducible refine Kd.C_alloc ?_ _) | (with_reducible refine Kd.C_drewN ?_ _) | (with_reducible refine Kd.C_drew ?_))); (case side2 => exact HC1.out); (case side3 => exact Tabs.below HT.out (by repeat (first | (with_reducible first | exact HB.out | apply below_alloc | apply pw_below_drewN | apply below_drew1) | exact HB.out))); rintro e w12 ⟨rfl, hb⟩; refine ⟨_, rfl, ?_⟩; have n0_ := Aside0.mk (below_step (by repeat (first | (with_reducible first | exact HB.out | apply below_alloc | apply pw_below_drewN | apply below_drew1) | exact HB.out)) hb); clear HB; have HB := n0_; clear n0_; (try clear hb); (try clear hb2); (try clear hk); (try clear hi)))
   go_ret2
   exact ⟨by first | rfl | (simp [errW_none, errW_some] <;> rfl) | (simp [*, errW_none, errW_some] <;> rfl), by repeat (first | (with_reducible first | exact HB.out | apply below_alloc | apply pw_below_drewN | apply below_drew1) | exact HB.out)⟩
 ·rw [if_neg c4] at H
  have c4b0 : (t214 == 0) = false := beq_eq_false_iff_ne.mpr c4
  have c4b1 : (t214 != 0) = true := bne_iff_ne.mpr c4
  simp only [Option.some.injEq, Prod.mk.injEq] at H
  obtain ⟨rfl, rfl⟩ := H
  go_enter Tryd.func94, Tryd.ntmps94
  go_wp2_with (first | ((with_reducible refine gate_callee (f := 46) rfl ?_); refine goesL_ (some 8) rfl rfl Tryd.func46 (by kernel_rfl) rfl #[.slice A1 l1.length c1] rfl (by (try simp only [List.map_toArray, List.map_cons, List.map_nil]); first | done | rfl | (simp only [List.length_drop, List.length_take]; rfl)) ?_; (with_reducible refine (op_May.calls k _ _ l1 t214 _ ?side1 ?side2 ?side3 A3.out).mono ?_); (case side1 => repeat (first | exact HR1.out | (with_reducible refine Kd.C_alloc ?_ _) | (with_reducible refine Kd.C_drewN ?_ _) | (with_reducible refine Kd.C_drew ?_))); (case side2 => exact HC1.out); (case side3 => exact Tabs.below HT.out (by repeat (first | (with_reducible first | exact HB.out | apply below_alloc | apply pw_below_drewN | apply below_drew1) | exact HB.out))); rintro e w13 ⟨rfl, hb⟩; refine ⟨_, rfl, ?_⟩; have n0_ := Aside0.mk (below_step (by repeat (first | (with_reducible first | exact HB.out | apply below_alloc | apply pw_below_drewN | apply below_drew1) | exact HB.out)) hb); clear HB; have HB := n0_; clear n0_; (try clear hb); (try clear hb2); (try clear hk); (try clear hi)))
  go_ret2
  exact ⟨by first | rfl | (simp [errW_none, errW_some] <;> rfl) | (simp [*, errW_none, errW_some] <;> rfl), by repeat (first | (with_reducible first | exact HB.out | apply below_alloc | apply pw_below_drewN | apply below_drew1) | exact HB.out)⟩

/-! ### fuse_Chain: function 83 -/
def fuse_Chain.l (k : Nat) : Int → List (List S25) → Option (Int × Int)
  | x, [] => some (x, 0)
  | x, y :: l => (fuse_next.f k x y).bind fun r => if r.2 = 0 then fuse_Chain.l k r.1 l else some (0, r.2)
theorem fuse_Chain.mono_l (k : Nat) : ∀ (l : List (List S25)) (x : Int), LeO (fuse_Chain.l k x l) (fuse_Chain.l (k + 1) x l)
  | [], x => LeO.refl _
  | y :: l, x => by
    unfold fuse_Chain.l
    exact LeO.bind (fuse_next.mono _ _ _) fun r => LeO.ite (fuse_Chain.mono_l k l _) (LeO.refl _)
def fuse_Chain.f (k : Nat) (a0 : Int) (l1 : List (List S25)) : Option (Int × Int) := if l1.length < 1000000000 then (op_Keep.f k a0).bind fun t => (if t.2 = 0 then fuse_Chain.l k a0 l1 else some (0, t.2)) else none
theorem fuse_Chain.mono (a0 : Int) (l1 : List (List S25)) (k : Nat) : LeO (fuse_Chain.f k a0 l1) (fuse_Chain.f (k + 1) a0 l1) := by
  unfold fuse_Chain.f
  exact LeO.ite (LeO.bind (op_Keep.mono _ _) fun t => LeO.ite (fuse_Chain.mono_l k _ _) (LeO.refl _)) (LeO.none _)
set_option maxHeartbeats 8000000 in
set_option maxRecDepth 100000 in
theorem fuse_Chain.fold (k : Nat) (xs : Int) (A1 : Option Addr) (c1 : Nat) (l1 : List (List S25)) (r1 : Int) (r2 : Int) (w : World)
    (hr1 : Kd.C (Kd.slice 25 k25) w A1 l1.length l1) (hs : l1.length < 1000000000) (hT : Tabs w) (h : fuse_Chain.l k xs l1 = some (r1, r2)) :
    Calls Tryd.prog 93 #[.int .i64 xs, .slice A1 l1.length c1, .func (Fn.func 94) #[] #[]] w fun e w' => e = .returned (.tuple #[.int .i64 r1, .int .i64 r2]) ∧ Below w.heap.size w w' := by
  have HR1 := Aside0.mk hr1; have HT := Aside0.mk hT; have HZ := Aside0.mk hs; have H := Aside0.mk h
  clear hr1 hT hs h
  go_enter Tryd.func93, Tryd.ntmps93
  go_wp2
  go_loopw [0, 9, 10, 11, 12, 15] (fun v0 _ _ _ _ v15 wr => ∃ j : Nat, v15 = .int .i64 j ∧ j ≤ l1.length ∧ ∃ x : Int, v0 = .int .i64 x ∧ Aside0 (fuse_Chain.l k x (l1.drop j) = some (r1, r2)) ∧ Aside0 (Below w.heap.size w wr)) (fun _ _ _ _ _ v15 _ => l1.length - (intOf v15).toNat)
  case atStart => exact ⟨0, rfl, Nat.zero_le _, xs, rfl, H, ⟨Below.refl _ _⟩⟩
  case round =>
    clear H
    obtain ⟨j, rfl, hj, x, rfl, HA, HW⟩ := hrel
    by_cases hlt : j < l1.length
    · have hltb : decide ((j : Int) < (l1.length : Int)) = true := decide_eq_true (by omega)
      have HL := Aside0.mk hlt
      have h := HA.out
      clear HA
      rw [rows_next l1 j hlt, fuse_Chain.l] at h
      obtain ⟨r, hr, h2⟩ := Option.bind_eq_some_iff.mp h
      clear h
      obtain ⟨ad, Ay, cy, rfl, hx0, hcy, hCy⟩ := at_rows (Kd.C_below HR1.out HW.out) j hlt
      have p1 : (0 ≤ (j : Int)) = True := eq_true (by omega)
      have p2 : ((j : Int) < (l1.length : Int)) = True := eq_true (by omega)
      have p3 : (j < l1.length) = True := eq_true hlt
      have ew := fuse_Of.wrap hlt HZ.out
      have HCY := Aside0.mk hCy; have HCYY := Aside0.mk hcy; have HRR := Aside0.mk hr
      clear hlt hr hCy hcy hj
      generalize rowsAt l1 j = y at *
      by_cases z : r.2 = 0
      · rw [if_pos z] at h2
        have zb : (r.2 != 0) = false := bne_eq_false_iff_eq.mpr z
        have HE := Aside0.mk h2
        clear h2 z
        go_wp2_with (go_at_call 94; (with_reducible refine (fuse_next.calls k x Ay cy y r.1 r.2 _ HCY.out HCYY.out (Tabs.below HT.out HW.out) HRR.out).mono ?_); rintro e w1 ⟨rfl, hb⟩; have HW1 := Aside0.mk (below_then HW.out HW.out.size hb); clear hb)
        go_round
        case measure => exact op_sum.less HL.out ew
        case rel => exact ⟨j + 1, by rw [ew], HL.out, r.1, rfl, HE, HW1⟩
      · rw [if_neg z] at h2
        have zb : (r.2 != 0) = true := bne_iff_ne.mpr z
        simp only [Option.some.injEq, Prod.mk.injEq] at h2
        obtain ⟨rfl, rfl⟩ := h2
        clear z
        go_wp2_with (go_at_call 94; (with_reducible refine (fuse_next.calls k x Ay cy y r.1 r.2 _ HCY.out HCYY.out (Tabs.below HT.out HW.out) HRR.out).mono ?_); rintro e w1 ⟨rfl, hb⟩; have HW1 := Aside0.mk (below_then HW.out HW.out.size hb); clear hb)
        go_ret2
        exact ⟨rfl, HW1.out⟩
    · have hltb : decide ((j : Int) < (l1.length : Int)) = false := decide_eq_false (by omega)
      have h := HA.out
      clear HA
      rw [List.drop_of_length_le (by omega), fuse_Chain.l] at h
      simp only [Option.some.injEq, Prod.mk.injEq] at h
      obtain ⟨rfl, rfl⟩ := h
      go_wp2
      go_ret2
      exact ⟨rfl, HW.out⟩
set_option maxHeartbeats 8000000 in
set_option maxRecDepth 100000 in
theorem fuse_Chain.calls (k : Nat) (a0 : Int) (A1 : Option Addr) (c1 : Nat) (l1 : List (List S25)) (r1 : Int) (r2 : Int) (w : World) (hr1 : Kd.C (Kd.slice 25 k25) w A1 l1.length l1) (hc1 : l1.length ≤ c1) (hT : Tabs w) (h : fuse_Chain.f k a0 l1 = some (r1, r2)) :
    Calls Tryd.prog 83 #[.int .i64 a0, .slice A1 l1.length c1] w fun e w' => e = .returned (.tuple #[.int .i64 r1, .int .i64 r2]) ∧ Below w.heap.size w w' := by
  unfold fuse_Chain.f at h
  by_cases c : l1.length < 1000000000
  · rw [if_pos c] at h
    obtain ⟨t, ht, h⟩ := Option.bind_eq_some_iff.mp h
    have HR1 := Aside0.mk hr1; have HT := Aside0.mk hT; have HZ := Aside0.mk c; have HK := Aside0.mk ht
    clear hr1 hc1 hT c ht
    by_cases z : t.2 = 0
    · rw [if_pos z] at h
      have zb : (t.2 != 0) = false := bne_eq_false_iff_eq.mpr z
      have H := Aside0.mk h
      clear h z
      go_enter Tryd.func83, Tryd.ntmps83
      go_wp2_with (first | (go_at_call 42; (with_reducible refine (op_Keep.calls k a0 t.1 t.2 _ HK.out).mono ?_); rintro e w1 ⟨v1, rfl, ho, hb⟩; have HB1 := Aside0.mk hb; clear ho hb) | (go_at_call 93; (with_reducible refine (fuse_Chain.fold k a0 A1 c1 l1 r1 r2 w1 (Kd.C_below HR1.out HB1.out) HZ.out (Tabs.below HT.out HB1.out) H.out).mono ?_); rintro e w2 ⟨rfl, hb⟩; have HB2 := Aside0.mk (below_then HB1.out HB1.out.size hb); clear hb))
      go_ret2
      exact ⟨rfl, HB2.out⟩
    · rw [if_neg z] at h
      have zb : (t.2 != 0) = true := bne_iff_ne.mpr z
      simp only [Option.some.injEq, Prod.mk.injEq] at h
      obtain ⟨rfl, rfl⟩ := h
      clear z
      go_enter Tryd.func83, Tryd.ntmps83
      go_wp2_with (go_at_call 42; (with_reducible refine (op_Keep.calls k a0 t.1 t.2 _ HK.out).mono ?_); rintro e w1 ⟨v1, rfl, ho, hb⟩; have HB1 := Aside0.mk hb; clear ho hb)
      go_ret2
      exact ⟨rfl, HB1.out⟩
  · rw [if_neg c] at h; cases h

end Go.Proofs.YtegjegihcebimaaDoor.P
