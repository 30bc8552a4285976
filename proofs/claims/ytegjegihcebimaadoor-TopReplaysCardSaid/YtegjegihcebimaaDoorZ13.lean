/- Part 13 of the proof of topReplays_holds: out of the texts that this session's programs wrote, what the theorem reaches. -/
import Derived.BigQuiet
import Derived.BigRegion
import Derived.Deep.QuietTactic
import Derived.Deep.RegionHeld3
import Derived.Deep.RegionLaw
import Derived.Defers
import Derived.Laws.CopyOwn
import Derived.Laws.Cover4
import Derived.Lib.OthersKept
import Derived.Lib.Walk
import Derived.Outline
import Derived.ScopeJumps
import Derived.Shelf.Abstract
import Derived.StillTailTactics
import Derived.Test.YtegjegihcebimaaDoorZ10
import Derived.Test.YtegjegihcebimaaDoorZ2
import Derived.Test.YtegjegihcebimaaDoorZ6
import Derived.Test.YtegjegihcebimaaDoorZ7
import Derived.Test.YtegjegihcebimaaDoorZ8
import Derived.Test.YtegjegihcebimaaDoorZ9
import Derived.WalkMore
section
namespace Go.Proofs.YtegjegihcebimaaDoor.P
open Go.RowKit Go.Proofs.YtegjegihcebimaaDoorW.PrintWords Go.Proofs.YtegjegihcebimaaDoorW.PrintLast Go.Proofs.YtegjegihcebimaaDoorW.PrintMore
attribute [local go_sem] max2_int min2_int max_two min_two max_three min_three max_four min_four
set_option linter.unusedVariables false
set_option linter.unusedSimpArgs false
def fuse_Chain.l (k : Nat) : Int → List (List S25) → Option (Int × Int)
 | x, [] => some (x, 0)
 | x, y :: l => (fuse_next.f k x y).bind fun r => if r.2 = 0 then fuse_Chain.l k r.1 l else some (0, r.2)
def fuse_Chain.f (k : Nat) (a0 : Int) (l1 : List (List S25)) : Option (Int × Int) := if l1.length < 1000000000 then (op_Keep.f k a0).bind fun t => (if t.2 = 0 then fuse_Chain.l k a0 l1 else some (0, t.2)) else none
set_option maxHeartbeats 8000000 in
set_option maxRecDepth 100000 in
theorem fuse_Chain.fold (k : Nat) (xs : Int) (A1 : Option Addr) (c1 : Nat) (l1 : List (List S25)) (r1 : Int) (r2 : Int) (w : World)
  (hr1 : Kd.C (Kd.slice 25 k25) w A1 l1.length l1) (hs : l1.length < 1000000000) (hT : Tabs w) (h : fuse_Chain.l k xs l1 = some (r1, r2)) :
  Calls Tryd.prog 93 #[.int .i64 xs, .slice A1 l1.length c1, .func (Fn.func 94) #[] #[]] w fun e w' => e = .returned (.tuple #[.int .i64 r1, .int .i64 r2]) ∧ Below w.heap.size w w' := by
 have HR1 := am hr1; have HT := am hT; have HZ := am hs; have H := am h
 clear hr1 hT hs h
 go_enter Tryd.func93, Tryd.ntmps93
 go_wp2
 go_loopw [0, 9, 10, 11, 12, 15] (fun v0 _ _ _ _ v15 wr => ∃ j : Nat, v15 = .int .i64 j ∧ j ≤ l1.length ∧ ∃ x : Int, v0 = .int .i64 x ∧ Aside0 (fuse_Chain.l k x (l1.drop j) = some (r1, r2)) ∧ Aside0 (Below w.heap.size w wr)) (fun _ _ _ _ _ v15 _ => l1.length - (intOf v15).toNat)
 case atStart => exact ⟨0, rfl, Nat.zero_le _, xs, rfl, H, ⟨Below.refl _ _⟩⟩
 case round =>
  clear H
  obtain ⟨j, rfl, hj, x, rfl, HA, HW⟩ := hrel
  by_cases hlt : j < l1.length
  ·have hltb : decide ((j : Int) < (l1.length : Int)) = true := decide_eq_true (by omega)
   have HL := am hlt
   have h := HA.out
   clear HA
   rw [rows_next l1 j hlt, fuse_Chain.l] at h
   obtain ⟨r, hr, h2⟩ := Option.bind_eq_some_iff.mp h
   clear h
   obtain ⟨ad, Ay, cy, rfl, hx0, hcy, hCy⟩ := at_rows (Kd.C_below HR1.out HW.out) j hlt
   have p1 : (0 ≤ (j : Int)) = True := eq_true (by omega)
   have p2 : ((j : Int) < (l1.length : Int)) = True := eq_true (by omega)
   have p3 : (j < l1.length) = True := eq_true hlt
   have ew := fuse_Of.wrap hlt HZ.out
   have HCY := am hCy; have HCYY := am hcy; have HRR := am hr
   clear hlt hr hCy hcy hj
   generalize rowsAt l1 j = y at *
   by_cases z : r.2 = 0
   ·rw [if_pos z] at h2
    have zb : (r.2 != 0) = false := bne_eq_false_iff_eq.mpr z
    have HE := am h2
    clear h2 z
    go_wp2_with (go_at_call 94; (with_reducible refine (fuse_next.calls k x Ay cy y r.1 r.2 _ HCY.out HCYY.out (Tabs.below HT.out HW.out) HRR.out).mono ?_); rintro e w1 ⟨rfl, hb⟩; have HW1 := am (below_then HW.out HW.out.size hb); clear hb)
    go_round
    case measure => exact op_sum.less HL.out ew
    case rel => exact ⟨j + 1, by rw [ew], HL.out, r.1, rfl, HE, HW1⟩
   ·rw [if_neg z] at h2
    have zb : (r.2 != 0) = true := bne_iff_ne.mpr z
    simp only [Option.some.injEq, Prod.mk.injEq] at h2
    obtain ⟨rfl, rfl⟩ := h2
    clear z
    go_wp2_with (go_at_call 94; (with_reducible refine (fuse_next.calls k x Ay cy y r.1 r.2 _ HCY.out HCYY.out (Tabs.below HT.out HW.out) HRR.out).mono ?_); rintro e w1 ⟨rfl, hb⟩; have HW1 := am (below_then HW.out HW.out.size hb); clear hb)
    go_ret2
    exact ⟨rfl, HW1.out⟩
  ·have hltb : decide ((j : Int) < (l1.length : Int)) = false := decide_eq_false (by omega)
   have h := HA.out
   clear HA
   rw [List.drop_of_length_le (by omega), fuse_Chain.l] at h
   simp only [Option.some.injEq, Prod.mk.injEq] at h
   obtain ⟨rfl, rfl⟩ := h
   go_wp2
   go_ret2
   exact ⟨rfl, HW.out⟩
set_option maxHeartbeats 8000000 in
set_option maxRecDepth 100000 in
theorem fuse_Chain.calls (k : Nat) (a0 : Int) (A1 : Option Addr) (c1 : Nat) (l1 : List (List S25)) (r1 : Int) (r2 : Int) (w : World) (hr1 : Kd.C (Kd.slice 25 k25) w A1 l1.length l1) (hc1 : l1.length ≤ c1) (hT : Tabs w) (h : fuse_Chain.f k a0 l1 = some (r1, r2)) :
  Calls Tryd.prog 83 #[.int .i64 a0, .slice A1 l1.length c1] w fun e w' => e = .returned (.tuple #[.int .i64 r1, .int .i64 r2]) ∧ Below w.heap.size w w' := by
 unfold fuse_Chain.f at h
 by_cases c : l1.length < 1000000000
 ·rw [if_pos c] at h
  obtain ⟨t, ht, h⟩ := Option.bind_eq_some_iff.mp h
  have HR1 := am hr1; have HT := am hT; have HZ := am c; have HK := am ht
  clear hr1 hc1 hT c ht
  by_cases z : t.2 = 0
  ·rw [if_pos z] at h
   have zb : (t.2 != 0) = false := bne_eq_false_iff_eq.mpr z
   have H := am h
   clear h z
   go_enter Tryd.func83, Tryd.ntmps83
   go_wp2_with (first | (go_at_call 42; (with_reducible refine (op_Keep.calls k a0 t.1 t.2 _ HK.out).mono ?_); rintro e w1 ⟨v1, rfl, ho, hb⟩; have HB1 := am hb; clear ho hb) | (go_at_call 93; (with_reducible refine (fuse_Chain.fold k a0 A1 c1 l1 r1 r2 w1 (Kd.C_below HR1.out HB1.out) HZ.out (Tabs.below HT.out HB1.out) H.out).mono ?_); rintro e w2 ⟨rfl, hb⟩; have HB2 := am (below_then HB1.out HB1.out.size hb); clear hb))
   go_ret2
   exact ⟨rfl, HB2.out⟩
  ·rw [if_neg z] at h
   have zb : (t.2 != 0) = true := bne_iff_ne.mpr z
   simp only [Option.some.injEq, Prod.mk.injEq] at h
   obtain ⟨rfl, rfl⟩ := h
   clear z
   go_enter Tryd.func83, Tryd.ntmps83
   go_wp2_with (go_at_call 42; (with_reducible refine (op_Keep.calls k a0 t.1 t.2 _ HK.out).mono ?_); rintro e w1 ⟨v1, rfl, ho, hb⟩; have HB1 := am hb; clear ho hb)
   go_ret2
   exact ⟨rfl, HB1.out⟩
 ·rw [if_neg c] at h; cases h
def through_may.f (k : Nat) (l0 : List (S25)) (l1 : List (List (S25))) : Option (Int) := (op_May.f k l0).bind fun t191 => (if t191 = 0 then ((op_In.f l0).bind fun t192 => ((fuse_Chain.f k t192 l1).bind fun bt193 => (some bt193.2))) else (some t191))
set_option maxHeartbeats 8000000 in
set_option maxRecDepth 100000 in
theorem through_may.calls (k : Nat) (A0 : Option Addr) (c0 : Nat) (l0 : List (S25)) (A1 : Option Addr) (c1 : Nat) (l1 : List (List (S25))) (r : Int) (w : World) (hr0 : Kd.C k25 w A0 l0.length l0) (hc0 : l0.length ≤ c0) (hr1 : Kd.C (Kd.slice 25 k25) w A1 l1.length l1) (hc1 : l1.length ≤ c1) (hT : Tabs w) (h : through_may.f k l0 l1 = some r) :
  Calls Tryd.prog 45 #[.slice A0 l0.length c0, .slice A1 l1.length c1] w fun e w' => e = .returned (.int .i64 r) ∧ Below w.heap.size w w' := by
 have HT := am hT
 clear hT
 have HR0 := am hr0
 have HC0 := am hc0
 clear hr0 hc0
 have HR1 := am hr1
 have HC1 := am hc1
 clear hr1 hc1
 have HB := am (Below.refl w.heap.size w)
 have H : ((op_May.f k l0).bind fun t191 => (if t191 = 0 then ((op_In.f l0).bind fun t192 => ((fuse_Chain.f k t192 l1).bind fun bt193 => (some bt193.2))) else (some t191))) = some r := h
 clear h
 replace H := Option.bind_eq_some_iff.mp H
 obtain ⟨t191, A30, H⟩ := H
 replace H : (if t191 = 0 then ((op_In.f l0).bind fun t192 => ((fuse_Chain.f k t192 l1).bind fun bt193 => (some bt193.2))) else (some t191)) = some r := H
 have A3 := am A30
 clear A30
 by_cases c4 : t191 = 0
 ·rw [if_pos c4] at H
  have c4b0 : (t191 == 0) = true := beq_iff_eq.mpr c4
  have c4b1 : (t191 != 0) = false := bne_eq_false_iff_eq.mpr c4
  clear c4
  replace H := Option.bind_eq_some_iff.mp H
  obtain ⟨t192, A50, H⟩ := H
  replace H : ((fuse_Chain.f k t192 l1).bind fun bt193 => (some bt193.2)) = some r := H
  have A5 := am A50
  clear A50
  replace H := Option.bind_eq_some_iff.mp H
  obtain ⟨⟨t193, t194⟩, A60, H⟩ := H
  replace H : (some t194) = some r := H
  have A6 := am A60
  clear A60
  obtain rfl := Option.some.inj H
  simp only [Option.some.injEq, Prod.mk.injEq] at H
  obtain ⟨rfl⟩ := H
  go_enter Tryd.func45, Tryd.ntmps45
  go_wp2_with (first | ((with_reducible refine gate_callee (f := 46) rfl ?_); refine goesL_ (some 9) rfl rfl Tryd.func46 (by kernel_rfl) rfl #[.slice A0 l0.length c0] rfl ar ?_; (with_reducible refine (op_May.calls k _ _ l0 t191 _ ?side1 ?side2 ?side3 A3.out).mono ?_); (case side1 => repeat (first | exact HR0.out | (with_reducible refine Kd.C_alloc ?_ _) | (with_reducible refine Kd.C_drewN ?_ _) | (with_reducible refine Kd.C_drew ?_))); (case side2 => exact HC0.out); (case side3 => exact Tabs.below HT.out bl); rintro e w7 ⟨rfl, hb⟩; refine ⟨_, rfl, ?_⟩; have n0_ := am (below_step bl hb); clear HB; have HB := n0_; clear n0_; (try clear hb); (try clear hb2); (try clear hk); (try clear hi)) | ((with_reducible refine gate_callee (f := 20) rfl ?_); refine goesL_ (some 15) rfl rfl Tryd.func20 (by kernel_rfl) rfl #[.slice A0 l0.length c0] rfl ar ?_; (with_reducible refine (op_In.calls _ _ l0 t192 _ ?side1 ?side2 ?side3 A5.out).mono ?_); (case side1 => repeat (first | exact (Kd.C_below HR0.out HB.out) | (with_reducible refine Kd.C_alloc ?_ _) | (with_reducible refine Kd.C_drewN ?_ _) | (with_reducible refine Kd.C_drew ?_))); (case side2 => exact HC0.out); (case side3 => exact Tabs.below HT.out bl); rintro e w8 ⟨rfl, hb⟩; refine ⟨_, rfl, ?_⟩; have n0_ := am (below_step bl hb); clear HB; have HB := n0_; clear n0_; (try clear hb); (try clear hb2); (try clear hk); (try clear hi)) | ((with_reducible refine gate_callee (f := 83) rfl ?_); refine goesL_ (some 17) rfl rfl Tryd.func83 (by kernel_rfl) rfl #[.int .i64 t192, .slice A1 l1.length c1] rfl ar ?_; (with_reducible refine (fuse_Chain.calls k t192 _ _ l1 t193 t194 _ ?side1 ?side2 ?side3 A6.out).mono ?_); (case side1 => repeat (first | exact (Kd.C_below HR1.out HB.out) | (with_reducible refine Kd.C_alloc ?_ _) | (with_reducible refine Kd.C_drewN ?_ _) | (with_reducible refine Kd.C_drew ?_))); (case side2 => exact HC1.out); (case side3 => exact Tabs.below HT.out bl); rintro e w9 ⟨rfl, hb⟩; refine ⟨_, rfl, ?_⟩; have n0_ := am (below_step bl hb); clear HB; have HB := n0_; clear n0_; (try clear hb); (try clear hb2); (try clear hk); (try clear hi)))
  go_ret
  exact ⟨by first | rfl | (simp [errW_none, errW_some] <;> rfl) | (simp [*, errW_none, errW_some] <;> rfl), bl⟩
 ·rw [if_neg c4] at H
  have c4b0 : (t191 == 0) = false := beq_eq_false_iff_ne.mpr c4
  have c4b1 : (t191 != 0) = true := bne_iff_ne.mpr c4
  obtain rfl := Option.some.inj H
  simp only [Option.some.injEq, Prod.mk.injEq] at H
  obtain ⟨rfl⟩ := H
  go_enter Tryd.func45, Tryd.ntmps45
  go_wp2_with (first | ((with_reducible refine gate_callee (f := 46) rfl ?_); refine goesL_ (some 9) rfl rfl Tryd.func46 (by kernel_rfl) rfl #[.slice A0 l0.length c0] rfl ar ?_; (with_reducible refine (op_May.calls k _ _ l0 t191 _ ?side1 ?side2 ?side3 A3.out).mono ?_); (case side1 => repeat (first | exact HR0.out | (with_reducible refine Kd.C_alloc ?_ _) | (with_reducible refine Kd.C_drewN ?_ _) | (with_reducible refine Kd.C_drew ?_))); (case side2 => exact HC0.out); (case side3 => exact Tabs.below HT.out bl); rintro e w10 ⟨rfl, hb⟩; refine ⟨_, rfl, ?_⟩; have n0_ := am (below_step bl hb); clear HB; have HB := n0_; clear n0_; (try clear hb); (try clear hb2); (try clear hk); (try clear hi)))
  go_ret
  exact ⟨by first | rfl | (simp [errW_none, errW_some] <;> rfl) | (simp [*, errW_none, errW_some] <;> rfl), bl⟩
def through_Of.l (k : Nat) : List S25 → List (List S25) → Option (List S25)
 | s, [] => some s
 | s, x :: l => (over_Of.f k s x).bind fun r => through_Of.l k r.1 l
def through_Of.f (k : Nat) (l0 : List S25) (l1 : List (List S25)) : Option (List S25 × Int) :=
 if l1.length < 1000000000 then (through_may.f k l0 l1).bind fun e => (if e = 0 then (normal_Of.f l0).bind fun s => (through_Of.l k s l1).bind fun r => some (r, 0) else some ([], e)) else none
theorem through_Of.cut (ad : Addr) (n c j : Nat) (hj : j < n) (hc : n ≤ c) (W : World) : (Instr.slice 28 (.slice (some ad) n c) (some (.int .i64 (j : Int))) (some (.int .i64 ((j : Int) + 1))) (some (.int .i64 ((j : Int) + 1)))).run Tryd.prog W = .ok (.slice (some (ad.add j)) 1 1) W := by
 obtain ⟨i0, hi0, _, hsz, _⟩ := info_parts info27
 have hel : Tryd.prog.elem 28 = 27 := by simp [Program.elem, Tryd.underlying28]
 have hu : Tryd.prog.underlying 28 = some (.slice (Tryd.prog.elem 28)) := by rw [hel]; exact Tryd.underlying28
 rw [run_slice_lhm W 28 (some ad) n c hu .i64 .i64 .i64 (j : Int) ((j : Int) + 1) ((j : Int) + 1) (by omega) (by omega) (by omega) (by omega), hel]
 have e1 : ((j : Int) + 1).toNat = j + 1 := by omega
 have e2 : ((j : Int)).toNat = j := by omega
 simp [sizeOf, typeInfo, hi0, hsz, sliced, Result.andThen, e1, e2]
set_option maxHeartbeats 8000000 in
set_option maxRecDepth 100000 in
theorem through_Of.calls (k : Nat) (A0 : Option Addr) (c0 : Nat) (l0 : List S25) (A1 : Option Addr) (c1 : Nat) (l1 : List (List S25)) (r1 : List S25) (r2 : Int) (w : World) (hr0 : Kd.C k25 w A0 l0.length l0) (hc0 : l0.length ≤ c0) (hr1 : Kd.C (Kd.slice 25 k25) w A1 l1.length l1) (hc1 : l1.length ≤ c1) (hT : Tabs w) (h : through_Of.f k l0 l1 = some (r1, r2)) :
  Calls Tryd.prog 12 #[.slice A0 l0.length c0, .slice A1 l1.length c1] w fun e w' => ∃ v0_ : Value, e = .returned (.tuple #[v0_, .int .i64 r2]) ∧ Kd.R k25 25 w' w.heap.size (fun _ => True) v0_ r1 ∧ Below w.heap.size w w' := by
 unfold through_Of.f at h
 by_cases c : l1.length < 1000000000
 ·rw [if_pos c] at h
  obtain ⟨e0, he0, h⟩ := Option.bind_eq_some_iff.mp h
  have HR0 := am hr0; have HC0 := am hc0; have HR1 := am hr1; have HC1 := am hc1; have HT := am hT; have HE0 := am he0; have HZ := am c
  by_cases z0 : e0 = 0
  ·subst z0
   rw [if_pos rfl] at h
   obtain ⟨s0, hs0, h⟩ := Option.bind_eq_some_iff.mp h
   obtain ⟨r, hr, h⟩ := Option.bind_eq_some_iff.mp h
   simp only [Option.some.injEq, Prod.mk.injEq] at h
   obtain ⟨rfl, rfl⟩ := h
   have HS0 := am hs0; have HRR := am hr
   clear hr0 hc0 hr1 hc1 hT he0 hs0 hr c
   go_enter Tryd.func12, Tryd.ntmps12
   go_wp2_with (first | (go_at_call 45; (with_reducible refine (through_may.calls k A0 c0 l0 A1 c1 l1 0 _ HR0.out HC0.out HR1.out HC1.out HT.out HE0.out).mono ?_); rintro e w1 ⟨rfl, hb⟩; have HB1 := am hb; clear hb) | (go_at_call 33; (with_reducible refine (normal_Of.calls A0 c0 l0 s0 _ (Kd.C_below HR0.out HB1.out) HC0.out HS0.out).mono ?_); rintro e w2 ⟨v2, rfl, ho, hb⟩; have HO2 := am (Kd.R_lower ho HB1.out.size); have HB2 := am (below_then HB1.out HB1.out.size hb); clear ho hb))
   go_loopw [7, 8, 10, 21] (fun v7 _ _ v21 wr => ∃ j : Nat, v21 = .int .i64 j ∧ j ≤ l1.length ∧ ∃ s : List S25, Aside0 (through_Of.l k s (l1.drop j) = some r) ∧ Aside0 (Kd.R k25 25 wr w.heap.size (fun _ => True) v7 s) ∧ Aside0 (Below w.heap.size w wr)) (fun _ _ _ v21 _ => l1.length - (intOf v21).toNat)
   case atStart => exact ⟨0, rfl, Nat.zero_le _, s0, HRR, HO2, HB2⟩
   case round =>
    clear HRR HO2 HB2
    obtain ⟨j, rfl, hj, s, HA, HO, HW⟩ := hrel
    by_cases hlt : j < l1.length
    ·have hltb : decide ((j : Int) < (l1.length : Int)) = true := decide_eq_true (by omega)
     have HL := am hlt
     obtain ⟨ad, Ay, cy, rfl, hx0, hcy, hCy⟩ := at_rows HR1.out j hlt
     have hcut := through_Of.cut ad l1.length c1 j hlt HC1.out
     have ew := fuse_Of.wrap hlt HZ.out
     have p3 : (j < l1.length) = True := eq_true hlt
     have HX0 := am hx0; have HCY := am hCy; have HCYY := am hcy
     have HRN := am (rows_next l1 j hlt)
     clear hlt hCy hcy hj hx0
     generalize rowsAt l1 j = y at *
     have HA' := am (HRN.out ▸ HA.out)
     clear HA HRN
     go_wp2
     have EW := am ew
     clear ew
     go_loopw [7, 10, 32] (fun v7 _ v32 wi => ∃ i : Nat, v32 = .int .i64 i ∧ i ≤ 1 ∧ ∃ s' : List S25, Aside0 (through_Of.l k s' (if i = 0 then y :: l1.drop (j + 1) else l1.drop (j + 1)) = some r) ∧ Aside0 (Kd.R k25 25 wi w.heap.size (fun _ => True) v7 s') ∧ Aside0 (Below w.heap.size w wi)) (fun _ _ v32 _ => 1 - (intOf v32).toNat)
     case atStart => exact ⟨0, rfl, by omega, s, HA', HO, HW⟩
     case round =>
      clear HA' HO HW
      obtain ⟨i, rfl, hi, s', HA, HO, HW⟩ := hrel
      obtain ⟨As, cs, rfl, hcs, hCs⟩ := Kd.R_reads HO.out
      have HCS := am hcs; have HCC := am hCs
      clear hcs hCs
      rcases (by omega : i = 0 ∨ i = 1) with rfl | rfl
      ·have hx := cell_past HW.out HX0.out
       have h := HA.out
       clear HA
       rw [if_pos rfl, through_Of.l] at h
       obtain ⟨q, hq, h⟩ := Option.bind_eq_some_iff.mp h
       have HQ := am hq; have HE := am h
       clear hq h
       go_wp2_with (go_at_call 13; (with_reducible refine (over_Of.calls k As cs s' Ay cy y q.1 q.2 _ HCC.out HCS.out (Kd.C_below HCY.out HW.out) HCYY.out (Tabs.below HT.out HW.out) HQ.out).mono ?_); rintro e w3 ⟨v3, rfl, ho, hb⟩; have HO3 := am (Kd.R_lower ho HW.out.size); have HW3 := am (below_then HW.out HW.out.size hb); clear ho hb)
       go_round
       case measure => exact Nat.zero_lt_one
       case rel => exact ⟨1, rfl, by omega, q.1, HE, HO3, HW3⟩
      ·have h := HA.out
       clear HA
       rw [if_neg (by omega)] at h
       have HE := am h
       clear h
       go_wp2
       go_round
       case measure => exact op_sum.less HL.out EW.out
       case rel => exact ⟨j + 1, by rw [EW.out], HL.out, s', HE, HO, HW⟩
    ·have hltb : decide ((j : Int) < (l1.length : Int)) = false := decide_eq_false (by omega)
     have p3 : (j < l1.length) = False := eq_false hlt
     have h := HA.out
     clear HA
     rw [List.drop_of_length_le (by omega), through_Of.l] at h
     obtain rfl := Option.some.inj h
     go_wp2
     go_ret2
     exact ⟨_, rfl, HO.out, HW.out⟩
  ·rw [if_neg z0] at h
   have zb : (e0 != 0) = true := bne_iff_ne.mpr z0
   simp only [Option.some.injEq, Prod.mk.injEq] at h
   obtain ⟨rfl, rfl⟩ := h
   clear hr0 hc0 hr1 hc1 hT he0 z0
   go_enter Tryd.func12, Tryd.ntmps12
   go_wp2_with (go_at_call 45; (with_reducible refine (through_may.calls k A0 c0 l0 A1 c1 l1 e0 _ HR0.out HC0.out HR1.out HC1.out HT.out HE0.out).mono ?_); rintro e w1 ⟨rfl, hb⟩; have HB1 := am hb; clear hb)
   go_ret2
   exact ⟨_, rfl, Kd.R_nil _ _ _ _ _, HB1.out⟩
 ·rw [if_neg c] at h; cases h
def HI (w : World) (B g : Nat) (s : ByteArray) (l : List (List S25)) (z : List Int) : Prop :=
 ∃ vl vz : Value, w.heap[g]? = some (.cells #[vl, vz, .string s] 114 (0, 0)) ∧ Kd.S (Kd.slice 25 k25) 27 w B (fun k => k ≠ g ∧ some k ≠ vz.ownBlock) vl l ∧ Kd.R (Kd.int .i64) 3 w B (fun k => k ≠ g) vz z ∧ B ≤ g
theorem HI.below {w w1 : World} {B g : Nat} {s : ByteArray} {l : List (List S25)} {z : List Int} (h : HI w B g s l z) (hb : Below w.heap.size w w1) : HI w1 B g s l z := by
 obtain ⟨vl, vz, h1, h2, h3, h4⟩ := h
 exact ⟨vl, vz, blk_below h1 hb, Kd.S_below h2 hb, Kd.R_below h3 hb, h4⟩
theorem HI.reads {w : World} {B g : Nat} {s : ByteArray} {l : List (List S25)} {z : List Int} (h : HI w B g s l z) :
  ∃ Al cl Az cz, w.cell? ⟨g, 0, none⟩ = some (.slice Al l.length cl) ∧ w.cell? ⟨g, 1, none⟩ = some (.slice Az z.length cz) ∧ w.cell? ⟨g, 2, none⟩ = some (.string s) ∧ l.length ≤ cl ∧ z.length ≤ cz ∧ Kd.C (Kd.slice 25 k25) w Al l.length l ∧ Kd.C (Kd.int .i64) w Az z.length z := by
 obtain ⟨vl, vz, h1, h2, h3, h4⟩ := h
 obtain ⟨Al, cl, rfl⟩ := Kd.S_slice h2
 obtain ⟨Az, cz, rfl⟩ := Kd.R_slice h3
 have r2 := Kd.S_reads' h2
 have r3 := Kd.R_reads' h3
 exact ⟨Al, cl, Az, cz, (blk_cell h1 0).trans rfl, (blk_cell h1 1).trans rfl, (blk_cell h1 2).trans rfl, r2.2.1, r3.2.1, r2.2.2, r3.2.2⟩
theorem R_one {w : World} {b B : Nat} {n : Int} {ok : Nat → Prop} (h : w.heap[b]? = some (.cells #[.int .i64 n] 3 (0, 0))) (hB : B ≤ b) (hok : ok b) : Kd.R (Kd.int .i64) 3 w B ok (.slice (some ⟨b, 0, none⟩) 1 1) [n] := by
  refine ⟨fun k hk => ?_, [.int .i64 n], ⟨rfl, .inr ⟨b, 1, #[.int .i64 n], rfl, hB, h, Nat.le_refl _, by decide, rfl, rfl⟩⟩, rfl, fun j p hj => ?_⟩
  · have : b = k := by simpa [Value.ownBlock] using hk
    subst this; exact hok
  · cases j with
    | zero => have : n = p := by simpa using hj
              subst this; rfl
    | succ j => simp at hj
set_option maxHeartbeats 8000000 in
set_option maxRecDepth 100000 in
theorem history_New.calls (s : ByteArray) (n : Int) (w : World) (hT : Tabs w) (h : points_Count.f s = some n) (h0 : 0 ≤ n) (h1 : n ≤ 1048576) :
  Calls Tryd.prog 23 #[.string s] w fun e w' => ∃ g, e = .returned (.tuple #[.pointer (some ⟨g, 0, none⟩), .int .i64 0]) ∧ HI w' w.heap.size g s [] [n] ∧ Below w.heap.size w w' := by
 have H := Aside0.mk h
 have HT := Aside0.mk hT
 have d0 : decide (n < 0) = false := decide_eq_false (by omega)
 have d1 : decide (1048576 < n) = false := decide_eq_false (by omega)
 clear h hT
 go_enter Tryd.func23, Tryd.ntmps23
 go_wp2_with (go_at_call 10; (with_reducible refine (points_Count.calls s n _ HT.out H.out).mono ?_); rintro e w1 ⟨rfl, hb⟩; have HB1 := Aside0.mk hb; clear hb)
 go_ret2
 have b1 : ((w1.alloc (.cells #[.int .i64 n] 3)).alloc (.cells #[.slice none 0 0, .slice (some ⟨w1.heap.size, 0, none⟩) 1 1, .string s] 114)).heap[w1.heap.size]? = some (.cells #[.int .i64 n] 3 (0, 0)) := blk_alloc (heap_alloc_new w1 _) _
 have b2 := heap_alloc_new (w1.alloc (.cells #[.int .i64 n] 3)) (.cells #[.slice none 0 0, .slice (some ⟨w1.heap.size, 0, none⟩) 1 1, .string s] 114)
 rw [show (w1.alloc (.cells #[.int .i64 n] 3)).heap.size = w1.heap.size + 1 by simp] at b2
 have hs := HB1.out.size
 exact ⟨w1.heap.size + 1, rfl, ⟨.slice none 0 0, .slice (some ⟨w1.heap.size, 0, none⟩) 1 1, b2, Kd.S_nil _ _ _ _ _, R_one b1 hs (show w1.heap.size ≠ w1.heap.size + 1 by omega), by omega⟩, (below_alloc HB1.out _).alloc (by simp; omega) _⟩
set_option maxHeartbeats 8000000 in
set_option maxRecDepth 100000 in
theorem history_Len.calls (w : World) (B g : Nat) (s : ByteArray) (l : List (List S25)) (z : List Int) (h : HI w B g s l z) :
  Calls Tryd.prog 63 #[.pointer (some ⟨g, 0, none⟩)] w fun e w' => e = .returned (.int .i64 (l.length : Int)) ∧ Below w.heap.size w w' := by
 obtain ⟨Al, cl, Az, cz, c0, c1, c2, l0, l1, r0, r1⟩ := h.reads
 clear h l0 l1 r0 r1 c1 c2
 have HB := Aside0.mk (Below.refl w.heap.size w)
 go_enter Tryd.func63, Tryd.ntmps63
 go_wp2
 go_ret
 exact ⟨rfl, HB.out⟩
set_option maxHeartbeats 8000000 in
set_option maxRecDepth 100000 in
theorem history_is.calls (w : World) (B g : Nat) (s : ByteArray) (l : List (List S25)) (z : List Int) (r : Nat) (h : HI w B g s l z) (hr : r ≤ l.length) :
  Calls Tryd.prog 65 #[.pointer (some ⟨g, 0, none⟩), .int .i64 (r : Int)] w fun e w' => e = .returned (.bool true) ∧ Below w.heap.size w w' := by
 have d0 : decide ((0 : Int) ≤ (r : Int)) = true := decide_eq_true (by omega)
 have d1 : decide ((r : Int) ≤ (l.length : Int)) = true := decide_eq_true (by omega)
 have d2 : decide (r ≤ l.length) = true := decide_eq_true hr
 have H := Aside0.mk h
 clear h hr
 go_enter Tryd.func65, Tryd.ntmps65
 go_wp2_with (go_at_call 63; (with_reducible refine (history_Len.calls _ B g s l z H.out).mono ?_); rintro e w1 ⟨rfl, hb⟩; have HB1 := Aside0.mk hb; clear hb)
 go_ret
 exact ⟨by first | rfl | simp, HB1.out⟩
set_option maxHeartbeats 8000000 in
set_option maxRecDepth 100000 in
theorem history_At.calls (k : Nat) (w : World) (B g : Nat) (s : ByteArray) (l : List (List S25)) (z : List Int) (r : Nat) (t : ByteArray) (hT : Tabs w) (h : HI w B g s l z) (hr : r ≤ l.length) (hl : l.length < 1000000000) (ha : apply_All.f k s (l.take r) = some (t, 0)) :
  Calls Tryd.prog 26 #[.pointer (some ⟨g, 0, none⟩), .int .i64 (r : Int)] w fun e w' => e = .returned (.tuple #[.string t, .int .i64 0]) ∧ Below w.heap.size w w' := by
 obtain ⟨Al, cl, Az, cz, c0, c1, c2, l0, l1, r0, r1⟩ := h.reads
 have H := Aside0.mk h; have HT := Aside0.mk hT; have HA := Aside0.mk ha; have HL0 := Aside0.mk l0; have HR0 := Aside0.mk r0
 have p1 : (0 : Int) ≤ (r : Int) := by omega
 have p2 : (r : Int) ≤ (cl : Int) := by omega
 have HR := Aside0.mk hr
 have C0 := Aside0.mk c0; have C2 := Aside0.mk c2
 have HC := Aside0.mk (fun (W : World) (hW : Below w.heap.size w W) => by
  have := apply_All.calls k s Al cl (l.take r) t 0 W (Kd.C_take (Kd.C_below r0 hW) hr) (by rw [List.length_take]; omega) (Tabs.below hT hW) ha
  rw [show (l.take r).length = r by rw [List.length_take]; omega] at this
  exact this)
 clear h hT ha r1 r0 c0 c1 c2 l1 hr
 go_enter Tryd.func26, Tryd.ntmps26
 go_wp2_with (go_at_call 65; (with_reducible refine (history_is.calls _ B g s l z r H.out HR.out).mono ?_); rintro e w1 ⟨rfl, hb⟩; have HB1 := Aside0.mk hb; have c0 : w1.cell? ⟨g, 0, none⟩ = some (.slice Al l.length cl) := cell_past hb C0.out; have c2 : w1.cell? ⟨g, 2, none⟩ = some (.string s) := cell_past hb C2.out; clear hb)
 go_region_held3 (fun w' => w'.cell? ⟨g, 0, none⟩ = some (.slice Al l.length cl) ∧ w'.cell? ⟨g, 2, none⟩ = some (.string s)) (first | go_keep | exact ⟨cell_past HB2.out C0.out, cell_past HB2.out C2.out⟩) ((go_at_call 14; (with_reducible refine (HC.out _ (below_drew1 HB1.out)).mono ?_); rintro e w2 ⟨rfl, hb⟩; have HB2 := Aside0.mk (below_step (below_drew1 HB1.out) hb); clear hb))
 go_wp2
 go_ret2
 exact ⟨rfl, HB2.out⟩
theorem history_cut (A : Option Addr) (n c m : Nat) (hm : m ≤ n) (hc : n ≤ c) (W : World) : (Instr.slice 28 (.slice A n c) (some (.int .i64 (m : Int))) none none).run Tryd.prog W = .ok (.slice (if c = m then A else A.map (·.add (m * 1))) (n - m) (c - m)) W := by
 obtain ⟨i0, hi0, _, hsz, _⟩ := info_parts info27
 have h := cut_from (P := Tryd.prog) 28 27 .i64 Tryd.underlying28 hi0 1 hsz A n c (m : Int) (by omega) (by omega) W
 rw [Int.toNat_natCast] at h
 exact h
set_option maxHeartbeats 8000000 in
set_option maxRecDepth 100000 in
theorem history_Over.calls (k : Nat) (w : World) (B g : Nat) (s : ByteArray) (l : List (List S25)) (z : List Int) (r : Nat) (Aa : Option Addr) (ca : Nat) (a q : List S25) (n : Int) (hT : Tabs w) (h : HI w B g s l z) (hr : r ≤ l.length) (hz : z.length = l.length + 1) (hl : l.length < 1000000000)
  (ra : Kd.C k25 w Aa a.length a) (la : a.length ≤ ca) (h1 : op_May.f k a = some 0) (h2 : op_In.f a = some n) (h3 : rd z (r : Int) = n) (h4 : through_Of.f k a (l.drop r) = some (q, 0)) :
  Calls Tryd.prog 29 #[.pointer (some ⟨g, 0, none⟩), .slice Aa a.length ca, .int .i64 (r : Int)] w fun e w' => ∃ v : Value, e = .returned (.tuple #[v, .int .i64 0]) ∧ Kd.R k25 25 w' w.heap.size (fun _ => True) v q ∧ Below w.heap.size w w' := by
 obtain ⟨Al, cl, Az, cz, c0, c1, c2, l0, l1, r0, r1⟩ := h.reads
 have H := Aside0.mk h; have HT := Aside0.mk hT; have HR := Aside0.mk hr
 have p1 : (0 : Int) ≤ (r : Int) := by omega
 have p2 : (r : Int) ≤ (cl : Int) := by omega
 have p3 : (r : Int) ≤ (l.length : Int) := by omega
 have p4 : (r : Int) < (z.length : Int) := by omega
 have C0 := Aside0.mk c0; have C1 := Aside0.mk c1
 have HM := Aside0.mk (fun (W : World) (hW : Below w.heap.size w W) => op_May.calls k Aa ca a 0 W (Kd.C_below ra hW) la (Tabs.below hT hW) h1)
 have HIn := Aside0.mk (fun (W : World) (hW : Below w.heap.size w W) => op_In.calls Aa ca a n W (Kd.C_below ra hW) la (Tabs.below hT hW) h2)
 obtain ⟨AQ, eAQ⟩ : ∃ AQ, AQ = (if cl = r then Al else Al.map (·.add (r * 1))) := ⟨_, rfl⟩
 have HK := Aside0.mk (fun (W : World) => by have := history_cut Al l.length cl r hr l0 W; rw [← eAQ] at this; exact this)
 have HC := Aside0.mk (fun (W : World) (hW : Below w.heap.size w W) => by
  have := through_Of.calls k Aa ca a (if cl = r then Al else Al.map (·.add (r * 1))) (cl - r) (l.drop r) q 0 W (Kd.C_below ra hW) la (Kd.C_drop (Kd.C_below r0 hW) hr l0) (by rw [List.length_drop]; omega) (Tabs.below hT hW) h4
  rw [List.length_drop, ← eAQ] at this
  exact this)
 clear eAQ
 obtain ⟨ad, hAz, hcz⟩ := Kd.at_int r1 (r : Int) p1 p4
 subst hAz
 rw [Int.toNat_natCast, h3] at hcz
 have C3 := Aside0.mk hcz
 clear h hT hr r1 r0 c0 c1 c2 l1 ra la h1 h2 h3 h4 hcz hz hl p3
 go_enter Tryd.func29, Tryd.ntmps29
 go_wp2_with (first | (go_at_call 65; (with_reducible refine (history_is.calls _ B g s l z r H.out HR.out).mono ?_); rintro e w1 ⟨rfl, hb⟩; have HB1 := Aside0.mk hb; clear hb) | (go_at_call 46; (with_reducible refine (HM.out _ HB1.out).mono ?_); rintro e w2 ⟨rfl, hb⟩; have HB2 := Aside0.mk (below_step HB1.out hb); clear hb))
 have c1 : w2.cell? ⟨g, 1, none⟩ = some (.slice (some ad) z.length cz) := cell_past HB2.out C1.out
 have c3 := cell_past HB2.out C3.out
 go_region_held3 (fun w' => w'.cell? ⟨g, 1, none⟩ = some (.slice (some ad) z.length cz) ∧ w'.cell? (ad.add r) = some (.int .i64 n)) (first | go_keep | exact ⟨cell_past HB3.out C1.out, cell_past HB3.out C3.out⟩) ((go_at_call 20; (with_reducible refine (HIn.out _ (below_drew1 HB2.out)).mono ?_); rintro e w3 ⟨rfl, hb⟩; have HB3 := Aside0.mk (below_step (below_drew1 HB2.out) hb); clear hb))
 have c0 : w3.cell? ⟨g, 0, none⟩ = some (.slice Al l.length cl) := cell_past HB3.out C0.out
 have hcut := HK.out
 go_wp2_with (go_at_call 12; (with_reducible refine (HC.out _ HB3.out).mono ?_); rintro e w4 ⟨v, rfl, ho, hb⟩; have HO := Aside0.mk ho; have HB4 := Aside0.mk (below_step HB3.out hb); have HS := Aside0.mk HB3.out.size; clear hb ho)
 go_ret2
 exact ⟨_, rfl, Kd.R_lower HO.out HS.out, HB4.out⟩
end Go.Proofs.YtegjegihcebimaaDoor.P
end
section
namespace Go.Proofs.YtegjegihcebimaaDoorW.PrintWords
open Go.RowKit
namespace Kd
section
variable {P : Program} {ops : Array Oper} {o : Oper} {a : Act} {Q : Exit → Act → World → Prop} {Kc : Act → World → Prop} {α : Type}
theorem one_reads {R : α → List Value → Prop} {W : World} {b : Nat} {cs : List Value} {e n : Nat} {p : α} (hb : W.heap[b]? = some (.cells cs.toArray e (0, 0))) (hc : cs.length = n) (hp : R p cs) : ReadsRow R n W (some ⟨b, 0, none⟩) 1 [p] := by
 refine ⟨rfl, by decide, fun _ => ⟨_, rfl, fun j p' hj => ?_⟩⟩
 cases j with
 | zero =>
  have : p = p' := by simpa using hj
  subst this
  refine ⟨cs, hc, hp, fun i u hu => ?_⟩
  rw [add_at, Nat.zero_mul, Nat.zero_add, Nat.zero_add, blk_cell hb i, List.getElem?_toArray]
  exact hu
 | succ j => simp at hj
theorem S_append_box (d : Kd α) {w0 W : World} (base : Nat) (hw : Region.wanted o (yielded ops a.tmps) = true) (s x : Operand) (t e : TypeId) (z : Value) (bytes : Nat)
  (ho : o.op = .call { callee := .builtin .append, args := #[s, x], argTypes := #[t, t] })
  (ht : P.underlying t = some (.slice e)) (hinfo : (P.info? e).map (fun i => (i.zero, i.size, i.bytes)) = some (some z, d.sz, bytes)) (hz : z.cells.size = d.sz) (hs0 : 0 < d.sz) (hb0 : 0 < bytes)
  (v : Value) (xs : List α) (p : α) (cs : List Value) (b : Nat) (ok okp : Nat → Prop) (hs : a.eval s = v) (hx : a.eval x = .slice (some ⟨b, 0, none⟩) 1 1) (hbx : W.heap[b]? = some (.cells cs.toArray e (0, 0))) (hcs : cs.length = d.sz) (hp : d.M W base okp p cs) (hokp : ∀ k, okp k → ok k ∧ some k ≠ v.ownBlock) (hfresh : ∀ k, W.heap.size ≤ k → ok k)
  (HO : S d e W base (fun k => ok k ∧ ¬ okp k) v xs) (HB : Below base w0 W) (hbase : base ≤ W.heap.size) (hl : (xs.length + 1) * bytes ≤ 140737488355328)
  (h : ∀ v1 w1, S d e w1 base ok v1 (xs ++ [p]) → Below base w0 w1 → W.grownBy w1 v.ownBlock → (v1.ownBlock = v.ownBlock ∨ ∃ b, v1.ownBlock = some b ∧ W.heap.size ≤ b) → Kc (a.put o.dst v1) w1) :
  if Region.wanted o (yielded ops a.tmps) = true then Oper.wp P o a W Kc Q else Kc (a.put o.dst undef) W := by
 obtain ⟨f, hf, hR⟩ := S_tag HO xs.length okp (fun _ hk h2 => h2.2 hk)
 refine R_append_rows_step (tag f d) (Rr := fun x c => x = (p, xs.length) ∧ c = cs) base hw s x t e z bytes ho ht hinfo hz hs0 hb0 v xs.zipIdx [(p, xs.length)] (some ⟨b, 0, none⟩) 1 1 ok okp hs hx (R_mono hR (fun _ hk => hk.1)) (one_reads hbx hcs ⟨rfl, rfl⟩) ?_ hokp hfresh HB hbase (by rw [List.length_zipIdx]; exact hl) ?_
 ·rintro x c ⟨rfl, rfl⟩
  exact d.M_mono (fun k hk => ⟨hk, hf k hk⟩) hp
 ·intro v1 w1 hr
  rw [← zip_snoc] at hr
  exact h v1 w1 ⟨f, hr⟩
end
end Kd
end Go.Proofs.YtegjegihcebimaaDoorW.PrintWords
namespace Go.Proofs.YtegjegihcebimaaDoor.P
open Go.RowKit Go.Proofs.YtegjegihcebimaaDoorW.PrintWords Go.Proofs.YtegjegihcebimaaDoorW.PrintLast Go.Proofs.YtegjegihcebimaaDoorW.PrintMore
set_option linter.unusedVariables false
set_option linter.unusedSimpArgs false
theorem alloc_heap_size (w : World) (o : Obj) : (w.alloc o).heap.size = w.heap.size + 1 := by simp
structure AJ (w W : World) (B g : Nat) (s : ByteArray) (l : List (List S25)) (z : List Int) (y : List S25) (q : Int) (vl vz vy v42 : Value) (bx bz : Nat) (d8 d9 d10 d17 : Bool) : Prop where
 HB : Below B w W
 sz : w.heap.size ≤ W.heap.size
 Bw : B ≤ w.heap.size
 Bg : B ≤ g
 gl : g < w.heap.size
 HG : W.heap[g]? = some (.cells #[vl, vz, .string s] 114 (0, 0))
 HZ : Kd.R (Kd.int .i64) 3 W B (fun k => k ≠ g ∧ k < w.heap.size) vz z
 HL0 : d10 = false → Kd.S (Kd.slice 25 k25) 27 W B (fun k => (k ≠ g ∧ some k ≠ vz.ownBlock) ∧ k < w.heap.size) vl l
 HL1 : d10 = true → Kd.S (Kd.slice 25 k25) 27 W B (fun k => k ≠ g ∧ some k ≠ vz.ownBlock) v42 (l ++ [y])
 HY : d8 = true → d10 = false → Kd.R k25 25 W B (fun k => w.heap.size ≤ k) vy y
 HX : d9 = true → d10 = false → W.heap[bx]? = some (.cells #[vy] 27 (0, 0))
 HQ : d17 = true → W.heap[bz]? = some (.cells #[.int .i64 q] 3 (0, 0)) ∧ w.heap.size ≤ bz
 HF : d10 = false → Below w.heap.size w W
section
variable {w W W1 : World} {B g bx bz : Nat} {s : ByteArray} {l : List (List S25)} {z : List Int} {y : List S25} {q : Int} {vl vz vy v42 : Value} {d8 d9 d10 d17 : Bool}
theorem AJ.start (h : HI w B g s l z) (hB : B ≤ w.heap.size) : ∃ vl vz, AJ w w B g s l z y q vl vz (.int .i64 0) (.int .i64 0) 0 0 false false false false := by
 obtain ⟨vl, vz, h1, h2, h3, h4⟩ := h
 refine ⟨vl, vz, Below.refl _ _, Nat.le_refl _, hB, h4, blk_lt h1, h1, Kd.R_mono (Kd.R_bound h3) (fun k hk => ⟨hk.1, hk.2.2.1⟩), fun _ => Kd.S_mono (Kd.S_bound h2) (fun k hk => ⟨hk.1, hk.2.2.1⟩), fun e => (by cases e), fun e => (by cases e), fun e => (by cases e), fun e => (by cases e), fun _ => Below.refl _ _⟩
theorem AJ.below (J : AJ w W B g s l z y q vl vz vy v42 bx bz d8 d9 d10 d17) (hb : Below W.heap.size W W1) : AJ w W1 B g s l z y q vl vz vy v42 bx bz d8 d9 d10 d17 :=
 ⟨below_then J.HB (Nat.le_trans J.Bw J.sz) hb, Nat.le_trans J.sz hb.size, J.Bw, J.Bg, J.gl, blk_below J.HG hb, Kd.R_below J.HZ hb, fun e => Kd.S_below (J.HL0 e) hb, fun e => Kd.S_below (J.HL1 e) hb, fun e f => Kd.R_below (J.HY e f) hb, fun e f => blk_below (J.HX e f) hb, fun e => ⟨blk_below (J.HQ e).1 hb, (J.HQ e).2⟩, fun e => below_then (J.HF e) J.sz hb⟩
theorem AJ.e8 (J : AJ w W B g s l z y q vl vz vy v42 bx bz false false false d17) {v : Value} (hb : Below W.heap.size W W1) (ho : Kd.R k25 25 W1 W.heap.size (fun _ => True) v y) : AJ w W1 B g s l z y q vl vz v v42 bx bz true false false d17 := by
 have J1 := J.below hb
 exact ⟨J1.HB, J1.sz, J1.Bw, J1.Bg, J1.gl, J1.HG, J1.HZ, J1.HL0, J1.HL1, fun _ _ => Kd.R_lower (Kd.R_mono (Kd.R_bound ho) (fun k hk => Nat.le_trans J.sz hk.2.1)) (Nat.le_trans J.Bw J.sz), fun e => (by cases e), J1.HQ, J1.HF⟩
theorem AJ.e9 (J : AJ w W B g s l z y q vl vz vy v42 bx bz true false false d17) : AJ w (W.alloc (.cells #[vy] 27)) B g s l z y q vl vz vy v42 W.heap.size bz true true false d17 := by
 have J1 := J.below (below_alloc (Below.refl W.heap.size W) (.cells #[vy] 27))
 exact ⟨J1.HB, J1.sz, J1.Bw, J1.Bg, J1.gl, J1.HG, J1.HZ, J1.HL0, J1.HL1, J1.HY, fun _ _ => heap_alloc_new W _, J1.HQ, J1.HF⟩
theorem AJ.e17 (J : AJ w W B g s l z y q vl vz vy v42 bx bz d8 d9 d10 false) : AJ w (W.alloc (.cells #[.int .i64 q] 3)) B g s l z y q vl vz vy v42 bx W.heap.size d8 d9 d10 true := by
 have J1 := J.below (below_alloc (Below.refl W.heap.size W) (.cells #[.int .i64 q] 3))
 exact ⟨J1.HB, J1.sz, J1.Bw, J1.Bg, J1.gl, J1.HG, J1.HZ, J1.HL0, J1.HL1, J1.HY, J1.HX, fun _ => ⟨heap_alloc_new W _, J.sz⟩, J1.HF⟩
variable {ops : Array Oper} {o : Oper} {a : Act} {Q : Exit → Act → World → Prop} {K : Act → World → Prop}
theorem AJ.e10 (J : AJ w W B g s l z y q vl vz vy v42 bx bz true true false d17) (hl : l.length < 1000000) (hw : Region.wanted o (yielded ops a.tmps) = true) (s' x : Operand)
  (ho : o.op = .call { callee := .builtin .append, args := #[s', x], argTypes := #[28, 28] }) (hs : a.eval s' = vl) (hx : a.eval x = .slice (some ⟨bx, 0, none⟩) 1 1)
  (h : ∀ A c W1, AJ w W1 B g s l z y q vl vz vy (.slice A (l.length + 1) c) bx bz true true true d17 → K (a.put o.dst (.slice A (l.length + 1) c)) W1) :
  if Region.wanted o (yielded ops a.tmps) = true then Oper.wp Tryd.prog o a W K Q else K (a.put o.dst undef) W := by
 have L := J.HL0 rfl
 have Y := J.HY rfl rfl
 have hvl : ∀ k, vl.ownBlock = some k → k < w.heap.size := fun k hk => ((Kd.S_R L).1 k hk).2
 have hvz : ∀ k, vz.ownBlock = some k → k < w.heap.size := fun k hk => (J.HZ.1 k hk).2
 refine Kd.S_append_box (Kd.slice 25 k25) (w0 := w) B hw s' x 28 27 (.slice none 0 0) 24 ho Tryd.underlying28 info27 rfl (show (0 : Nat) < 1 by decide) (by decide) vl l y [vy] bx (fun k => k ≠ g ∧ some k ≠ vz.ownBlock) (fun k => w.heap.size ≤ k) hs hx (J.HX rfl rfl) rfl (Kd.M_row Y) ?_ ?_ ?_ J.HB (Nat.le_trans J.Bw J.sz) (by omega) ?_
 ·intro k hk
  have := J.gl
  exact ⟨⟨by omega, fun e => by have := hvz k e.symm; omega⟩, fun e => by have := hvl k e.symm; omega⟩
 ·intro k hk
  have := J.gl
  have := J.sz
  exact ⟨by omega, fun e => by have := hvz k e.symm; omega⟩
 ·exact Kd.S_mono L (fun k hk => ⟨hk.1, by omega⟩)
 ·intro v1 w1 hS hB hg hat
  obtain ⟨A, c, rfl⟩ := Kd.S_slice hS
  rw [List.length_append, List.length_singleton] at hS hat ⊢
  refine h A c w1 ⟨hB, Nat.le_trans J.sz hg.size, J.Bw, J.Bg, J.gl, blk_grown J.HG hg (Kd.S_ne L J.HG (by decide)), Kd.R_over' J.HZ (Kd.S_typed L) (by decide) hg, fun e => (by cases e), fun _ => hS, fun _ e => (by cases e), fun _ e => (by cases e), fun e => ⟨blk_grown (J.HQ e).1 hg (fun e2 => by have := hvl _ e2.symm; have := (J.HQ e).2; omega), (J.HQ e).2⟩, fun e => (by cases e)⟩
theorem AJ.e18 (J : AJ w W B g s l z y q vl vz vy v42 bx bz true true true true) (hl : z.length < 1000000) (hw : Region.wanted o (yielded ops a.tmps) = true) (s' x : Operand)
  (ho : o.op = .call { callee := .builtin .append, args := #[s', x], argTypes := #[38, 38] }) (hs : a.eval s' = vz) (hx : a.eval x = .slice (some ⟨bz, 0, none⟩) 1 1)
  (h : ∀ A c W1, Below B w W1 → W1.heap[g]? = some (.cells #[vl, vz, .string s] 114 (0, 0)) → Kd.S (Kd.slice 25 k25) 27 W1 B (fun k => k ≠ g ∧ some k ≠ (Value.slice A (z.length + 1) c).ownBlock) v42 (l ++ [y]) → Kd.R (Kd.int .i64) 3 W1 B (fun k => k ≠ g) (.slice A (z.length + 1) c) (z ++ [q]) → K (a.put o.dst (.slice A (z.length + 1) c)) W1) :
  if Region.wanted o (yielded ops a.tmps) = true then Oper.wp Tryd.prog o a W K Q else K (a.put o.dst undef) W := by
 have L := J.HL1 rfl
 have hvz : ∀ k, vz.ownBlock = some k → k < w.heap.size := fun k hk => (J.HZ.1 k hk).2
 refine Kd.R_append_rows_step (Kd.int .i64) (Rr := fun x c => c = [Value.int .i64 x]) (w0 := w) B hw s' x 38 3 (.int .i64 0) 8 ho Tryd.underlying38 info3 rfl (show (0 : Nat) < 1 by decide) (by decide) vz z [q] (some ⟨bz, 0, none⟩) 1 1 (fun k => k ≠ g) (fun _ => False) hs hx (Kd.R_mono J.HZ (fun k hk => hk.1)) (Kd.one_reads (cs := [Value.int .i64 q]) (J.HQ rfl).1 rfl rfl) (fun x c h => h) (fun _ h => h.elim) (fun k hk => by have := J.gl; have := J.sz; omega) J.HB (Nat.le_trans J.Bw J.sz) (by omega) ?_
 intro v1 w1 hR hB hg hat
 obtain ⟨A, c, rfl⟩ := Kd.R_slice hR
 rw [List.length_append, List.length_singleton] at hR hat ⊢
 exact h A c w1 hB (blk_grown J.HG hg (Kd.R_ne J.HZ J.HG (by decide))) (Kd.S_after (ok := fun k => k ≠ g) L hg hat) hR
end
end Go.Proofs.YtegjegihcebimaaDoor.P
end
