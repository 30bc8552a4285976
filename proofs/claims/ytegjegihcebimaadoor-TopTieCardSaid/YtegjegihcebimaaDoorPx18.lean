-- WRITTEN BY A PROGRAM OF THIS SESSION (wip/pp in its repo), made after the kit's print
import Derived.Test.YtegjegihcebimaaDoorPx0
import Derived.Test.YtegjegihcebimaaDoorPx2
import Derived.Test.YtegjegihcebimaaDoorPx4
import Derived.Test.YtegjegihcebimaaDoorPx7
import Derived.Test.YtegjegihcebimaaDoorPx10
import Derived.Test.YtegjegihcebimaaDoorPx11
import Derived.Test.YtegjegihcebimaaDoorPx17
namespace Go.Proofs.YtegjegihcebimaaDoor.P
open Go.RowKit Go.Proofs.YtegjegihcebimaaDoorW.PrintWords Go.Proofs.YtegjegihcebimaaDoorW.PrintLast Go.Proofs.YtegjegihcebimaaDoorW.PrintMore
attribute [local go_sem] max2_int min2_int max_two min_two max_three min_three max_four min_four   -- for this text's walks alone
set_option linter.unusedVariables false
set_option linter.unusedSimpArgs false

/-! ### through_may: function 45 -/
def through_may.f (k : Nat) (l0 : List (S25)) (l1 : List (List (S25))) : Option (Int) := (op_May.f k l0).bind fun t217 => (if t217 = 0 then ((op_In.f l0).bind fun t218 => ((fuse_Chain.f k t218 l1).bind fun bt219 => (some bt219.2))) else (some t217))
theorem through_may.mono : ∀ a0 a1 k, LeO (through_may.f k a0 a1) (through_may.f (k + 1) a0 a1) := by
 intro a0 a1 k
 unfold through_may.f
 repeat' first
   | (with_reducible exact fuse_Chain.mono _ _ _)
   | (with_reducible exact op_May.mono _ _)
   | (with_reducible exact LeO.refl _)
   | (with_reducible exact LeO.none _)
   | (with_reducible refine LeO.ite ?_ ?_)
   | (with_reducible refine LeO.bind ?_ (fun _ => ?_))
   | exact fuse_Chain.mono _ _ _
   | exact op_May.mono _ _
   | exact LeO.none _
   | refine LeO.ite ?_ ?_
   | refine LeO.bind ?_ (fun _ => ?_)
set_option maxHeartbeats 8000000 in
set_option maxRecDepth 100000 in
theorem through_may.calls (k : Nat) (A0 : Option Addr) (c0 : Nat) (l0 : List (S25)) (A1 : Option Addr) (c1 : Nat) (l1 : List (List (S25))) (r : Int) (w : World) (hr0 : Kd.C k25 w A0 l0.length l0) (hc0 : l0.length ≤ c0) (hr1 : Kd.C (Kd.slice 25 k25) w A1 l1.length l1) (hc1 : l1.length ≤ c1) (hT : Tabs w) (h : through_may.f k l0 l1 = some r) :
  Calls Tryd.prog 45 #[.slice A0 l0.length c0, .slice A1 l1.length c1] w fun e w' => e = .returned (.int .i64 r) ∧ Below w.heap.size w w' := by
 have HT := Aside0.mk hT
 clear hT
 have HR0 := Aside0.mk hr0
 have HC0 := Aside0.mk hc0
 clear hr0 hc0
 have HR1 := Aside0.mk hr1
 have HC1 := Aside0.mk hc1
 clear hr1 hc1
 have HB := Aside0.mk (Below.refl w.heap.size w)
 have H : ((op_May.f k l0).bind fun t217 => (if t217 = 0 then ((op_In.f l0).bind fun t218 => ((fuse_Chain.f k t218 l1).bind fun bt219 => (some bt219.2))) else (some t217))) = some r := h
 clear h
 replace H := Option.bind_eq_some_iff.mp H
 obtain ⟨t217, A30, H⟩ := H
 replace H : (if t217 = 0 then ((op_In.f l0).bind fun t218 => ((fuse_Chain.f k t218 l1).bind fun bt219 => (some bt219.2))) else (some t217)) = some r := H
 have A3 := Aside0.mk A30
 clear A30
 by_cases c4 : t217 = 0
 ·rw [if_pos c4] at H
  have c4b0 : (t217 == 0) = true := beq_iff_eq.mpr c4
  have c4b1 : (t217 != 0) = false := bne_eq_false_iff_eq.mpr c4
  clear c4
  replace H := Option.bind_eq_some_iff.mp H
  obtain ⟨t218, A50, H⟩ := H
  replace H : ((fuse_Chain.f k t218 l1).bind fun bt219 => (some bt219.2)) = some r := H
  have A5 := Aside0.mk A50
  clear A50
  replace H := Option.bind_eq_some_iff.mp H
  obtain ⟨⟨t219, t220⟩, A60, H⟩ := H
  replace H : (some t220) = some r := H
  have A6 := Aside0.mk A60
  clear A60
  obtain rfl := Option.some.inj H
  simp only [Option.some.injEq, Prod.mk.injEq] at H
  obtain ⟨rfl⟩ := H
  go_enter Tryd.func45, Tryd.ntmps45
  go_wp2_with (first | ((with_reducible refine gate_callee (f := 46) rfl ?_); refine goesL_ (some 9) rfl rfl Tryd.func46 (by kernel_rfl) rfl #[.slice A0 l0.length c0] rfl (by (try simp only [List.map_toArray, List.map_cons, List.map_nil]); first | done | rfl | (simp only [List.length_drop, List.length_take]; rfl)) ?_; (with_reducible refine (op_May.calls k _ _ l0 t217 _ ?side1 ?side2 ?side3 A3.out).mono ?_); (case side1 => repeat (first | exact HR0.out | (with_reducible refine Kd.C_alloc ?_ _) | (with_reducible refine Kd.C_drewN ?_ _) | (with_reducible refine Kd.C_drew ?_))); (case side2 => exact HC0.out); (case side3 => exact Tabs.below HT.out (by repeat (first | (with_reducible first | exact HB.out | apply below_alloc | apply pw_below_drewN | apply below_drew1) | exact HB.out))); rintro e w7 ⟨rfl, hb⟩; refine ⟨_, rfl, ?_⟩; have n0_ := Aside0.mk (below_step (by repeat (first | (with_reducible first | exact HB.out | apply below_alloc | apply pw_below_drewN | apply below_drew1) | exact HB.out)) hb); clear HB; have HB := n0_; clear n0_; (try clear hb); (try clear hb2); (try clear hk); (try clear hi)) | ((with_reducible refine gate_callee (f := 20) rfl ?_); refine goesL_ (some 15) rfl rfl Tryd.func20 (by kernel_rfl) rfl #[.slice A0 l0.length c0] rfl (by (try simp only [List.map_toArray, List.map_cons, List.map_nil]); first | done | rfl | (simp only [List.length_drop, List.length_take]; rfl)) ?_; (with_reducible refine (op_In.calls _ _ l0 t218 _ ?side1 ?side2 ?side3 A5.out).mono ?_); (case side1 => repeat (first | exact (Kd.C_below HR0.out HB.out) | (with_reducible refine Kd.C_alloc ?_ _) | (with_reducible refine Kd.C_drewN ?_ _) | (with_reducible refine Kd.C_drew ?_))); (case side2 => exact HC0.out); (case side3 => exact Tabs.below HT.out (by repeat (first | (with_reducible first | exact HB.out | apply below_alloc | apply pw_below_drewN | apply below_drew1) | exact HB.out))); rintro e w8 ⟨rfl, hb⟩; refine ⟨_, rfl, ?_⟩; have n0_ := Aside0.mk (below_step (by repeat (first | (with_reducible first | exact HB.out | apply below_alloc | apply pw_below_drewN | apply below_drew1) | exact HB.out)) hb); clear HB; have HB := n0_; clear n0_; (try clear hb); (try clear hb2); (try clear hk); (try clear hi)) | ((with_reducible refine gate_callee (f := 83) rfl ?_); refine goesL_ (some 17) rfl rfl Tryd.func83 (by kernel_rfl) rfl #[.int .i64 t218, .slice A1 l1.length c1] rfl (by (try simp only [List.map_toArray, List.map_cons, List.map_nil]); first | done | rfl | (simp only [List.length_drop, List.length_take]; rfl)) ?_; (with_reducible refine (fuse_Chain.calls k t218 _ _ l1 t219 t220 _ ?side1 ?side2 ?side3 A6.out).mono ?_); (case side1 => repeat (first | exact (Kd.C_below HR1.out HB.out) | (with_reducible refine Kd.C_alloc ?_ _) | (with_reducible refine Kd.C_drewN ?_ _) | (with_reducible refine Kd.C_drew ?_))); (case side2 => exact HC1.out); (case side3 => exact Tabs.below HT.out (by repeat (first | (with_reducible first | exact HB.out | apply below_alloc | apply pw_below_drewN | apply below_drew1) | exact HB.out))); rintro e w9 ⟨rfl, hb⟩; refine ⟨_, rfl, ?_⟩; have n0_ := Aside0.mk (below_step (by repeat (first | (with_reducible first | exact HB.out | apply below_alloc | apply pw_below_drewN | apply below_drew1) | exact HB.out)) hb); clear HB; have HB := n0_; clear n0_; (try clear hb); (try clear hb2); (try clear hk); (try clear hi)))
  go_ret
  exact ⟨by first | rfl | (simp [errW_none, errW_some] <;> rfl) | (simp [*, errW_none, errW_some] <;> rfl), by repeat (first | (with_reducible first | exact HB.out | apply below_alloc | apply pw_below_drewN | apply below_drew1) | exact HB.out)⟩
 ·rw [if_neg c4] at H
  have c4b0 : (t217 == 0) = false := beq_eq_false_iff_ne.mpr c4
  have c4b1 : (t217 != 0) = true := bne_iff_ne.mpr c4
  obtain rfl := Option.some.inj H
  simp only [Option.some.injEq, Prod.mk.injEq] at H
  obtain ⟨rfl⟩ := H
  go_enter Tryd.func45, Tryd.ntmps45
  go_wp2_with (first | ((with_reducible refine gate_callee (f := 46) rfl ?_); refine goesL_ (some 9) rfl rfl Tryd.func46 (by kernel_rfl) rfl #[.slice A0 l0.length c0] rfl (by (try simp only [List.map_toArray, List.map_cons, List.map_nil]); first | done | rfl | (simp only [List.length_drop, List.length_take]; rfl)) ?_; (with_reducible refine (op_May.calls k _ _ l0 t217 _ ?side1 ?side2 ?side3 A3.out).mono ?_); (case side1 => repeat (first | exact HR0.out | (with_reducible refine Kd.C_alloc ?_ _) | (with_reducible refine Kd.C_drewN ?_ _) | (with_reducible refine Kd.C_drew ?_))); (case side2 => exact HC0.out); (case side3 => exact Tabs.below HT.out (by repeat (first | (with_reducible first | exact HB.out | apply below_alloc | apply pw_below_drewN | apply below_drew1) | exact HB.out))); rintro e w10 ⟨rfl, hb⟩; refine ⟨_, rfl, ?_⟩; have n0_ := Aside0.mk (below_step (by repeat (first | (with_reducible first | exact HB.out | apply below_alloc | apply pw_below_drewN | apply below_drew1) | exact HB.out)) hb); clear HB; have HB := n0_; clear n0_; (try clear hb); (try clear hb2); (try clear hk); (try clear hi)))
  go_ret
  exact ⟨by first | rfl | (simp [errW_none, errW_some] <;> rfl) | (simp [*, errW_none, errW_some] <;> rfl), by repeat (first | (with_reducible first | exact HB.out | apply below_alloc | apply pw_below_drewN | apply below_drew1) | exact HB.out)⟩

/-! ### through_Of: function 12 -/
def through_Of.l (k : Nat) : List S25 → List (List S25) → Option (List S25)
  | s, [] => some s
  | s, x :: l => (over_Of.f k s x).bind fun r => through_Of.l k r.1 l
theorem through_Of.mono_l (k : Nat) : ∀ (l : List (List S25)) (s : List S25), LeO (through_Of.l k s l) (through_Of.l (k + 1) s l)
  | [], s => LeO.refl _
  | x :: l, s => by
    unfold through_Of.l
    exact LeO.bind (over_Of.mono _ _ _) fun r => through_Of.mono_l k l _
def through_Of.f (k : Nat) (l0 : List S25) (l1 : List (List S25)) : Option (List S25 × Int) :=
  if l1.length < 1000000000 then (through_may.f k l0 l1).bind fun e => (if e = 0 then (normal_Of.f l0).bind fun s => (through_Of.l k s l1).bind fun r => some (r, 0) else some ([], e)) else none
theorem through_Of.mono (l0 : List S25) (l1 : List (List S25)) (k : Nat) : LeO (through_Of.f k l0 l1) (through_Of.f (k + 1) l0 l1) := by
  unfold through_Of.f
  exact LeO.ite (LeO.bind (through_may.mono _ _ _) fun e => LeO.ite (LeO.bind (LeO.refl _) fun s => LeO.bind (through_Of.mono_l k _ _) fun r => LeO.refl _) (LeO.refl _)) (LeO.none _)
theorem through_Of.cut (ad : Addr) (n c j : Nat) (hj : j < n) (hc : n ≤ c) (W : World) : (Instr.slice 28 (.slice (some ad) n c) (some (.int .i64 (j : Int))) (some (.int .i64 ((j : Int) + 1))) (some (.int .i64 ((j : Int) + 1)))).run Tryd.prog W = .ok (.slice (some (ad.add j)) 1 1) W := by
  obtain ⟨i0, hi0, _, hsz, _⟩ := info_parts info27
  have hel : Tryd.prog.elem 28 = 27 := by simp [Program.elem, Tryd.underlying28]
  have hu : Tryd.prog.underlying 28 = some (.slice (Tryd.prog.elem 28)) := by rw [hel]; exact Tryd.underlying28
  rw [run_slice_lhm W 28 (some ad) n c hu .i64 .i64 .i64 (j : Int) ((j : Int) + 1) ((j : Int) + 1) (by omega) (by omega) (by omega) (by omega), hel]
  have e1 : ((j : Int) + 1).toNat = j + 1 := by omega
  have e2 : ((j : Int)).toNat = j := by omega
  simp [sizeOf, typeInfo, hi0, hsz, sliced, Result.andThen, e1, e2]
set_option maxHeartbeats 8000000 in
set_option maxRecDepth 100000 in
theorem through_Of.calls (k : Nat) (A0 : Option Addr) (c0 : Nat) (l0 : List S25) (A1 : Option Addr) (c1 : Nat) (l1 : List (List S25)) (r1 : List S25) (r2 : Int) (w : World) (hr0 : Kd.C k25 w A0 l0.length l0) (hc0 : l0.length ≤ c0) (hr1 : Kd.C (Kd.slice 25 k25) w A1 l1.length l1) (hc1 : l1.length ≤ c1) (hT : Tabs w) (h : through_Of.f k l0 l1 = some (r1, r2)) :
    Calls Tryd.prog 12 #[.slice A0 l0.length c0, .slice A1 l1.length c1] w fun e w' => ∃ v0_ : Value, e = .returned (.tuple #[v0_, .int .i64 r2]) ∧ Kd.R k25 25 w' w.heap.size (fun _ => True) v0_ r1 ∧ Below w.heap.size w w' := by
  unfold through_Of.f at h
  by_cases c : l1.length < 1000000000
  · rw [if_pos c] at h
    obtain ⟨e0, he0, h⟩ := Option.bind_eq_some_iff.mp h
    have HR0 := Aside0.mk hr0; have HC0 := Aside0.mk hc0; have HR1 := Aside0.mk hr1; have HC1 := Aside0.mk hc1; have HT := Aside0.mk hT; have HE0 := Aside0.mk he0; have HZ := Aside0.mk c
    by_cases z0 : e0 = 0
    · subst z0
      rw [if_pos rfl] at h
      obtain ⟨s0, hs0, h⟩ := Option.bind_eq_some_iff.mp h
      obtain ⟨r, hr, h⟩ := Option.bind_eq_some_iff.mp h
      simp only [Option.some.injEq, Prod.mk.injEq] at h
      obtain ⟨rfl, rfl⟩ := h
      have HS0 := Aside0.mk hs0; have HRR := Aside0.mk hr
      clear hr0 hc0 hr1 hc1 hT he0 hs0 hr c
      go_enter Tryd.func12, Tryd.ntmps12
      go_wp2_with (first | (go_at_call 45; (with_reducible refine (through_may.calls k A0 c0 l0 A1 c1 l1 0 _ HR0.out HC0.out HR1.out HC1.out HT.out HE0.out).mono ?_); rintro e w1 ⟨rfl, hb⟩; have HB1 := Aside0.mk hb; clear hb) | (go_at_call 33; (with_reducible refine (normal_Of.calls A0 c0 l0 s0 _ (Kd.C_below HR0.out HB1.out) HC0.out HS0.out).mono ?_); rintro e w2 ⟨v2, rfl, ho, hb⟩; have HO2 := Aside0.mk (Kd.R_lower ho HB1.out.size); have HB2 := Aside0.mk (below_then HB1.out HB1.out.size hb); clear ho hb))
      go_loopw [7, 8, 10, 21] (fun v7 _ _ v21 wr => ∃ j : Nat, v21 = .int .i64 j ∧ j ≤ l1.length ∧ ∃ s : List S25, Aside0 (through_Of.l k s (l1.drop j) = some r) ∧ Aside0 (Kd.R k25 25 wr w.heap.size (fun _ => True) v7 s) ∧ Aside0 (Below w.heap.size w wr)) (fun _ _ _ v21 _ => l1.length - (intOf v21).toNat)
      case atStart => exact ⟨0, rfl, Nat.zero_le _, s0, HRR, HO2, HB2⟩
      case round =>
        clear HRR HO2 HB2
        obtain ⟨j, rfl, hj, s, HA, HO, HW⟩ := hrel
        by_cases hlt : j < l1.length
        · have hltb : decide ((j : Int) < (l1.length : Int)) = true := decide_eq_true (by omega)
          have HL := Aside0.mk hlt
          obtain ⟨ad, Ay, cy, rfl, hx0, hcy, hCy⟩ := at_rows HR1.out j hlt
          have hcut := through_Of.cut ad l1.length c1 j hlt HC1.out
          have ew := fuse_Of.wrap hlt HZ.out
          have p3 : (j < l1.length) = True := eq_true hlt
          have HX0 := Aside0.mk hx0; have HCY := Aside0.mk hCy; have HCYY := Aside0.mk hcy
          have HRN := Aside0.mk (rows_next l1 j hlt)
          clear hlt hCy hcy hj hx0
          generalize rowsAt l1 j = y at *
          have HA' := Aside0.mk (HRN.out ▸ HA.out)
          clear HA HRN
          go_wp2
          have EW := Aside0.mk ew
          clear ew
          go_loopw [7, 10, 32] (fun v7 _ v32 wi => ∃ i : Nat, v32 = .int .i64 i ∧ i ≤ 1 ∧ ∃ s' : List S25, Aside0 (through_Of.l k s' (if i = 0 then y :: l1.drop (j + 1) else l1.drop (j + 1)) = some r) ∧ Aside0 (Kd.R k25 25 wi w.heap.size (fun _ => True) v7 s') ∧ Aside0 (Below w.heap.size w wi)) (fun _ _ v32 _ => 1 - (intOf v32).toNat)
          case atStart => exact ⟨0, rfl, by omega, s, HA', HO, HW⟩
          case round =>
            clear HA' HO HW
            obtain ⟨i, rfl, hi, s', HA, HO, HW⟩ := hrel
            obtain ⟨As, cs, rfl, hcs, hCs⟩ := Kd.R_reads HO.out
            have HCS := Aside0.mk hcs; have HCC := Aside0.mk hCs
            clear hcs hCs
            rcases (by omega : i = 0 ∨ i = 1) with rfl | rfl
            · have hx := cell_past HW.out HX0.out
              have h := HA.out
              clear HA
              rw [if_pos rfl, through_Of.l] at h
              obtain ⟨q, hq, h⟩ := Option.bind_eq_some_iff.mp h
              have HQ := Aside0.mk hq; have HE := Aside0.mk h
              clear hq h
              go_wp2_with (go_at_call 13; (with_reducible refine (over_Of.calls k As cs s' Ay cy y q.1 q.2 _ HCC.out HCS.out (Kd.C_below HCY.out HW.out) HCYY.out (Tabs.below HT.out HW.out) HQ.out).mono ?_); rintro e w3 ⟨v3, rfl, ho, hb⟩; have HO3 := Aside0.mk (Kd.R_lower ho HW.out.size); have HW3 := Aside0.mk (below_then HW.out HW.out.size hb); clear ho hb)
              go_round
              case measure => exact Nat.zero_lt_one
              case rel => exact ⟨1, rfl, by omega, q.1, HE, HO3, HW3⟩
            · have h := HA.out
              clear HA
              rw [if_neg (by omega)] at h
              have HE := Aside0.mk h
              clear h
              go_wp2
              go_round
              case measure => exact op_sum.less HL.out EW.out
              case rel => exact ⟨j + 1, by rw [EW.out], HL.out, s', HE, HO, HW⟩
        · have hltb : decide ((j : Int) < (l1.length : Int)) = false := decide_eq_false (by omega)
          have p3 : (j < l1.length) = False := eq_false hlt
          have h := HA.out
          clear HA
          rw [List.drop_of_length_le (by omega), through_Of.l] at h
          obtain rfl := Option.some.inj h
          go_wp2
          go_ret2
          exact ⟨_, rfl, HO.out, HW.out⟩
    · rw [if_neg z0] at h
      have zb : (e0 != 0) = true := bne_iff_ne.mpr z0
      simp only [Option.some.injEq, Prod.mk.injEq] at h
      obtain ⟨rfl, rfl⟩ := h
      clear hr0 hc0 hr1 hc1 hT he0 z0
      go_enter Tryd.func12, Tryd.ntmps12
      go_wp2_with (go_at_call 45; (with_reducible refine (through_may.calls k A0 c0 l0 A1 c1 l1 e0 _ HR0.out HC0.out HR1.out HC1.out HT.out HE0.out).mono ?_); rintro e w1 ⟨rfl, hb⟩; have HB1 := Aside0.mk hb; clear hb)
      go_ret2
      exact ⟨_, rfl, Kd.R_nil _ _ _ _ _, HB1.out⟩
  · rw [if_neg c] at h; cases h

end Go.Proofs.YtegjegihcebimaaDoor.P
