-- WRITTEN BY A PROGRAM OF THIS SESSION (wip/pp in its repo), made after the kit's print
import Derived.Test.YtolljobehfmffaaDoorPx0
import Derived.Test.YtolljobehfmffaaDoorPx13
import Derived.Test.YtolljobehfmffaaDoorPx15
import Derived.Test.YtolljobehfmffaaDoorPx16
import Derived.Test.YtolljobehfmffaaDoorPx17
import Derived.Test.YtolljobehfmffaaDoorPx20
namespace Go.Proofs.YtolljobehfmffaaDoor.P
open Go.RowKit Go.Proofs.YtolljobehfmffaaDoorW.PrintWords Go.Proofs.YtolljobehfmffaaDoorW.PrintLast Go.Proofs.YtolljobehfmffaaDoorW.PrintMore
attribute [local go_sem] max2_int min2_int max_two min_two max_three min_three max_four min_four   -- for this text's walks alone
set_option linter.unusedVariables false
set_option linter.unusedSimpArgs false

/-! ### epitomelaw15_SnapTaken: function 13 -/
mutual
def epitomelaw15_SnapTaken.j0 : Nat → Bool → List Int → ByteArray → Int → Int → Option (Bool)
  | 0, _, _, _, _, _ => none
  | k + 1, x3, x4, x5, x6, x7 => (snap_TakeRow.f k x4).bind fun bt494 => (if bt494.2.2 = 0 then ((snap_PutRow.f bt494.1).bind fun bt499 => (epitomelaw15_SnapTaken.l0 k x3 x4 bt494.1 bt494.2.1 bt499.1 bt499.2 1)) else (if x3 = true then (if (bt494.1.length : Int) = 0 then (if bt494.2.1 = 0 then (if bt494.2.2 = 7 then (if x7 = 0 then (some true) else (if x5.toList = ([] : List UInt8) then (some (x6 == 0)) else (some false))) else (if bt494.2.2 = 8 then (if x7 = 0 then (some true) else (if x5.toList = ([] : List UInt8) then (some (x6 == 0)) else (some false))) else (some false))) else (some false)) else (some false)) else (some false)))
def epitomelaw15_SnapTaken.l0 : Nat → Bool → List Int → List Int → Int → List Int → Int → Int → Option (Bool)
  | 0, _, _, _, _, _, _, _ => none
  | k + 1, x3, x4, x10, x11, x13, x14, x15 => if x15 < (x10.length : Int) then (if 0 ≤ (wrap64 (x15 - 1)) then (if (wrap64 (x15 - 1)) < (x10.length : Int) then (if 0 ≤ x15 then (if (rd x10 (wrap64 (x15 - 1))) ≥ (rd x10 x15) then (some false) else (epitomelaw15_SnapTaken.l0 k x3 x4 x10 x11 x13 x14 (wrap64 (x15 + 1)))) else (none)) else (none)) else (none)) else (if x3 = true then (if x14 = 0 then (if x11 ≥ 1 then (if x11 ≤ (x4.length : Int) then (if 0 ≤ x11 then (if (strOfNums x13).toList = (strOfNums (x4.take (x11 : Int).toNat)).toList then (some (decide ((x10.length : Int) > 0))) else (some false)) else (none)) else (some false)) else (some false)) else (some false)) else (some false))
end
def epitomelaw15_SnapTaken.f (k : Nat) (l0 : List Int) : Option (Bool) := (epitomelaw15_shown.f k).bind fun t478 => ((epitomelaw15_few.f l0).bind fun t479 => ((snap_Take.f k t479).bind fun bt482 => (if bt482.2.2 = 0 then ((snap_Put.f bt482.1).bind fun bt485 => (if bt485.2 = 0 then (if bt482.2.1 < 1 then (some false) else (if bt482.2.1 > (t479.length : Int) then (some false) else (if 0 ≤ bt482.2.1 then (if bt482.2.1 ≤ (t479.length : Int) then (if (strOfNums bt485.1).toList = (strOfNums (t479.take (bt482.2.1 : Int).toNat)).toList then (epitomelaw15_SnapTaken.j0 k t478 t479 bt482.1 bt482.2.1 bt482.2.2) else (some false)) else (none)) else (none)))) else (some false))) else (epitomelaw15_SnapTaken.j0 k t478 t479 bt482.1 bt482.2.1 bt482.2.2))))
theorem epitomelaw15_SnapTaken.mono_l : ∀ k, (∀ y0 y1 y2 y3 y4, LeO (epitomelaw15_SnapTaken.j0 k y0 y1 y2 y3 y4) (epitomelaw15_SnapTaken.j0 (k + 1) y0 y1 y2 y3 y4)) ∧ (∀ y0 y1 y2 y3 y4 y5 y6, LeO (epitomelaw15_SnapTaken.l0 k y0 y1 y2 y3 y4 y5 y6) (epitomelaw15_SnapTaken.l0 (k + 1) y0 y1 y2 y3 y4 y5 y6))
  | 0 => ⟨fun _ _ _ _ _ r h => by simp [epitomelaw15_SnapTaken.j0] at h, fun _ _ _ _ _ _ _ r h => by simp [epitomelaw15_SnapTaken.l0] at h⟩
  | k + 1 => by
    obtain ⟨ih0, ih1⟩ := epitomelaw15_SnapTaken.mono_l k
    refine ⟨?_, ?_⟩
    · intro y0 y1 y2 y3 y4
      unfold epitomelaw15_SnapTaken.j0
      repeat' first
      | (with_reducible exact ih0 _ _ _ _ _)
      | (with_reducible exact ih1 _ _ _ _ _ _ _)
      | (with_reducible exact epitomelaw15_shown.mono _)
      | (with_reducible exact snap_Take.mono _ _)
      | (with_reducible exact snap_TakeRow.mono _ _)
      | (with_reducible exact LeO.refl _)
      | (with_reducible exact LeO.none _)
      | (with_reducible refine LeO.ite ?_ ?_)
      | (with_reducible refine LeO.bind ?_ (fun _ => ?_))
      | exact ih0 _ _ _ _ _
      | exact ih1 _ _ _ _ _ _ _
      | exact epitomelaw15_shown.mono _
      | exact snap_Take.mono _ _
      | exact snap_TakeRow.mono _ _
      | exact LeO.none _
      | refine LeO.ite ?_ ?_
      | refine LeO.bind ?_ (fun _ => ?_)
    · intro y0 y1 y2 y3 y4 y5 y6
      unfold epitomelaw15_SnapTaken.l0
      repeat' first
      | (with_reducible exact ih0 _ _ _ _ _)
      | (with_reducible exact ih1 _ _ _ _ _ _ _)
      | (with_reducible exact epitomelaw15_shown.mono _)
      | (with_reducible exact snap_Take.mono _ _)
      | (with_reducible exact snap_TakeRow.mono _ _)
      | (with_reducible exact LeO.refl _)
      | (with_reducible exact LeO.none _)
      | (with_reducible refine LeO.ite ?_ ?_)
      | (with_reducible refine LeO.bind ?_ (fun _ => ?_))
      | exact ih0 _ _ _ _ _
      | exact ih1 _ _ _ _ _ _ _
      | exact epitomelaw15_shown.mono _
      | exact snap_Take.mono _ _
      | exact snap_TakeRow.mono _ _
      | exact LeO.none _
      | refine LeO.ite ?_ ?_
      | refine LeO.bind ?_ (fun _ => ?_)
theorem epitomelaw15_SnapTaken.mono : ∀ a0 k, LeO (epitomelaw15_SnapTaken.f k a0) (epitomelaw15_SnapTaken.f (k + 1) a0) := by
  intro a0 k
  obtain ⟨ih0, ih1⟩ := epitomelaw15_SnapTaken.mono_l k
  unfold epitomelaw15_SnapTaken.f
  repeat' first
      | (with_reducible exact ih0 _ _ _ _ _)
      | (with_reducible exact ih1 _ _ _ _ _ _ _)
      | (with_reducible exact epitomelaw15_shown.mono _)
      | (with_reducible exact snap_Take.mono _ _)
      | (with_reducible exact snap_TakeRow.mono _ _)
      | (with_reducible exact LeO.refl _)
      | (with_reducible exact LeO.none _)
      | (with_reducible refine LeO.ite ?_ ?_)
      | (with_reducible refine LeO.bind ?_ (fun _ => ?_))
      | exact ih0 _ _ _ _ _
      | exact ih1 _ _ _ _ _ _ _
      | exact epitomelaw15_shown.mono _
      | exact snap_Take.mono _ _
      | exact snap_TakeRow.mono _ _
      | exact LeO.none _
      | refine LeO.ite ?_ ?_
      | refine LeO.bind ?_ (fun _ => ?_)
set_option maxHeartbeats 8000000 in
set_option maxRecDepth 100000 in
theorem epitomelaw15_SnapTaken.calls (k : Nat) (A0 : Option Addr) (c0 : Nat) (l0 : List Int) (r : Bool) (w : World) (hr0 : Kd.C (Kd.int .u8) w A0 l0.length l0) (hc0 : l0.length ≤ c0) (hT : Tabs w) (h : epitomelaw15_SnapTaken.f k l0 = some r) (hlaw : r = true) :
    Calls Tryd.prog 13 #[.slice A0 l0.length c0] w fun e w' => e = .returned (.bool r) ∧ Below w.heap.size w w' := by
  have HLAW := Aside0.mk hlaw
  clear hlaw
  have HT := Aside0.mk hT
  clear hT
  have HR0 := Aside0.mk hr0
  have HC0 := Aside0.mk hc0
  clear hr0 hc0
  have HB := Aside0.mk (Below.refl w.heap.size w)
  have H : ((epitomelaw15_shown.f k).bind fun t478 => ((epitomelaw15_few.f l0).bind fun t479 => ((snap_Take.f k t479).bind fun bt482 => (if bt482.2.2 = 0 then ((snap_Put.f bt482.1).bind fun bt485 => (if bt485.2 = 0 then (if bt482.2.1 < 1 then (some false) else (if bt482.2.1 > (t479.length : Int) then (some false) else (if 0 ≤ bt482.2.1 then (if bt482.2.1 ≤ (t479.length : Int) then (if (strOfNums bt485.1).toList = (strOfNums (t479.take (bt482.2.1 : Int).toNat)).toList then (epitomelaw15_SnapTaken.j0 k t478 t479 bt482.1 bt482.2.1 bt482.2.2) else (some false)) else (none)) else (none)))) else (some false))) else (epitomelaw15_SnapTaken.j0 k t478 t479 bt482.1 bt482.2.1 bt482.2.2))))) = some r := h
  clear h
  replace H := Option.bind_eq_some_iff.mp H
  obtain ⟨t478, A20, H⟩ := H
  replace H : ((epitomelaw15_few.f l0).bind fun t479 => ((snap_Take.f k t479).bind fun bt482 => (if bt482.2.2 = 0 then ((snap_Put.f bt482.1).bind fun bt485 => (if bt485.2 = 0 then (if bt482.2.1 < 1 then (some false) else (if bt482.2.1 > (t479.length : Int) then (some false) else (if 0 ≤ bt482.2.1 then (if bt482.2.1 ≤ (t479.length : Int) then (if (strOfNums bt485.1).toList = (strOfNums (t479.take (bt482.2.1 : Int).toNat)).toList then (epitomelaw15_SnapTaken.j0 k t478 t479 bt482.1 bt482.2.1 bt482.2.2) else (some false)) else (none)) else (none)))) else (some false))) else (epitomelaw15_SnapTaken.j0 k t478 t479 bt482.1 bt482.2.1 bt482.2.2)))) = some r := H
  have A2 := Aside0.mk A20
  clear A20
  replace H := Option.bind_eq_some_iff.mp H
  obtain ⟨t479, A30, H⟩ := H
  replace H : ((snap_Take.f k t479).bind fun bt482 => (if bt482.2.2 = 0 then ((snap_Put.f bt482.1).bind fun bt485 => (if bt485.2 = 0 then (if bt482.2.1 < 1 then (some false) else (if bt482.2.1 > (t479.length : Int) then (some false) else (if 0 ≤ bt482.2.1 then (if bt482.2.1 ≤ (t479.length : Int) then (if (strOfNums bt485.1).toList = (strOfNums (t479.take (bt482.2.1 : Int).toNat)).toList then (epitomelaw15_SnapTaken.j0 k t478 t479 bt482.1 bt482.2.1 bt482.2.2) else (some false)) else (none)) else (none)))) else (some false))) else (epitomelaw15_SnapTaken.j0 k t478 t479 bt482.1 bt482.2.1 bt482.2.2))) = some r := H
  have A3 := Aside0.mk A30
  clear A30
  replace H := Option.bind_eq_some_iff.mp H
  obtain ⟨⟨t482, t483, t484⟩, A40, H⟩ := H
  replace H : (if t484 = 0 then ((snap_Put.f t482).bind fun bt485 => (if bt485.2 = 0 then (if t483 < 1 then (some false) else (if t483 > (t479.length : Int) then (some false) else (if 0 ≤ t483 then (if t483 ≤ (t479.length : Int) then (if (strOfNums bt485.1).toList = (strOfNums (t479.take (t483 : Int).toNat)).toList then (epitomelaw15_SnapTaken.j0 k t478 t479 t482 t483 t484) else (some false)) else (none)) else (none)))) else (some false))) else (epitomelaw15_SnapTaken.j0 k t478 t479 t482 t483 t484)) = some r := H
  have A4 := Aside0.mk A40
  clear A40
  have HC5 := Aside0.mk H
  clear H
  go_enter Tryd.func13, Tryd.ntmps13
  go_upto_if 26 with (first | (go_at_call 25; (with_reducible refine (epitomelaw15_shown.calls k  t478 _ ?side1 A2.out).mono ?_); (case side1 => exact Tabs.below HT.out (by repeat (first | (with_reducible first | exact HB.out | apply below_alloc | apply pw_below_drewN | apply below_drew1) | exact HB.out))); rintro e w6 ⟨rfl, hb⟩; have n0_ := Aside0.mk (below_step (by repeat (first | (with_reducible first | exact HB.out | apply below_alloc | apply pw_below_drewN | apply below_drew1) | exact HB.out)) hb); clear HB; have HB := n0_; clear n0_; (try clear hb); (try clear hb2); (try clear hk); (try clear hi)) | (go_at_call 30; (with_reducible refine (epitomelaw15_few.calls (fun k_ => k_ < w.heap.size) _ _ l0 t479 _ ?side1 A3.out).mono ?_); (case side1 => exact Kd.V_mk HC0.out (Kd.F_below (Kd.C_F (Kd.heap_int .u8) HR0.out) (by repeat (first | (with_reducible first | exact HB.out | apply below_alloc | apply pw_below_drewN | apply below_drew1) | exact HB.out)))); rintro e w7 ⟨v480, rfl, ho0, hb⟩; have n0_ := Aside0.mk (Kd.V_lower (Kd.V_mono (ok' := fun k_ => True) ho0 (fun k_ hk_ => trivial)) (below_size (by repeat (first | (with_reducible first | exact HB.out | apply below_alloc | apply pw_below_drewN | apply below_drew1) | exact HB.out)))); have n1_ := Aside0.mk (below_step (by repeat (first | (with_reducible first | exact HB.out | apply below_alloc | apply pw_below_drewN | apply below_drew1) | exact HB.out)) hb); clear HB; have HO481 := n0_; have HB := n1_; clear n0_ n1_; (try clear hb); (try clear hb2); (try clear hk); (try clear hi); (try clear ho0); obtain ⟨Ao8, co8, eo8⟩ := Kd.V_slice HO481.out; subst eo8) | (go_at_call 35; (with_reducible refine (snap_Take.calls k _ _ t479 t482 t483 t484 _ ?side1 ?side2 ?side3 A4.out).mono ?_); (case side1 => repeat (first | exact (Kd.V_reads' HO481.out).2.2 | (with_reducible refine Kd.C_alloc ?_ _) | (with_reducible refine Kd.C_drewN ?_ _) | (with_reducible refine Kd.C_drew ?_))); (case side2 => exact (Kd.V_reads' HO481.out).2.1); (case side3 => exact Tabs.below HT.out (by repeat (first | (with_reducible first | exact HB.out | apply below_alloc | apply pw_below_drewN | apply below_drew1) | exact HB.out))); rintro e w9 ⟨rfl, hb⟩; have n0_ := Aside0.mk (Kd.V_below (by (with_reducible repeat (first | apply Kd.V_alloc | apply Kd.V_drewN | apply Kd.V_drew)); exact HO481.out) hb); have n1_ := Aside0.mk (below_step (by repeat (first | (with_reducible first | exact HB.out | apply below_alloc | apply pw_below_drewN | apply below_drew1) | exact HB.out)) hb); clear HO481; clear HB; have HO481 := n0_; have HB := n1_; clear n0_ n1_; (try clear hb); (try clear hb2); (try clear hk); (try clear hi)))
  repeat (go_quiet (first | (go_at_call 25; (with_reducible refine (epitomelaw15_shown.calls k  t478 _ ?side1 A2.out).mono ?_); (case side1 => exact Tabs.below HT.out (by repeat (first | (with_reducible first | exact HB.out | apply below_alloc | apply pw_below_drewN | apply below_drew1) | exact HB.out))); rintro e w6 ⟨rfl, hb⟩; have n0_ := Aside0.mk (below_step (by repeat (first | (with_reducible first | exact HB.out | apply below_alloc | apply pw_below_drewN | apply below_drew1) | exact HB.out)) hb); clear HB; have HB := n0_; clear n0_; (try clear hb); (try clear hb2); (try clear hk); (try clear hi)) | (go_at_call 30; (with_reducible refine (epitomelaw15_few.calls (fun k_ => k_ < w.heap.size) _ _ l0 t479 _ ?side1 A3.out).mono ?_); (case side1 => exact Kd.V_mk HC0.out (Kd.F_below (Kd.C_F (Kd.heap_int .u8) HR0.out) (by repeat (first | (with_reducible first | exact HB.out | apply below_alloc | apply pw_below_drewN | apply below_drew1) | exact HB.out)))); rintro e w7 ⟨v480, rfl, ho0, hb⟩; have n0_ := Aside0.mk (Kd.V_lower (Kd.V_mono (ok' := fun k_ => True) ho0 (fun k_ hk_ => trivial)) (below_size (by repeat (first | (with_reducible first | exact HB.out | apply below_alloc | apply pw_below_drewN | apply below_drew1) | exact HB.out)))); have n1_ := Aside0.mk (below_step (by repeat (first | (with_reducible first | exact HB.out | apply below_alloc | apply pw_below_drewN | apply below_drew1) | exact HB.out)) hb); clear HB; have HO481 := n0_; have HB := n1_; clear n0_ n1_; (try clear hb); (try clear hb2); (try clear hk); (try clear hi); (try clear ho0); obtain ⟨Ao8, co8, eo8⟩ := Kd.V_slice HO481.out; subst eo8) | (go_at_call 35; (with_reducible refine (snap_Take.calls k _ _ t479 t482 t483 t484 _ ?side1 ?side2 ?side3 A4.out).mono ?_); (case side1 => repeat (first | exact (Kd.V_reads' HO481.out).2.2 | (with_reducible refine Kd.C_alloc ?_ _) | (with_reducible refine Kd.C_drewN ?_ _) | (with_reducible refine Kd.C_drew ?_))); (case side2 => exact (Kd.V_reads' HO481.out).2.1); (case side3 => exact Tabs.below HT.out (by repeat (first | (with_reducible first | exact HB.out | apply below_alloc | apply pw_below_drewN | apply below_drew1) | exact HB.out))); rintro e w9 ⟨rfl, hb⟩; have n0_ := Aside0.mk (Kd.V_below (by (with_reducible repeat (first | apply Kd.V_alloc | apply Kd.V_drewN | apply Kd.V_drew)); exact HO481.out) hb); have n1_ := Aside0.mk (below_step (by repeat (first | (with_reducible first | exact HB.out | apply below_alloc | apply pw_below_drewN | apply below_drew1) | exact HB.out)) hb); clear HO481; clear HB; have HO481 := n0_; have HB := n1_; clear n0_ n1_; (try clear hb); (try clear hb2); (try clear hk); (try clear hi))); go_upto_if 26 with (first | (go_at_call 25; (with_reducible refine (epitomelaw15_shown.calls k  t478 _ ?side1 A2.out).mono ?_); (case side1 => exact Tabs.below HT.out (by repeat (first | (with_reducible first | exact HB.out | apply below_alloc | apply pw_below_drewN | apply below_drew1) | exact HB.out))); rintro e w6 ⟨rfl, hb⟩; have n0_ := Aside0.mk (below_step (by repeat (first | (with_reducible first | exact HB.out | apply below_alloc | apply pw_below_drewN | apply below_drew1) | exact HB.out)) hb); clear HB; have HB := n0_; clear n0_; (try clear hb); (try clear hb2); (try clear hk); (try clear hi)) | (go_at_call 30; (with_reducible refine (epitomelaw15_few.calls (fun k_ => k_ < w.heap.size) _ _ l0 t479 _ ?side1 A3.out).mono ?_); (case side1 => exact Kd.V_mk HC0.out (Kd.F_below (Kd.C_F (Kd.heap_int .u8) HR0.out) (by repeat (first | (with_reducible first | exact HB.out | apply below_alloc | apply pw_below_drewN | apply below_drew1) | exact HB.out)))); rintro e w7 ⟨v480, rfl, ho0, hb⟩; have n0_ := Aside0.mk (Kd.V_lower (Kd.V_mono (ok' := fun k_ => True) ho0 (fun k_ hk_ => trivial)) (below_size (by repeat (first | (with_reducible first | exact HB.out | apply below_alloc | apply pw_below_drewN | apply below_drew1) | exact HB.out)))); have n1_ := Aside0.mk (below_step (by repeat (first | (with_reducible first | exact HB.out | apply below_alloc | apply pw_below_drewN | apply below_drew1) | exact HB.out)) hb); clear HB; have HO481 := n0_; have HB := n1_; clear n0_ n1_; (try clear hb); (try clear hb2); (try clear hk); (try clear hi); (try clear ho0); obtain ⟨Ao8, co8, eo8⟩ := Kd.V_slice HO481.out; subst eo8) | (go_at_call 35; (with_reducible refine (snap_Take.calls k _ _ t479 t482 t483 t484 _ ?side1 ?side2 ?side3 A4.out).mono ?_); (case side1 => repeat (first | exact (Kd.V_reads' HO481.out).2.2 | (with_reducible refine Kd.C_alloc ?_ _) | (with_reducible refine Kd.C_drewN ?_ _) | (with_reducible refine Kd.C_drew ?_))); (case side2 => exact (Kd.V_reads' HO481.out).2.1); (case side3 => exact Tabs.below HT.out (by repeat (first | (with_reducible first | exact HB.out | apply below_alloc | apply pw_below_drewN | apply below_drew1) | exact HB.out))); rintro e w9 ⟨rfl, hb⟩; have n0_ := Aside0.mk (Kd.V_below (by (with_reducible repeat (first | apply Kd.V_alloc | apply Kd.V_drewN | apply Kd.V_drew)); exact HO481.out) hb); have n1_ := Aside0.mk (below_step (by repeat (first | (with_reducible first | exact HB.out | apply below_alloc | apply pw_below_drewN | apply below_drew1) | exact HB.out)) hb); clear HO481; clear HB; have HO481 := n0_; have HB := n1_; clear n0_ n1_; (try clear hb); (try clear hb2); (try clear hk); (try clear hi))))
  (try simp only [Act.put, List.setIfInBounds_toArray, List.set_cons_zero, List.set_cons_succ])
  go_cut [] (fun wc => ∃ (kq : Nat), Aside0 (epitomelaw15_SnapTaken.j0 kq t478 t479 t482 t483 t484 = some r) ∧ Aside0 (kq ≤ k) ∧ Aside0 (Kd.V (Kd.int .u8) 5 wc w.heap.size (fun _ => True) (.slice Ao8 t479.length co8) t479) ∧ Aside0 (Below w.heap.size w wc))
  case first =>
    have H := HC5.out
    clear HC5
    by_cases c10 : t484 = 0
    · rw [if_pos c10] at H
      have c10b0 : (t484 == 0) = true := beq_iff_eq.mpr c10
      have c10b1 : (t484 != 0) = false := bne_eq_false_iff_eq.mpr c10
      clear c10
      (first | rw [c10b0] | (simp only [i64_w, i32_w]; rw [c10b0]) | skip)
      replace H := Option.bind_eq_some_iff.mp H
      obtain ⟨⟨t485, t486⟩, A110, H⟩ := H
      replace H : (if t486 = 0 then (if t483 < 1 then (some false) else (if t483 > (t479.length : Int) then (some false) else (if 0 ≤ t483 then (if t483 ≤ (t479.length : Int) then (if (strOfNums t485).toList = (strOfNums (t479.take (t483 : Int).toNat)).toList then (epitomelaw15_SnapTaken.j0 k t478 t479 t482 t483 t484) else (some false)) else (none)) else (none)))) else (some false)) = some r := H
      have A11 := Aside0.mk A110
      clear A110
      by_cases c12 : t486 = 0
      · rw [if_pos c12] at H
        have c12b0 : (t486 == 0) = true := beq_iff_eq.mpr c12
        have c12b1 : (t486 != 0) = false := bne_eq_false_iff_eq.mpr c12
        clear c12
        by_cases c13 : t483 < 1
        · rw [if_pos c13] at H
          have c13b0 : decide (t483 < 1) = true := decide_eq_true c13
          clear c13
          obtain rfl := Option.some.inj H
          exact absurd HLAW.out (by decide)
        · rw [if_neg c13] at H
          have c13b0 : decide (t483 < 1) = false := decide_eq_false c13
          clear c13
          by_cases c14 : t483 > (t479.length : Int)
          · rw [if_pos c14] at H
            have c14b0 : decide ((t479.length : Int) < t483) = true := decide_eq_true c14
            clear c14
            obtain rfl := Option.some.inj H
            exact absurd HLAW.out (by decide)
          · rw [if_neg c14] at H
            have c14b0 : decide ((t479.length : Int) < t483) = false := decide_eq_false c14
            clear c14
            by_cases c15 : 0 ≤ t483
            · rw [if_pos c15] at H
              have c15b0 := eq_true c15
              have c15b1 : decide (0 ≤ t483) = true := decide_eq_true c15
              clear c15
              by_cases c16 : t483 ≤ (t479.length : Int)
              · rw [if_pos c16] at H
                have c16b0 := eq_true c16
                have c16b1 : decide (t483 ≤ (t479.length : Int)) = true := decide_eq_true c16
                clear c16
                obtain ⟨y489, hy489⟩ : ∃ y_ : List Int, y_ = (t479.take (t483 : Int).toNat) := ⟨_, rfl⟩
                replace H : (if (strOfNums t485).toList = (strOfNums y489).toList then (epitomelaw15_SnapTaken.j0 k t478 t479 t482 t483 t484) else (some false)) = some r := by first | (rw [hy489]; with_reducible exact H) | (have H2_ := (Option.bind_some _ _).symm.trans H; rw [hy489]; with_reducible exact H2_) | (have H2_ := (Option.bind_some _ _).symm.trans H; with_reducible exact H2_) | with_reducible exact H | (rw [hy489]; exact H) | exact H
                have Ny489 := Aside0.mk hy489
                clear hy489
                by_cases c17 : (strOfNums t485).toList = (strOfNums y489).toList
                · rw [if_pos c17] at H
                  have c17b0 : ((strOfNums t485).toList == (strOfNums y489).toList) = true := beq_iff_eq.mpr c17
                  have c17b1 : ((strOfNums t485).toList != (strOfNums y489).toList) = false := bne_eq_false_iff_eq.mpr c17
                  clear c17
                  have H' := Aside0.mk H
                  clear H
                  go_wp2_with (first | (go_at_call 33; (with_reducible refine (snap_Put.calls t482 t485 t486 _ ?side1 A11.out).mono ?_); (case side1 => exact Tabs.below HT.out (by repeat (first | (with_reducible first | exact HB.out | apply below_alloc | apply pw_below_drewN | apply below_drew1) | exact HB.out))); rintro e w18 ⟨v487, rfl, ho0, hb⟩; have n0_ := Aside0.mk (Kd.V_elder' (by (with_reducible repeat (first | apply Kd.V_alloc | apply Kd.V_drewN | apply Kd.V_drew)); exact HO481.out) (Kd.R_base ho0) hb); have n1_ := Aside0.mk (Kd.R_lower ho0 (below_size (by repeat (first | (with_reducible first | exact HB.out | apply below_alloc | apply pw_below_drewN | apply below_drew1) | exact HB.out)))); have n2_ := Aside0.mk (below_step (by repeat (first | (with_reducible first | exact HB.out | apply below_alloc | apply pw_below_drewN | apply below_drew1) | exact HB.out)) hb); clear HO481; clear HB; have HO481 := n0_; have HO488 := n1_; have HB := n2_; clear n0_ n1_ n2_; (try clear hb); (try clear hb2); (try clear hk); (try clear hi); (try clear ho0); have hcv19 := own_string (P := Tryd.prog) Tryd.underlying32 Tryd.underlying5 Tryd.underlying9 (Kd.own_of_R HO488.out); have hcv20 := fun (m_ : Nat) => own_string (P := Tryd.prog) Tryd.underlying32 Tryd.underlying5 Tryd.underlying9 (Kd.own_of_R (Kd.R_drewN HO488.out m_)); have q21 : (t483 : Int) ≤ ((t479.length : Int) : Int) := of_decide_eq_true (by first | (with_reducible assumption) | assumption); obtain ⟨i021, hi021, _, hsz21, _⟩ := info_parts info5; have hroom21 : t479.length ≤ co8 := (Kd.V_reads' HO481.out).2.1; have hC21 : Kd.F (Kd.int .u8) _ _ Ao8 t479.length t479 := (Kd.V_at (base := w.heap.size) HO481.out).2.2; have hcut21 := cut_to (P := Tryd.prog) 32 5 .i64 Tryd.underlying32 hi021 Ao8 t479.length co8 t483 (of_decide_eq_true (by first | (with_reducible assumption) | assumption)) q21 hroom21; have hr21 := Kd.F_take (m := (t483 : Int).toNat) hC21 (by omega); have hy21 : y489.length = (t483 : Int).toNat := (by rw [Ny489.out, List.length_take]; omega); rw [← Ny489.out] at hr21; rw [← hy21] at hcut21; have HO493 := Aside0.mk (show Kd.V (Kd.int .u8) 5 _ w.heap.size _ (.slice Ao8 y489.length co8) y489 from Kd.V_mk (by omega) hr21); have HC493 := Aside0.mk (show y489.length ≤ co8 from by omega); clear hr21 hC21 hroom21 hi021 hsz21; have KY21 := Aside0.mk hy21; clear hy21; replace q21 := eq_true q21; have hcv22 := Kd.C_string (P := Tryd.prog) (A := Ao8) (c := co8) Tryd.underlying32 Tryd.underlying5 Tryd.underlying9 (Kd.V_reads' HO493.out).2.2; have hcv23 := fun (m_ : Nat) => Kd.C_string (P := Tryd.prog) (A := Ao8) (c := co8) Tryd.underlying32 Tryd.underlying5 Tryd.underlying9 (Kd.C_drewN (Kd.V_reads' HO493.out).2.2 m_)))
                  repeat (go_quiet (first | (go_at_call 33; (with_reducible refine (snap_Put.calls t482 t485 t486 _ ?side1 A11.out).mono ?_); (case side1 => exact Tabs.below HT.out (by repeat (first | (with_reducible first | exact HB.out | apply below_alloc | apply pw_below_drewN | apply below_drew1) | exact HB.out))); rintro e w18 ⟨v487, rfl, ho0, hb⟩; have n0_ := Aside0.mk (Kd.V_elder' (by (with_reducible repeat (first | apply Kd.V_alloc | apply Kd.V_drewN | apply Kd.V_drew)); exact HO481.out) (Kd.R_base ho0) hb); have n1_ := Aside0.mk (Kd.R_lower ho0 (below_size (by repeat (first | (with_reducible first | exact HB.out | apply below_alloc | apply pw_below_drewN | apply below_drew1) | exact HB.out)))); have n2_ := Aside0.mk (below_step (by repeat (first | (with_reducible first | exact HB.out | apply below_alloc | apply pw_below_drewN | apply below_drew1) | exact HB.out)) hb); clear HO481; clear HB; have HO481 := n0_; have HO488 := n1_; have HB := n2_; clear n0_ n1_ n2_; (try clear hb); (try clear hb2); (try clear hk); (try clear hi); (try clear ho0); have hcv19 := own_string (P := Tryd.prog) Tryd.underlying32 Tryd.underlying5 Tryd.underlying9 (Kd.own_of_R HO488.out); have hcv20 := fun (m_ : Nat) => own_string (P := Tryd.prog) Tryd.underlying32 Tryd.underlying5 Tryd.underlying9 (Kd.own_of_R (Kd.R_drewN HO488.out m_)); have q21 : (t483 : Int) ≤ ((t479.length : Int) : Int) := of_decide_eq_true (by first | (with_reducible assumption) | assumption); obtain ⟨i021, hi021, _, hsz21, _⟩ := info_parts info5; have hroom21 : t479.length ≤ co8 := (Kd.V_reads' HO481.out).2.1; have hC21 : Kd.F (Kd.int .u8) _ _ Ao8 t479.length t479 := (Kd.V_at (base := w.heap.size) HO481.out).2.2; have hcut21 := cut_to (P := Tryd.prog) 32 5 .i64 Tryd.underlying32 hi021 Ao8 t479.length co8 t483 (of_decide_eq_true (by first | (with_reducible assumption) | assumption)) q21 hroom21; have hr21 := Kd.F_take (m := (t483 : Int).toNat) hC21 (by omega); have hy21 : y489.length = (t483 : Int).toNat := (by rw [Ny489.out, List.length_take]; omega); rw [← Ny489.out] at hr21; rw [← hy21] at hcut21; have HO493 := Aside0.mk (show Kd.V (Kd.int .u8) 5 _ w.heap.size _ (.slice Ao8 y489.length co8) y489 from Kd.V_mk (by omega) hr21); have HC493 := Aside0.mk (show y489.length ≤ co8 from by omega); clear hr21 hC21 hroom21 hi021 hsz21; have KY21 := Aside0.mk hy21; clear hy21; replace q21 := eq_true q21; have hcv22 := Kd.C_string (P := Tryd.prog) (A := Ao8) (c := co8) Tryd.underlying32 Tryd.underlying5 Tryd.underlying9 (Kd.V_reads' HO493.out).2.2; have hcv23 := fun (m_ : Nat) => Kd.C_string (P := Tryd.prog) (A := Ao8) (c := co8) Tryd.underlying32 Tryd.underlying5 Tryd.underlying9 (Kd.C_drewN (Kd.V_reads' HO493.out).2.2 m_))); try go_wp2_with (first | (go_at_call 33; (with_reducible refine (snap_Put.calls t482 t485 t486 _ ?side1 A11.out).mono ?_); (case side1 => exact Tabs.below HT.out (by repeat (first | (with_reducible first | exact HB.out | apply below_alloc | apply pw_below_drewN | apply below_drew1) | exact HB.out))); rintro e w18 ⟨v487, rfl, ho0, hb⟩; have n0_ := Aside0.mk (Kd.V_elder' (by (with_reducible repeat (first | apply Kd.V_alloc | apply Kd.V_drewN | apply Kd.V_drew)); exact HO481.out) (Kd.R_base ho0) hb); have n1_ := Aside0.mk (Kd.R_lower ho0 (below_size (by repeat (first | (with_reducible first | exact HB.out | apply below_alloc | apply pw_below_drewN | apply below_drew1) | exact HB.out)))); have n2_ := Aside0.mk (below_step (by repeat (first | (with_reducible first | exact HB.out | apply below_alloc | apply pw_below_drewN | apply below_drew1) | exact HB.out)) hb); clear HO481; clear HB; have HO481 := n0_; have HO488 := n1_; have HB := n2_; clear n0_ n1_ n2_; (try clear hb); (try clear hb2); (try clear hk); (try clear hi); (try clear ho0); have hcv19 := own_string (P := Tryd.prog) Tryd.underlying32 Tryd.underlying5 Tryd.underlying9 (Kd.own_of_R HO488.out); have hcv20 := fun (m_ : Nat) => own_string (P := Tryd.prog) Tryd.underlying32 Tryd.underlying5 Tryd.underlying9 (Kd.own_of_R (Kd.R_drewN HO488.out m_)); have q21 : (t483 : Int) ≤ ((t479.length : Int) : Int) := of_decide_eq_true (by first | (with_reducible assumption) | assumption); obtain ⟨i021, hi021, _, hsz21, _⟩ := info_parts info5; have hroom21 : t479.length ≤ co8 := (Kd.V_reads' HO481.out).2.1; have hC21 : Kd.F (Kd.int .u8) _ _ Ao8 t479.length t479 := (Kd.V_at (base := w.heap.size) HO481.out).2.2; have hcut21 := cut_to (P := Tryd.prog) 32 5 .i64 Tryd.underlying32 hi021 Ao8 t479.length co8 t483 (of_decide_eq_true (by first | (with_reducible assumption) | assumption)) q21 hroom21; have hr21 := Kd.F_take (m := (t483 : Int).toNat) hC21 (by omega); have hy21 : y489.length = (t483 : Int).toNat := (by rw [Ny489.out, List.length_take]; omega); rw [← Ny489.out] at hr21; rw [← hy21] at hcut21; have HO493 := Aside0.mk (show Kd.V (Kd.int .u8) 5 _ w.heap.size _ (.slice Ao8 y489.length co8) y489 from Kd.V_mk (by omega) hr21); have HC493 := Aside0.mk (show y489.length ≤ co8 from by omega); clear hr21 hC21 hroom21 hi021 hsz21; have KY21 := Aside0.mk hy21; clear hy21; replace q21 := eq_true q21; have hcv22 := Kd.C_string (P := Tryd.prog) (A := Ao8) (c := co8) Tryd.underlying32 Tryd.underlying5 Tryd.underlying9 (Kd.V_reads' HO493.out).2.2; have hcv23 := fun (m_ : Nat) => Kd.C_string (P := Tryd.prog) (A := Ao8) (c := co8) Tryd.underlying32 Tryd.underlying5 Tryd.underlying9 (Kd.C_drewN (Kd.V_reads' HO493.out).2.2 m_))))
                  go_meet
                  case rel => exact ⟨_, H', ⟨by first | omega | exact Nat.le_refl _⟩, ⟨by (with_reducible repeat (first | apply Kd.V_alloc | apply Kd.V_drewN | apply Kd.V_drew)); exact Kd.V_mono HO481.out (fun _ hk => trivial)⟩, ⟨by repeat (first | (with_reducible first | exact HB.out | apply below_alloc | apply pw_below_drewN | apply below_drew1) | exact HB.out)⟩⟩
                · rw [if_neg c17] at H
                  have c17b0 : ((strOfNums t485).toList == (strOfNums y489).toList) = false := beq_eq_false_iff_ne.mpr c17
                  have c17b1 : ((strOfNums t485).toList != (strOfNums y489).toList) = true := bne_iff_ne.mpr c17
                  obtain rfl := Option.some.inj H
                  exact absurd HLAW.out (by decide)
              · rw [if_neg c16] at H
                exact absurd H (by simp)
            · rw [if_neg c15] at H
              exact absurd H (by simp)
      · rw [if_neg c12] at H
        have c12b0 : (t486 == 0) = false := beq_eq_false_iff_ne.mpr c12
        have c12b1 : (t486 != 0) = true := bne_iff_ne.mpr c12
        obtain rfl := Option.some.inj H
        exact absurd HLAW.out (by decide)
    · rw [if_neg c10] at H
      have c10b0 : (t484 == 0) = false := beq_eq_false_iff_ne.mpr c10
      have c10b1 : (t484 != 0) = true := bne_iff_ne.mpr c10
      (first | rw [c10b0] | (simp only [i64_w, i32_w]; rw [c10b0]) | skip)
      have H' := Aside0.mk H
      clear H
      go_wp2
      repeat (go_quiet (fail); try go_wp2)
      go_meet
      case rel => exact ⟨_, H', ⟨by first | omega | exact Nat.le_refl _⟩, ⟨by (with_reducible repeat (first | apply Kd.V_alloc | apply Kd.V_drewN | apply Kd.V_drew)); exact HO481.out⟩, ⟨by repeat (first | (with_reducible first | exact HB.out | apply below_alloc | apply pw_below_drewN | apply below_drew1) | exact HB.out)⟩⟩
  case rest =>
    clear HC5
    try clear c1
    try clear hcv1
    try clear p2
    try clear q2
    try clear hcv2
    try clear c10
    try clear c10b0
    try clear c10b1
    try clear c12
    try clear c12b0
    try clear c12b1
    try clear c13
    try clear c13b0
    try clear c14
    try clear c14b0
    try clear c15
    try clear c15b0
    try clear c15b1
    try clear c16
    try clear c16b0
    try clear c16b1
    try clear c17
    try clear c17b0
    try clear c17b1
    try clear hcv19
    try clear hcv20
    try clear q21
    try clear hcv22
    try clear hcv23
    try clear q21
    obtain ⟨kq, HA, HJ4, HO_4, HB⟩ := hcut
    cases kq with
    | zero => exact absurd HA.out (by simp [epitomelaw15_SnapTaken.j0])
    | succ kj4 =>
      have H := HA.out
      clear HA
      simp only [epitomelaw15_SnapTaken.j0] at H
      replace H := Option.bind_eq_some_iff.mp H
      obtain ⟨⟨t494, t495, t496⟩, A240, H⟩ := H
      replace H : (if t496 = 0 then ((snap_PutRow.f t494).bind fun bt499 => (epitomelaw15_SnapTaken.l0 kj4 t478 t479 t494 t495 bt499.1 bt499.2 1)) else (if t478 = true then (if (t494.length : Int) = 0 then (if t495 = 0 then (if t496 = 7 then (if t484 = 0 then (some true) else (if t482.toList = ([] : List UInt8) then (some (t483 == 0)) else (some false))) else (if t496 = 8 then (if t484 = 0 then (some true) else (if t482.toList = ([] : List UInt8) then (some (t483 == 0)) else (some false))) else (some false))) else (some false)) else (some false)) else (some false))) = some r := H
      have A24 := Aside0.mk A240
      clear A240
      by_cases c25 : t496 = 0
      · rw [if_pos c25] at H
        have c25b0 : (t496 == 0) = true := beq_iff_eq.mpr c25
        have c25b1 : (t496 != 0) = false := bne_eq_false_iff_eq.mpr c25
        clear c25
        replace H := Option.bind_eq_some_iff.mp H
        obtain ⟨⟨t499, t500⟩, A260, H⟩ := H
        replace H : (epitomelaw15_SnapTaken.l0 kj4 t478 t479 t494 t495 t499 t500 1) = some r := H
        have A26 := Aside0.mk A260
        clear A260
        have H' := Aside0.mk H
        clear H
        go_wp2_with (first | (go_at_call 29; (with_reducible refine (snap_TakeRow.calls kj4 _ _ t479 t494 t495 t496 _ ?side1 ?side2 A24.out).mono ?_); (case side1 => repeat (first | exact (Kd.V_reads' HO_4.out).2.2 | (with_reducible refine Kd.C_alloc ?_ _) | (with_reducible refine Kd.C_drewN ?_ _) | (with_reducible refine Kd.C_drew ?_))); (case side2 => exact (Kd.V_reads' HO_4.out).2.1); rintro e w27 ⟨v497, rfl, ho0, hb⟩; have n0_ := Aside0.mk (Kd.V_elder' (by (with_reducible repeat (first | apply Kd.V_alloc | apply Kd.V_drewN | apply Kd.V_drew)); exact HO_4.out) (Kd.R_base ho0) hb); have n1_ := Aside0.mk (Kd.R_lower ho0 (below_size (by repeat (first | (with_reducible first | exact HB.out | apply below_alloc | apply pw_below_drewN | apply below_drew1) | exact HB.out)))); have n2_ := Aside0.mk (below_step (by repeat (first | (with_reducible first | exact HB.out | apply below_alloc | apply pw_below_drewN | apply below_drew1) | exact HB.out)) hb); clear HO_4; clear HB; have HO_4 := n0_; have HO498 := n1_; have HB := n2_; clear n0_ n1_ n2_; (try clear hb); (try clear hb2); (try clear hk); (try clear hi); (try clear ho0); obtain ⟨Ao28, co28, eo28⟩ := Kd.R_slice HO498.out; subst eo28) | (go_at_call 26; (with_reducible refine (snap_PutRow.calls _ _ t494 t499 t500 _ ?side1 ?side2 A26.out).mono ?_); (case side1 => repeat (first | exact (Kd.R_reads' HO498.out).2.2 | (with_reducible refine Kd.C_alloc ?_ _) | (with_reducible refine Kd.C_drewN ?_ _) | (with_reducible refine Kd.C_drew ?_))); (case side2 => exact (Kd.R_reads' HO498.out).2.1); rintro e w29 ⟨v501, rfl, ho0, hb⟩; have n0_ := Aside0.mk (Kd.V_elder' (by (with_reducible repeat (first | apply Kd.V_alloc | apply Kd.V_drewN | apply Kd.V_drew)); exact HO_4.out) (Kd.R_base ho0) hb); have n1_ := Aside0.mk (Kd.R_below (by (with_reducible repeat (first | apply Kd.R_alloc | apply Kd.R_drewN | apply Kd.R_drew)); exact HO498.out) hb); have n2_ := Aside0.mk (Kd.R_lower ho0 (below_size (by repeat (first | (with_reducible first | exact HB.out | apply below_alloc | apply pw_below_drewN | apply below_drew1) | exact HB.out)))); have n3_ := Aside0.mk (below_step (by repeat (first | (with_reducible first | exact HB.out | apply below_alloc | apply pw_below_drewN | apply below_drew1) | exact HB.out)) hb); clear HO_4; clear HO498; clear HB; have HO_4 := n0_; have HO498 := n1_; have HO502 := n2_; have HB := n3_; clear n0_ n1_ n2_ n3_; (try clear hb); (try clear hb2); (try clear hk); (try clear hi); (try clear ho0)))
        repeat (go_quiet (first | (go_at_call 29; (with_reducible refine (snap_TakeRow.calls kj4 _ _ t479 t494 t495 t496 _ ?side1 ?side2 A24.out).mono ?_); (case side1 => repeat (first | exact (Kd.V_reads' HO_4.out).2.2 | (with_reducible refine Kd.C_alloc ?_ _) | (with_reducible refine Kd.C_drewN ?_ _) | (with_reducible refine Kd.C_drew ?_))); (case side2 => exact (Kd.V_reads' HO_4.out).2.1); rintro e w27 ⟨v497, rfl, ho0, hb⟩; have n0_ := Aside0.mk (Kd.V_elder' (by (with_reducible repeat (first | apply Kd.V_alloc | apply Kd.V_drewN | apply Kd.V_drew)); exact HO_4.out) (Kd.R_base ho0) hb); have n1_ := Aside0.mk (Kd.R_lower ho0 (below_size (by repeat (first | (with_reducible first | exact HB.out | apply below_alloc | apply pw_below_drewN | apply below_drew1) | exact HB.out)))); have n2_ := Aside0.mk (below_step (by repeat (first | (with_reducible first | exact HB.out | apply below_alloc | apply pw_below_drewN | apply below_drew1) | exact HB.out)) hb); clear HO_4; clear HB; have HO_4 := n0_; have HO498 := n1_; have HB := n2_; clear n0_ n1_ n2_; (try clear hb); (try clear hb2); (try clear hk); (try clear hi); (try clear ho0); obtain ⟨Ao28, co28, eo28⟩ := Kd.R_slice HO498.out; subst eo28) | (go_at_call 26; (with_reducible refine (snap_PutRow.calls _ _ t494 t499 t500 _ ?side1 ?side2 A26.out).mono ?_); (case side1 => repeat (first | exact (Kd.R_reads' HO498.out).2.2 | (with_reducible refine Kd.C_alloc ?_ _) | (with_reducible refine Kd.C_drewN ?_ _) | (with_reducible refine Kd.C_drew ?_))); (case side2 => exact (Kd.R_reads' HO498.out).2.1); rintro e w29 ⟨v501, rfl, ho0, hb⟩; have n0_ := Aside0.mk (Kd.V_elder' (by (with_reducible repeat (first | apply Kd.V_alloc | apply Kd.V_drewN | apply Kd.V_drew)); exact HO_4.out) (Kd.R_base ho0) hb); have n1_ := Aside0.mk (Kd.R_below (by (with_reducible repeat (first | apply Kd.R_alloc | apply Kd.R_drewN | apply Kd.R_drew)); exact HO498.out) hb); have n2_ := Aside0.mk (Kd.R_lower ho0 (below_size (by repeat (first | (with_reducible first | exact HB.out | apply below_alloc | apply pw_below_drewN | apply below_drew1) | exact HB.out)))); have n3_ := Aside0.mk (below_step (by repeat (first | (with_reducible first | exact HB.out | apply below_alloc | apply pw_below_drewN | apply below_drew1) | exact HB.out)) hb); clear HO_4; clear HO498; clear HB; have HO_4 := n0_; have HO498 := n1_; have HO502 := n2_; have HB := n3_; clear n0_ n1_ n2_ n3_; (try clear hb); (try clear hb2); (try clear hk); (try clear hi); (try clear ho0))); try go_wp2_with (first | (go_at_call 29; (with_reducible refine (snap_TakeRow.calls kj4 _ _ t479 t494 t495 t496 _ ?side1 ?side2 A24.out).mono ?_); (case side1 => repeat (first | exact (Kd.V_reads' HO_4.out).2.2 | (with_reducible refine Kd.C_alloc ?_ _) | (with_reducible refine Kd.C_drewN ?_ _) | (with_reducible refine Kd.C_drew ?_))); (case side2 => exact (Kd.V_reads' HO_4.out).2.1); rintro e w27 ⟨v497, rfl, ho0, hb⟩; have n0_ := Aside0.mk (Kd.V_elder' (by (with_reducible repeat (first | apply Kd.V_alloc | apply Kd.V_drewN | apply Kd.V_drew)); exact HO_4.out) (Kd.R_base ho0) hb); have n1_ := Aside0.mk (Kd.R_lower ho0 (below_size (by repeat (first | (with_reducible first | exact HB.out | apply below_alloc | apply pw_below_drewN | apply below_drew1) | exact HB.out)))); have n2_ := Aside0.mk (below_step (by repeat (first | (with_reducible first | exact HB.out | apply below_alloc | apply pw_below_drewN | apply below_drew1) | exact HB.out)) hb); clear HO_4; clear HB; have HO_4 := n0_; have HO498 := n1_; have HB := n2_; clear n0_ n1_ n2_; (try clear hb); (try clear hb2); (try clear hk); (try clear hi); (try clear ho0); obtain ⟨Ao28, co28, eo28⟩ := Kd.R_slice HO498.out; subst eo28) | (go_at_call 26; (with_reducible refine (snap_PutRow.calls _ _ t494 t499 t500 _ ?side1 ?side2 A26.out).mono ?_); (case side1 => repeat (first | exact (Kd.R_reads' HO498.out).2.2 | (with_reducible refine Kd.C_alloc ?_ _) | (with_reducible refine Kd.C_drewN ?_ _) | (with_reducible refine Kd.C_drew ?_))); (case side2 => exact (Kd.R_reads' HO498.out).2.1); rintro e w29 ⟨v501, rfl, ho0, hb⟩; have n0_ := Aside0.mk (Kd.V_elder' (by (with_reducible repeat (first | apply Kd.V_alloc | apply Kd.V_drewN | apply Kd.V_drew)); exact HO_4.out) (Kd.R_base ho0) hb); have n1_ := Aside0.mk (Kd.R_below (by (with_reducible repeat (first | apply Kd.R_alloc | apply Kd.R_drewN | apply Kd.R_drew)); exact HO498.out) hb); have n2_ := Aside0.mk (Kd.R_lower ho0 (below_size (by repeat (first | (with_reducible first | exact HB.out | apply below_alloc | apply pw_below_drewN | apply below_drew1) | exact HB.out)))); have n3_ := Aside0.mk (below_step (by repeat (first | (with_reducible first | exact HB.out | apply below_alloc | apply pw_below_drewN | apply below_drew1) | exact HB.out)) hb); clear HO_4; clear HO498; clear HB; have HO_4 := n0_; have HO498 := n1_; have HO502 := n2_; have HB := n3_; clear n0_ n1_ n2_ n3_; (try clear hb); (try clear hb2); (try clear hk); (try clear hi); (try clear ho0))))
        go_loopg [15] kj4 (fun kq v15 w' => ∃ (x15_2 : Int), v15 = .int .i64 x15_2 ∧ Aside0 (epitomelaw15_SnapTaken.l0 kq t478 t479 t494 t495 t499 t500 x15_2 = some r) ∧ Aside0 (kq ≤ kj4) ∧ Aside0 (Kd.V (Kd.int .u8) 5 w' w.heap.size (fun k_ => some k_ ≠ ((.slice Ao28 t494.length co28) : Value).ownBlock ∧ some k_ ≠ (v501 : Value).ownBlock) (.slice Ao8 t479.length co8) t479) ∧ Aside0 (Kd.R (Kd.int .i64) 3 w' w.heap.size (fun _ => True) (.slice Ao28 t494.length co28) t494) ∧ Aside0 (Kd.R (Kd.int .u8) 5 w' w.heap.size (fun _ => True) v501 t499) ∧ Aside0 (Below w.heap.size w w'))
        case atStart => exact ⟨(1), (by first | rfl | (simp; done) | (simp [*]; done)), H', ⟨Nat.le_refl _⟩, ⟨by (with_reducible repeat (first | apply Kd.V_alloc | apply Kd.V_drewN | apply Kd.V_drew)); exact Kd.V_mono HO_4.out (fun _ hk => ⟨hk.1.2, hk.2⟩)⟩, ⟨by (with_reducible repeat (first | apply Kd.R_alloc | apply Kd.R_drewN | apply Kd.R_drew)); exact HO498.out⟩, ⟨by (with_reducible repeat (first | apply Kd.R_alloc | apply Kd.R_drewN | apply Kd.R_drew)); exact HO502.out⟩, ⟨by repeat (first | (with_reducible first | exact HB.out | apply below_alloc | apply pw_below_drewN | apply below_drew1) | exact HB.out)⟩⟩
        case round =>
          clear H'
          try clear c1
          try clear hcv1
          try clear c2
          try clear p2
          try clear q2
          try clear hcv2
          try clear c10
          try clear c10b0
          try clear c10b1
          try clear c12
          try clear c12b0
          try clear c12b1
          try clear c13
          try clear c13b0
          try clear c14
          try clear c14b0
          try clear c15
          try clear c15b0
          try clear c15b1
          try clear c16
          try clear c16b0
          try clear c16b1
          try clear c17
          try clear c17b0
          try clear c17b1
          try clear hcv19
          try clear hcv20
          try clear q21
          try clear hcv22
          try clear hcv23
          try clear c25
          try clear c25b0
          try clear c25b1
          try clear p2
          try clear q2
          try clear q21
          obtain ⟨x15_2, rfl, HA, HK2, HO_4, HO_10, HO_13, HB⟩ := hrel
          cases gk with
          | zero => exact absurd HA.out (by simp [epitomelaw15_SnapTaken.l0])
          | succ k2 =>
            have H := HA.out
            clear HA
            simp only [epitomelaw15_SnapTaken.l0] at H
            by_cases c30 : x15_2 < (t494.length : Int)
            · rw [if_pos c30] at H
              have c30b0 : decide (x15_2 < (t494.length : Int)) = true := decide_eq_true c30
              clear c30
              obtain ⟨ji31, hji31⟩ : ∃ j_ : Int, (wrap64 (x15_2 - 1)) = j_ := ⟨_, rfl⟩
              replace H : (if 0 ≤ (ji31) then (if (ji31) < (t494.length : Int) then (if 0 ≤ x15_2 then (if (rd t494 (ji31)) ≥ (rd t494 x15_2) then (some false) else (epitomelaw15_SnapTaken.l0 k2 t478 t479 t494 t495 t499 t500 (wrap64 (x15_2 + 1)))) else (none)) else (none)) else (none)) = some r := by first | (rw [hji31] at H; exact H) | (simp only [hji31] at H ⊢; exact H)
              have hji31w : (IntKind.i64.wrap (x15_2 - 1)) = ji31 := (i64_w _).trans hji31
              by_cases c32 : 0 ≤ (ji31)
              · rw [if_pos c32] at H
                have c32b0 : decide (0 ≤ (ji31)) = true := decide_eq_true c32
                clear c32
                by_cases c33 : (ji31) < (t494.length : Int)
                · rw [if_pos c33] at H
                  have c33b0 : decide ((ji31) < (t494.length : Int)) = true := decide_eq_true c33
                  clear c33
                  by_cases c34 : 0 ≤ x15_2
                  · rw [if_pos c34] at H
                    have c34b0 : decide (0 ≤ x15_2) = true := decide_eq_true c34
                    clear c34
                    by_cases c35 : (rd t494 (ji31)) ≥ (rd t494 x15_2)
                    · rw [if_pos c35] at H
                      have c35b0 : decide ((rd t494 x15_2) ≤ (rd t494 (ji31))) = true := decide_eq_true c35
                      clear c35
                      obtain rfl := Option.some.inj H
                      exact absurd HLAW.out (by decide)
                    · rw [if_neg c35] at H
                      have c35b0 : decide ((rd t494 x15_2) ≤ (rd t494 (ji31))) = false := decide_eq_false c35
                      clear c35
                      have H' := Aside0.mk H
                      clear H
                      have p503 : 0 ≤ ((ji31) : Int) := of_decide_eq_true (by first | (with_reducible assumption) | assumption)
                      have q503 : (ji31) < (t494.length : Int) := of_decide_eq_true (by first | (with_reducible assumption) | assumption)
                      obtain ⟨ad503, e503, hx503_0⟩ := Kd.at_int (Kd.R_reads' HO_10.out).2.2 (ji31) p503 q503
                      cases e503
                      replace p503 := eq_true p503
                      replace q503 := eq_true q503
                      have p504 : 0 ≤ (x15_2 : Int) := of_decide_eq_true (by first | (with_reducible assumption) | assumption)
                      have q504 : x15_2 < (t494.length : Int) := of_decide_eq_true (by first | (with_reducible assumption) | assumption)
                      obtain ⟨ad504, e504, hx504_0⟩ := Kd.at_int (Kd.R_reads' HO_10.out).2.2 x15_2 p504 q504
                      obtain rfl : ad503 = ad504 := (by injection e504)
                      replace p504 := eq_true p504
                      replace q504 := eq_true q504
                      go_wp2
                      repeat (go_quiet (fail); try go_wp2)
                      go_roundg k2
                      case measure => have := HJ4.out; have := HK2.out; omega
                      case rel => exact ⟨(wrap64 (x15_2 + 1)), (by first | rfl | (simp; done) | (simp [*]; done)), H', ⟨by have := HJ4.out; have := HK2.out; omega⟩, ⟨by (with_reducible repeat (first | apply Kd.V_alloc | apply Kd.V_drewN | apply Kd.V_drew)); exact HO_4.out⟩, ⟨by (with_reducible repeat (first | apply Kd.R_alloc | apply Kd.R_drewN | apply Kd.R_drew)); exact HO_10.out⟩, ⟨by (with_reducible repeat (first | apply Kd.R_alloc | apply Kd.R_drewN | apply Kd.R_drew)); exact HO_13.out⟩, ⟨by repeat (first | (with_reducible first | exact HB.out | apply below_alloc | apply pw_below_drewN | apply below_drew1) | exact HB.out)⟩⟩
                  · rw [if_neg c34] at H
                    exact absurd H (by simp)
                · rw [if_neg c33] at H
                  exact absurd H (by simp)
              · rw [if_neg c32] at H
                exact absurd H (by simp)
            · rw [if_neg c30] at H
              have c30b0 : decide (x15_2 < (t494.length : Int)) = false := decide_eq_false c30
              clear c30
              by_cases c36 : t478 = true
              · subst c36
                have H1 : (if t500 = 0 then (if t495 ≥ 1 then (if t495 ≤ (t479.length : Int) then (if 0 ≤ t495 then (if (strOfNums t499).toList = (strOfNums (t479.take (t495 : Int).toNat)).toList then (some (decide ((t494.length : Int) > 0))) else (some false)) else (none)) else (some false)) else (some false)) else (some false)) = some r := by rw [if_pos rfl] at H; exact H
                clear H
                have H := H1
                clear H1
                by_cases c37 : t500 = 0
                · rw [if_pos c37] at H
                  have c37b0 : (t500 == 0) = true := beq_iff_eq.mpr c37
                  have c37b1 : (t500 != 0) = false := bne_eq_false_iff_eq.mpr c37
                  clear c37
                  by_cases c38 : t495 ≥ 1
                  · rw [if_pos c38] at H
                    have c38b0 : decide (1 ≤ t495) = true := decide_eq_true c38
                    clear c38
                    by_cases c39 : t495 ≤ (t479.length : Int)
                    · rw [if_pos c39] at H
                      have c39b0 : decide (t495 ≤ (t479.length : Int)) = true := decide_eq_true c39
                      clear c39
                      by_cases c40 : 0 ≤ t495
                      · rw [if_pos c40] at H
                        have c40b0 := eq_true c40
                        have c40b1 : decide (0 ≤ t495) = true := decide_eq_true c40
                        clear c40
                        have c41b0 := eq_true (of_decide_eq_true (by first | (with_reducible assumption) | assumption) : t495 ≤ (t479.length : Int))
                        obtain ⟨y505, hy505⟩ : ∃ y_ : List Int, y_ = (t479.take (t495 : Int).toNat) := ⟨_, rfl⟩
                        replace H : (if (strOfNums t499).toList = (strOfNums y505).toList then (some (decide ((t494.length : Int) > 0))) else (some false)) = some r := by first | (rw [hy505]; with_reducible exact H) | (have H2_ := (Option.bind_some _ _).symm.trans H; rw [hy505]; with_reducible exact H2_) | (have H2_ := (Option.bind_some _ _).symm.trans H; with_reducible exact H2_) | with_reducible exact H | (rw [hy505]; exact H) | exact H
                        have Ny505 := Aside0.mk hy505
                        clear hy505
                        by_cases c42 : (strOfNums t499).toList = (strOfNums y505).toList
                        · rw [if_pos c42] at H
                          have c42b0 : ((strOfNums t499).toList == (strOfNums y505).toList) = true := beq_iff_eq.mpr c42
                          have c42b1 : ((strOfNums t499).toList != (strOfNums y505).toList) = false := bne_eq_false_iff_eq.mpr c42
                          clear c42
                          obtain rfl := Option.some.inj H
                          simp only [Option.some.injEq, Prod.mk.injEq] at H
                          obtain ⟨rfl⟩ := H
                          have hcv43 := own_string (P := Tryd.prog) Tryd.underlying32 Tryd.underlying5 Tryd.underlying9 (Kd.own_of_R HO_13.out)
                          have hcv44 := fun (m_ : Nat) => own_string (P := Tryd.prog) Tryd.underlying32 Tryd.underlying5 Tryd.underlying9 (Kd.own_of_R (Kd.R_drewN HO_13.out m_))
                          have q45 : (t495 : Int) ≤ ((t479.length : Int) : Int) := of_decide_eq_true (by first | (with_reducible assumption) | assumption)
                          obtain ⟨i045, hi045, _, hsz45, _⟩ := info_parts info5
                          have hroom45 : t479.length ≤ co8 := (Kd.V_reads' HO_4.out).2.1
                          have hC45 : Kd.F (Kd.int .u8) _ _ Ao8 t479.length t479 := (Kd.V_at (base := w.heap.size) HO_4.out).2.2
                          have hcut45 := cut_to (P := Tryd.prog) 32 5 .i64 Tryd.underlying32 hi045 Ao8 t479.length co8 t495 (of_decide_eq_true (by first | (with_reducible assumption) | assumption)) q45 hroom45
                          have hr45 := Kd.F_take (m := (t495 : Int).toNat) hC45 (by omega)
                          have hy45 : y505.length = (t495 : Int).toNat := (by rw [Ny505.out, List.length_take]; omega)
                          rw [← Ny505.out] at hr45
                          rw [← hy45] at hcut45
                          have HO509 := Aside0.mk (show Kd.V (Kd.int .u8) 5 _ w.heap.size _ (.slice Ao8 y505.length co8) y505 from Kd.V_mk (by omega) hr45)
                          have HC509 := Aside0.mk (show y505.length ≤ co8 from by omega)
                          clear hr45 hC45 hroom45 hi045 hsz45
                          have KY45 := Aside0.mk hy45
                          clear hy45
                          replace q45 := eq_true q45
                          have hcv46 := Kd.C_string (P := Tryd.prog) (A := Ao8) (c := co8) Tryd.underlying32 Tryd.underlying5 Tryd.underlying9 (Kd.V_reads' HO509.out).2.2
                          have hcv47 := fun (m_ : Nat) => Kd.C_string (P := Tryd.prog) (A := Ao8) (c := co8) Tryd.underlying32 Tryd.underlying5 Tryd.underlying9 (Kd.C_drewN (Kd.V_reads' HO509.out).2.2 m_)
                          go_wp2
                          repeat (go_quiet (fail); try go_wp2)
                          go_ret
                          exact ⟨by first | rfl | (simp [errW_none, errW_some] <;> rfl) | (simp [*, errW_none, errW_some] <;> rfl), by repeat (first | (with_reducible first | exact HB.out | apply below_alloc | apply pw_below_drewN | apply below_drew1) | exact HB.out)⟩
                        · rw [if_neg c42] at H
                          have c42b0 : ((strOfNums t499).toList == (strOfNums y505).toList) = false := beq_eq_false_iff_ne.mpr c42
                          have c42b1 : ((strOfNums t499).toList != (strOfNums y505).toList) = true := bne_iff_ne.mpr c42
                          obtain rfl := Option.some.inj H
                          exact absurd HLAW.out (by decide)
                      · rw [if_neg c40] at H
                        exact absurd H (by simp)
                    · rw [if_neg c39] at H
                      have c39b0 : decide (t495 ≤ (t479.length : Int)) = false := decide_eq_false c39
                      clear c39
                      obtain rfl := Option.some.inj H
                      exact absurd HLAW.out (by decide)
                  · rw [if_neg c38] at H
                    have c38b0 : decide (1 ≤ t495) = false := decide_eq_false c38
                    clear c38
                    obtain rfl := Option.some.inj H
                    exact absurd HLAW.out (by decide)
                · rw [if_neg c37] at H
                  have c37b0 : (t500 == 0) = false := beq_eq_false_iff_ne.mpr c37
                  have c37b1 : (t500 != 0) = true := bne_iff_ne.mpr c37
                  obtain rfl := Option.some.inj H
                  exact absurd HLAW.out (by decide)
              · replace c36 := Bool.eq_false_iff.mpr c36
                subst c36
                have H1 : (some false) = some r := by rw [if_neg (show ¬ (false = true) by decide)] at H; exact H
                clear H
                have H := H1
                clear H1
                obtain rfl := Option.some.inj H
                exact absurd HLAW.out (by decide)
      · rw [if_neg c25] at H
        have c25b0 : (t496 == 0) = false := beq_eq_false_iff_ne.mpr c25
        have c25b1 : (t496 != 0) = true := bne_iff_ne.mpr c25
        by_cases c48 : t478 = true
        · subst c48
          have H1 : (if (t494.length : Int) = 0 then (if t495 = 0 then (if t496 = 7 then (if t484 = 0 then (some true) else (if t482.toList = ([] : List UInt8) then (some (t483 == 0)) else (some false))) else (if t496 = 8 then (if t484 = 0 then (some true) else (if t482.toList = ([] : List UInt8) then (some (t483 == 0)) else (some false))) else (some false))) else (some false)) else (some false)) = some r := by rw [if_pos rfl] at H; exact H
          clear H
          have H := H1
          clear H1
          by_cases c49 : (t494.length : Int) = 0
          · rw [if_pos c49] at H
            have c49b0 : ((t494.length : Int) == 0) = true := beq_iff_eq.mpr c49
            have c49b1 : ((t494.length : Int) != 0) = false := bne_eq_false_iff_eq.mpr c49
            clear c49
            by_cases c50 : t495 = 0
            · rw [if_pos c50] at H
              have c50b0 : (t495 == 0) = true := beq_iff_eq.mpr c50
              have c50b1 : (t495 != 0) = false := bne_eq_false_iff_eq.mpr c50
              clear c50
              by_cases c51 : t496 = 7
              · rw [if_pos c51] at H
                have c51b0 : (t496 == 7) = true := beq_iff_eq.mpr c51
                have c51b1 : (t496 != 7) = false := bne_eq_false_iff_eq.mpr c51
                clear c51
                by_cases c52 : t484 = 0
                · rw [if_pos c52] at H
                  have c52b0 : (t484 == 0) = true := beq_iff_eq.mpr c52
                  have c52b1 : (t484 != 0) = false := bne_eq_false_iff_eq.mpr c52
                  clear c52
                  obtain rfl := Option.some.inj H
                  simp only [Option.some.injEq, Prod.mk.injEq] at H
                  obtain ⟨rfl⟩ := H
                  go_wp2_with (first | (go_at_call 29; (with_reducible refine (snap_TakeRow.calls kj4 _ _ t479 t494 t495 t496 _ ?side1 ?side2 A24.out).mono ?_); (case side1 => repeat (first | exact (Kd.V_reads' HO_4.out).2.2 | (with_reducible refine Kd.C_alloc ?_ _) | (with_reducible refine Kd.C_drewN ?_ _) | (with_reducible refine Kd.C_drew ?_))); (case side2 => exact (Kd.V_reads' HO_4.out).2.1); rintro e w53 ⟨v497, rfl, ho0, hb⟩; have n0_ := Aside0.mk (Kd.V_elder' (by (with_reducible repeat (first | apply Kd.V_alloc | apply Kd.V_drewN | apply Kd.V_drew)); exact HO_4.out) (Kd.R_base ho0) hb); have n1_ := Aside0.mk (Kd.R_lower ho0 (below_size (by repeat (first | (with_reducible first | exact HB.out | apply below_alloc | apply pw_below_drewN | apply below_drew1) | exact HB.out)))); have n2_ := Aside0.mk (below_step (by repeat (first | (with_reducible first | exact HB.out | apply below_alloc | apply pw_below_drewN | apply below_drew1) | exact HB.out)) hb); clear HO_4; clear HB; have HO_4 := n0_; have HO498 := n1_; have HB := n2_; clear n0_ n1_ n2_; (try clear hb); (try clear hb2); (try clear hk); (try clear hi); (try clear ho0); obtain ⟨Ao54, co54, eo54⟩ := Kd.R_slice HO498.out; subst eo54))
                  repeat (go_quiet (first | (go_at_call 29; (with_reducible refine (snap_TakeRow.calls kj4 _ _ t479 t494 t495 t496 _ ?side1 ?side2 A24.out).mono ?_); (case side1 => repeat (first | exact (Kd.V_reads' HO_4.out).2.2 | (with_reducible refine Kd.C_alloc ?_ _) | (with_reducible refine Kd.C_drewN ?_ _) | (with_reducible refine Kd.C_drew ?_))); (case side2 => exact (Kd.V_reads' HO_4.out).2.1); rintro e w53 ⟨v497, rfl, ho0, hb⟩; have n0_ := Aside0.mk (Kd.V_elder' (by (with_reducible repeat (first | apply Kd.V_alloc | apply Kd.V_drewN | apply Kd.V_drew)); exact HO_4.out) (Kd.R_base ho0) hb); have n1_ := Aside0.mk (Kd.R_lower ho0 (below_size (by repeat (first | (with_reducible first | exact HB.out | apply below_alloc | apply pw_below_drewN | apply below_drew1) | exact HB.out)))); have n2_ := Aside0.mk (below_step (by repeat (first | (with_reducible first | exact HB.out | apply below_alloc | apply pw_below_drewN | apply below_drew1) | exact HB.out)) hb); clear HO_4; clear HB; have HO_4 := n0_; have HO498 := n1_; have HB := n2_; clear n0_ n1_ n2_; (try clear hb); (try clear hb2); (try clear hk); (try clear hi); (try clear ho0); obtain ⟨Ao54, co54, eo54⟩ := Kd.R_slice HO498.out; subst eo54)); try go_wp2_with (first | (go_at_call 29; (with_reducible refine (snap_TakeRow.calls kj4 _ _ t479 t494 t495 t496 _ ?side1 ?side2 A24.out).mono ?_); (case side1 => repeat (first | exact (Kd.V_reads' HO_4.out).2.2 | (with_reducible refine Kd.C_alloc ?_ _) | (with_reducible refine Kd.C_drewN ?_ _) | (with_reducible refine Kd.C_drew ?_))); (case side2 => exact (Kd.V_reads' HO_4.out).2.1); rintro e w53 ⟨v497, rfl, ho0, hb⟩; have n0_ := Aside0.mk (Kd.V_elder' (by (with_reducible repeat (first | apply Kd.V_alloc | apply Kd.V_drewN | apply Kd.V_drew)); exact HO_4.out) (Kd.R_base ho0) hb); have n1_ := Aside0.mk (Kd.R_lower ho0 (below_size (by repeat (first | (with_reducible first | exact HB.out | apply below_alloc | apply pw_below_drewN | apply below_drew1) | exact HB.out)))); have n2_ := Aside0.mk (below_step (by repeat (first | (with_reducible first | exact HB.out | apply below_alloc | apply pw_below_drewN | apply below_drew1) | exact HB.out)) hb); clear HO_4; clear HB; have HO_4 := n0_; have HO498 := n1_; have HB := n2_; clear n0_ n1_ n2_; (try clear hb); (try clear hb2); (try clear hk); (try clear hi); (try clear ho0); obtain ⟨Ao54, co54, eo54⟩ := Kd.R_slice HO498.out; subst eo54)))
                  go_ret
                  exact ⟨by first | rfl | (simp [errW_none, errW_some] <;> rfl) | (simp [*, errW_none, errW_some] <;> rfl), by repeat (first | (with_reducible first | exact HB.out | apply below_alloc | apply pw_below_drewN | apply below_drew1) | exact HB.out)⟩
                · rw [if_neg c52] at H
                  have c52b0 : (t484 == 0) = false := beq_eq_false_iff_ne.mpr c52
                  have c52b1 : (t484 != 0) = true := bne_iff_ne.mpr c52
                  by_cases c55 : t482.toList = ([] : List UInt8)
                  · rw [if_pos c55] at H
                    have c55b0 : (t482.toList == ([] : List UInt8)) = true := beq_iff_eq.mpr c55
                    have c55b1 : (t482.toList != ([] : List UInt8)) = false := bne_eq_false_iff_eq.mpr c55
                    clear c55
                    obtain rfl := Option.some.inj H
                    simp only [Option.some.injEq, Prod.mk.injEq] at H
                    obtain ⟨rfl⟩ := H
                    go_wp2_with (first | (go_at_call 29; (with_reducible refine (snap_TakeRow.calls kj4 _ _ t479 t494 t495 t496 _ ?side1 ?side2 A24.out).mono ?_); (case side1 => repeat (first | exact (Kd.V_reads' HO_4.out).2.2 | (with_reducible refine Kd.C_alloc ?_ _) | (with_reducible refine Kd.C_drewN ?_ _) | (with_reducible refine Kd.C_drew ?_))); (case side2 => exact (Kd.V_reads' HO_4.out).2.1); rintro e w56 ⟨v497, rfl, ho0, hb⟩; have n0_ := Aside0.mk (Kd.V_elder' (by (with_reducible repeat (first | apply Kd.V_alloc | apply Kd.V_drewN | apply Kd.V_drew)); exact HO_4.out) (Kd.R_base ho0) hb); have n1_ := Aside0.mk (Kd.R_lower ho0 (below_size (by repeat (first | (with_reducible first | exact HB.out | apply below_alloc | apply pw_below_drewN | apply below_drew1) | exact HB.out)))); have n2_ := Aside0.mk (below_step (by repeat (first | (with_reducible first | exact HB.out | apply below_alloc | apply pw_below_drewN | apply below_drew1) | exact HB.out)) hb); clear HO_4; clear HB; have HO_4 := n0_; have HO498 := n1_; have HB := n2_; clear n0_ n1_ n2_; (try clear hb); (try clear hb2); (try clear hk); (try clear hi); (try clear ho0); obtain ⟨Ao57, co57, eo57⟩ := Kd.R_slice HO498.out; subst eo57))
                    repeat (go_quiet (first | (go_at_call 29; (with_reducible refine (snap_TakeRow.calls kj4 _ _ t479 t494 t495 t496 _ ?side1 ?side2 A24.out).mono ?_); (case side1 => repeat (first | exact (Kd.V_reads' HO_4.out).2.2 | (with_reducible refine Kd.C_alloc ?_ _) | (with_reducible refine Kd.C_drewN ?_ _) | (with_reducible refine Kd.C_drew ?_))); (case side2 => exact (Kd.V_reads' HO_4.out).2.1); rintro e w56 ⟨v497, rfl, ho0, hb⟩; have n0_ := Aside0.mk (Kd.V_elder' (by (with_reducible repeat (first | apply Kd.V_alloc | apply Kd.V_drewN | apply Kd.V_drew)); exact HO_4.out) (Kd.R_base ho0) hb); have n1_ := Aside0.mk (Kd.R_lower ho0 (below_size (by repeat (first | (with_reducible first | exact HB.out | apply below_alloc | apply pw_below_drewN | apply below_drew1) | exact HB.out)))); have n2_ := Aside0.mk (below_step (by repeat (first | (with_reducible first | exact HB.out | apply below_alloc | apply pw_below_drewN | apply below_drew1) | exact HB.out)) hb); clear HO_4; clear HB; have HO_4 := n0_; have HO498 := n1_; have HB := n2_; clear n0_ n1_ n2_; (try clear hb); (try clear hb2); (try clear hk); (try clear hi); (try clear ho0); obtain ⟨Ao57, co57, eo57⟩ := Kd.R_slice HO498.out; subst eo57)); try go_wp2_with (first | (go_at_call 29; (with_reducible refine (snap_TakeRow.calls kj4 _ _ t479 t494 t495 t496 _ ?side1 ?side2 A24.out).mono ?_); (case side1 => repeat (first | exact (Kd.V_reads' HO_4.out).2.2 | (with_reducible refine Kd.C_alloc ?_ _) | (with_reducible refine Kd.C_drewN ?_ _) | (with_reducible refine Kd.C_drew ?_))); (case side2 => exact (Kd.V_reads' HO_4.out).2.1); rintro e w56 ⟨v497, rfl, ho0, hb⟩; have n0_ := Aside0.mk (Kd.V_elder' (by (with_reducible repeat (first | apply Kd.V_alloc | apply Kd.V_drewN | apply Kd.V_drew)); exact HO_4.out) (Kd.R_base ho0) hb); have n1_ := Aside0.mk (Kd.R_lower ho0 (below_size (by repeat (first | (with_reducible first | exact HB.out | apply below_alloc | apply pw_below_drewN | apply below_drew1) | exact HB.out)))); have n2_ := Aside0.mk (below_step (by repeat (first | (with_reducible first | exact HB.out | apply below_alloc | apply pw_below_drewN | apply below_drew1) | exact HB.out)) hb); clear HO_4; clear HB; have HO_4 := n0_; have HO498 := n1_; have HB := n2_; clear n0_ n1_ n2_; (try clear hb); (try clear hb2); (try clear hk); (try clear hi); (try clear ho0); obtain ⟨Ao57, co57, eo57⟩ := Kd.R_slice HO498.out; subst eo57)))
                    go_ret
                    exact ⟨by first | rfl | (simp [errW_none, errW_some] <;> rfl) | (simp [*, errW_none, errW_some] <;> rfl), by repeat (first | (with_reducible first | exact HB.out | apply below_alloc | apply pw_below_drewN | apply below_drew1) | exact HB.out)⟩
                  · rw [if_neg c55] at H
                    have c55b0 : (t482.toList == ([] : List UInt8)) = false := beq_eq_false_iff_ne.mpr c55
                    have c55b1 : (t482.toList != ([] : List UInt8)) = true := bne_iff_ne.mpr c55
                    obtain rfl := Option.some.inj H
                    exact absurd HLAW.out (by decide)
              · rw [if_neg c51] at H
                have c51b0 : (t496 == 7) = false := beq_eq_false_iff_ne.mpr c51
                have c51b1 : (t496 != 7) = true := bne_iff_ne.mpr c51
                by_cases c58 : t496 = 8
                · rw [if_pos c58] at H
                  have c58b0 : (t496 == 8) = true := beq_iff_eq.mpr c58
                  have c58b1 : (t496 != 8) = false := bne_eq_false_iff_eq.mpr c58
                  clear c58
                  by_cases c59 : t484 = 0
                  · rw [if_pos c59] at H
                    have c59b0 : (t484 == 0) = true := beq_iff_eq.mpr c59
                    have c59b1 : (t484 != 0) = false := bne_eq_false_iff_eq.mpr c59
                    clear c59
                    obtain rfl := Option.some.inj H
                    simp only [Option.some.injEq, Prod.mk.injEq] at H
                    obtain ⟨rfl⟩ := H
                    go_wp2_with (first | (go_at_call 29; (with_reducible refine (snap_TakeRow.calls kj4 _ _ t479 t494 t495 t496 _ ?side1 ?side2 A24.out).mono ?_); (case side1 => repeat (first | exact (Kd.V_reads' HO_4.out).2.2 | (with_reducible refine Kd.C_alloc ?_ _) | (with_reducible refine Kd.C_drewN ?_ _) | (with_reducible refine Kd.C_drew ?_))); (case side2 => exact (Kd.V_reads' HO_4.out).2.1); rintro e w60 ⟨v497, rfl, ho0, hb⟩; have n0_ := Aside0.mk (Kd.V_elder' (by (with_reducible repeat (first | apply Kd.V_alloc | apply Kd.V_drewN | apply Kd.V_drew)); exact HO_4.out) (Kd.R_base ho0) hb); have n1_ := Aside0.mk (Kd.R_lower ho0 (below_size (by repeat (first | (with_reducible first | exact HB.out | apply below_alloc | apply pw_below_drewN | apply below_drew1) | exact HB.out)))); have n2_ := Aside0.mk (below_step (by repeat (first | (with_reducible first | exact HB.out | apply below_alloc | apply pw_below_drewN | apply below_drew1) | exact HB.out)) hb); clear HO_4; clear HB; have HO_4 := n0_; have HO498 := n1_; have HB := n2_; clear n0_ n1_ n2_; (try clear hb); (try clear hb2); (try clear hk); (try clear hi); (try clear ho0); obtain ⟨Ao61, co61, eo61⟩ := Kd.R_slice HO498.out; subst eo61))
                    repeat (go_quiet (first | (go_at_call 29; (with_reducible refine (snap_TakeRow.calls kj4 _ _ t479 t494 t495 t496 _ ?side1 ?side2 A24.out).mono ?_); (case side1 => repeat (first | exact (Kd.V_reads' HO_4.out).2.2 | (with_reducible refine Kd.C_alloc ?_ _) | (with_reducible refine Kd.C_drewN ?_ _) | (with_reducible refine Kd.C_drew ?_))); (case side2 => exact (Kd.V_reads' HO_4.out).2.1); rintro e w60 ⟨v497, rfl, ho0, hb⟩; have n0_ := Aside0.mk (Kd.V_elder' (by (with_reducible repeat (first | apply Kd.V_alloc | apply Kd.V_drewN | apply Kd.V_drew)); exact HO_4.out) (Kd.R_base ho0) hb); have n1_ := Aside0.mk (Kd.R_lower ho0 (below_size (by repeat (first | (with_reducible first | exact HB.out | apply below_alloc | apply pw_below_drewN | apply below_drew1) | exact HB.out)))); have n2_ := Aside0.mk (below_step (by repeat (first | (with_reducible first | exact HB.out | apply below_alloc | apply pw_below_drewN | apply below_drew1) | exact HB.out)) hb); clear HO_4; clear HB; have HO_4 := n0_; have HO498 := n1_; have HB := n2_; clear n0_ n1_ n2_; (try clear hb); (try clear hb2); (try clear hk); (try clear hi); (try clear ho0); obtain ⟨Ao61, co61, eo61⟩ := Kd.R_slice HO498.out; subst eo61)); try go_wp2_with (first | (go_at_call 29; (with_reducible refine (snap_TakeRow.calls kj4 _ _ t479 t494 t495 t496 _ ?side1 ?side2 A24.out).mono ?_); (case side1 => repeat (first | exact (Kd.V_reads' HO_4.out).2.2 | (with_reducible refine Kd.C_alloc ?_ _) | (with_reducible refine Kd.C_drewN ?_ _) | (with_reducible refine Kd.C_drew ?_))); (case side2 => exact (Kd.V_reads' HO_4.out).2.1); rintro e w60 ⟨v497, rfl, ho0, hb⟩; have n0_ := Aside0.mk (Kd.V_elder' (by (with_reducible repeat (first | apply Kd.V_alloc | apply Kd.V_drewN | apply Kd.V_drew)); exact HO_4.out) (Kd.R_base ho0) hb); have n1_ := Aside0.mk (Kd.R_lower ho0 (below_size (by repeat (first | (with_reducible first | exact HB.out | apply below_alloc | apply pw_below_drewN | apply below_drew1) | exact HB.out)))); have n2_ := Aside0.mk (below_step (by repeat (first | (with_reducible first | exact HB.out | apply below_alloc | apply pw_below_drewN | apply below_drew1) | exact HB.out)) hb); clear HO_4; clear HB; have HO_4 := n0_; have HO498 := n1_; have HB := n2_; clear n0_ n1_ n2_; (try clear hb); (try clear hb2); (try clear hk); (try clear hi); (try clear ho0); obtain ⟨Ao61, co61, eo61⟩ := Kd.R_slice HO498.out; subst eo61)))
                    go_ret
                    exact ⟨by first | rfl | (simp [errW_none, errW_some] <;> rfl) | (simp [*, errW_none, errW_some] <;> rfl), by repeat (first | (with_reducible first | exact HB.out | apply below_alloc | apply pw_below_drewN | apply below_drew1) | exact HB.out)⟩
                  · rw [if_neg c59] at H
                    have c59b0 : (t484 == 0) = false := beq_eq_false_iff_ne.mpr c59
                    have c59b1 : (t484 != 0) = true := bne_iff_ne.mpr c59
                    by_cases c62 : t482.toList = ([] : List UInt8)
                    · rw [if_pos c62] at H
                      have c62b0 : (t482.toList == ([] : List UInt8)) = true := beq_iff_eq.mpr c62
                      have c62b1 : (t482.toList != ([] : List UInt8)) = false := bne_eq_false_iff_eq.mpr c62
                      clear c62
                      obtain rfl := Option.some.inj H
                      simp only [Option.some.injEq, Prod.mk.injEq] at H
                      obtain ⟨rfl⟩ := H
                      go_wp2_with (first | (go_at_call 29; (with_reducible refine (snap_TakeRow.calls kj4 _ _ t479 t494 t495 t496 _ ?side1 ?side2 A24.out).mono ?_); (case side1 => repeat (first | exact (Kd.V_reads' HO_4.out).2.2 | (with_reducible refine Kd.C_alloc ?_ _) | (with_reducible refine Kd.C_drewN ?_ _) | (with_reducible refine Kd.C_drew ?_))); (case side2 => exact (Kd.V_reads' HO_4.out).2.1); rintro e w63 ⟨v497, rfl, ho0, hb⟩; have n0_ := Aside0.mk (Kd.V_elder' (by (with_reducible repeat (first | apply Kd.V_alloc | apply Kd.V_drewN | apply Kd.V_drew)); exact HO_4.out) (Kd.R_base ho0) hb); have n1_ := Aside0.mk (Kd.R_lower ho0 (below_size (by repeat (first | (with_reducible first | exact HB.out | apply below_alloc | apply pw_below_drewN | apply below_drew1) | exact HB.out)))); have n2_ := Aside0.mk (below_step (by repeat (first | (with_reducible first | exact HB.out | apply below_alloc | apply pw_below_drewN | apply below_drew1) | exact HB.out)) hb); clear HO_4; clear HB; have HO_4 := n0_; have HO498 := n1_; have HB := n2_; clear n0_ n1_ n2_; (try clear hb); (try clear hb2); (try clear hk); (try clear hi); (try clear ho0); obtain ⟨Ao64, co64, eo64⟩ := Kd.R_slice HO498.out; subst eo64))
                      repeat (go_quiet (first | (go_at_call 29; (with_reducible refine (snap_TakeRow.calls kj4 _ _ t479 t494 t495 t496 _ ?side1 ?side2 A24.out).mono ?_); (case side1 => repeat (first | exact (Kd.V_reads' HO_4.out).2.2 | (with_reducible refine Kd.C_alloc ?_ _) | (with_reducible refine Kd.C_drewN ?_ _) | (with_reducible refine Kd.C_drew ?_))); (case side2 => exact (Kd.V_reads' HO_4.out).2.1); rintro e w63 ⟨v497, rfl, ho0, hb⟩; have n0_ := Aside0.mk (Kd.V_elder' (by (with_reducible repeat (first | apply Kd.V_alloc | apply Kd.V_drewN | apply Kd.V_drew)); exact HO_4.out) (Kd.R_base ho0) hb); have n1_ := Aside0.mk (Kd.R_lower ho0 (below_size (by repeat (first | (with_reducible first | exact HB.out | apply below_alloc | apply pw_below_drewN | apply below_drew1) | exact HB.out)))); have n2_ := Aside0.mk (below_step (by repeat (first | (with_reducible first | exact HB.out | apply below_alloc | apply pw_below_drewN | apply below_drew1) | exact HB.out)) hb); clear HO_4; clear HB; have HO_4 := n0_; have HO498 := n1_; have HB := n2_; clear n0_ n1_ n2_; (try clear hb); (try clear hb2); (try clear hk); (try clear hi); (try clear ho0); obtain ⟨Ao64, co64, eo64⟩ := Kd.R_slice HO498.out; subst eo64)); try go_wp2_with (first | (go_at_call 29; (with_reducible refine (snap_TakeRow.calls kj4 _ _ t479 t494 t495 t496 _ ?side1 ?side2 A24.out).mono ?_); (case side1 => repeat (first | exact (Kd.V_reads' HO_4.out).2.2 | (with_reducible refine Kd.C_alloc ?_ _) | (with_reducible refine Kd.C_drewN ?_ _) | (with_reducible refine Kd.C_drew ?_))); (case side2 => exact (Kd.V_reads' HO_4.out).2.1); rintro e w63 ⟨v497, rfl, ho0, hb⟩; have n0_ := Aside0.mk (Kd.V_elder' (by (with_reducible repeat (first | apply Kd.V_alloc | apply Kd.V_drewN | apply Kd.V_drew)); exact HO_4.out) (Kd.R_base ho0) hb); have n1_ := Aside0.mk (Kd.R_lower ho0 (below_size (by repeat (first | (with_reducible first | exact HB.out | apply below_alloc | apply pw_below_drewN | apply below_drew1) | exact HB.out)))); have n2_ := Aside0.mk (below_step (by repeat (first | (with_reducible first | exact HB.out | apply below_alloc | apply pw_below_drewN | apply below_drew1) | exact HB.out)) hb); clear HO_4; clear HB; have HO_4 := n0_; have HO498 := n1_; have HB := n2_; clear n0_ n1_ n2_; (try clear hb); (try clear hb2); (try clear hk); (try clear hi); (try clear ho0); obtain ⟨Ao64, co64, eo64⟩ := Kd.R_slice HO498.out; subst eo64)))
                      go_ret
                      exact ⟨by first | rfl | (simp [errW_none, errW_some] <;> rfl) | (simp [*, errW_none, errW_some] <;> rfl), by repeat (first | (with_reducible first | exact HB.out | apply below_alloc | apply pw_below_drewN | apply below_drew1) | exact HB.out)⟩
                    · rw [if_neg c62] at H
                      have c62b0 : (t482.toList == ([] : List UInt8)) = false := beq_eq_false_iff_ne.mpr c62
                      have c62b1 : (t482.toList != ([] : List UInt8)) = true := bne_iff_ne.mpr c62
                      obtain rfl := Option.some.inj H
                      exact absurd HLAW.out (by decide)
                · rw [if_neg c58] at H
                  have c58b0 : (t496 == 8) = false := beq_eq_false_iff_ne.mpr c58
                  have c58b1 : (t496 != 8) = true := bne_iff_ne.mpr c58
                  obtain rfl := Option.some.inj H
                  exact absurd HLAW.out (by decide)
            · rw [if_neg c50] at H
              have c50b0 : (t495 == 0) = false := beq_eq_false_iff_ne.mpr c50
              have c50b1 : (t495 != 0) = true := bne_iff_ne.mpr c50
              obtain rfl := Option.some.inj H
              exact absurd HLAW.out (by decide)
          · rw [if_neg c49] at H
            have c49b0 : ((t494.length : Int) == 0) = false := beq_eq_false_iff_ne.mpr c49
            have c49b1 : ((t494.length : Int) != 0) = true := bne_iff_ne.mpr c49
            have c49b2 : ¬ (t494 = []) := fun h_ => c49 (by rw [h_]; rfl)
            obtain rfl := Option.some.inj H
            exact absurd HLAW.out (by decide)
        · replace c48 := Bool.eq_false_iff.mpr c48
          subst c48
          have H1 : (some false) = some r := by rw [if_neg (show ¬ (false = true) by decide)] at H; exact H
          clear H
          have H := H1
          clear H1
          obtain rfl := Option.some.inj H
          exact absurd HLAW.out (by decide)

/-- THE ONE PURE STATEMENT of epitomelaw15_SnapTaken: yours. -/
def epitomelaw15_SnapTaken.Pure : Prop := ∀ (l0 : List Int), l0.length ≤ maxLen → l0.length * 1 ≤ 140737488351232 → (∀ x ∈ l0, (Lit.int .u8 x).wf = true) → ∃ k, epitomelaw15_SnapTaken.f k l0 = some true
theorem epitomelaw15_SnapTaken.walk (P : epitomelaw15_SnapTaken.Pure) (a0 : Option Addr) (len0 cap0 : Nat) (z0 : List Int) (w : World) (hT : Tabs w) (w0 : (a0 = none ∧ len0 = 0 ∧ cap0 = 0 ∧ z0 = []) ∨ ∃ x, a0 = some x ∧ len0 ≤ cap0 ∧ cap0 ≤ maxLen ∧ z0.length = cap0 ∧ (∀ i, i < z0.length → w.cell? (x.add i) = some (.int .u8 (z0.getD i 0))) ∧ ∀ n ∈ z0, (Lit.int .u8 n).wf = true) (y0 : len0 * 1 ≤ 140737488351232) :
    Calls Tryd.prog 13 #[.slice a0 len0 cap0] w fun e w' => e = .returned (.bool true) ∧ Below w.heap.size w w' := by
  obtain ⟨l0, rfl, hr0, hm0, hw0, hc0⟩ := ReadsInt.ofRowC w0
  obtain ⟨k, h⟩ := P l0 hm0 y0 hw0
  refine (epitomelaw15_SnapTaken.calls k _ _ l0 true w (Kd.C_of_reads (d := (0 : Int)) (h1 := fun _ => rfl) hr0) hc0 hT h rfl).mono ?_
  rintro e w' ⟨rfl, hd⟩
  exact ⟨rfl, hd⟩

end Go.Proofs.YtolljobehfmffaaDoor.P
