/- What TopTie tells. -/
import Derived.Test.YtegjegihcebimaaDoorPx21
import Derived.Test.YtegjegihcebimaaDoorPureTopSpans
import Derived.KernelRfl
namespace Go.Proofs.YtegjegihcebimaaDoor.Pure
open Go.RowKit Go.Proofs.YtegjegihcebimaaDoor.P Go.Proofs.YtegjegihcebimaaDoorW.PrintWords Go.Proofs.YtegjegihcebimaaDoorW.PrintLast Go.Proofs.YtegjegihcebimaaDoorW.PrintMore
set_option linter.unusedVariables false
set_option linter.unusedSimpArgs false

set_option maxRecDepth 100000 in
theorem shown_top (k : Nat) (hk : 60 ≤ k) : epitometop_shown.f k = some true := up epitometop_shown.mono hk (by decide +kernel)
theorem restN_ne {f a m : Int} {s : ByteArray} {l : List S25} (h : a ≠ m) : restN f a m s l = ⟨f, a - m, s⟩ :: l := if_neg h
theorem restN_eq {f a : Int} {s : ByteArray} {l : List S25} : restN f a a s l = l := if_pos rfl
theorem restT_ne {a m : Int} {l : List S25} (h : a ≠ m) : restT a m l = [] := if_neg h
theorem restT_eq {a : Int} {l : List S25} : restT a a l = loadT l := if_pos rfl
theorem mn_l {a b : Int} (h : a ≤ b) : mn a b = a := by unfold mn; split <;> omega
theorem mn_r {a b : Int} (h : b ≤ a) : mn a b = b := by unfold mn; split <;> omega
section
variable {u v : List Int}
theorem tie_c1 (hu : Runes u) (hu0 : u ≠ []) (hul : u.length ≤ 9) (hus : (enc u).size ≤ 36) (k : Nat) : compose_Of.f (k + 30) [sK 3] [sK 1, sK 1, sI u, sK 1] = some ([sK 2, sI u, sK 1], 0) := by
  have ob := oks okK1 (oks okK1 (oks (okI hu (by omega)) (oks okK1 oks0)))
  have oa := oks (okK (n := 3) (by omega) (by omega)) oks0
  refine comp_ok (m := 3) (n := 3) (xa := [sK 3]) (xb := [sK 2, sI u, sK 1]) (out := [sK 2, sI u, sK 1]) oa ob (in_ok (by simp) oa (by simp)) (by decide) (in_ok (by simp) ob (by simp)) (by decide) (out_ok (by simp) oa (by simp)) (by simp) (by simp) (by simp [normal_Of.t, emp_size]) (by simp [normal_Of.t, emp_size]; omega) ?_ ?_ ?_ ?_ (by simp) (by simp [normal_Of.t, emp_size]; omega) (by omega)
  · simp [normal_Of.n, normal_Of.keep, normal_Of.step, rd_T25, e_num]
  · simp [normal_Of.n, normal_Of.keep, normal_Of.step, rd_T25, e_num, e_text _ _ hu0, emp_app, wrap64]
  · refine (cl_KK _ _ _ _ _ _ _ _ (by decide) (by decide) (by decide) (by decide) (by simp)).trans ?_
    simp [mn, restN, restT, loadT, runes_enc hu, runes_emp]
    refine (cl_put _ _ _ _ _ _ _ hu (by omega) (by simp)).trans ?_
    simp [loadT, runes_emp]
    refine (cl_KK _ _ _ _ _ _ _ _ (by decide) (by decide) (by decide) (by decide) (by simp)).trans ?_
    simp [mn, restN, restT, loadT]
    exact cl_end _ _ _ _ _ _ (by simp) (by decide) (by decide) (.inl rfl)
  · simp [normal_Of.n, normal_Of.keep, normal_Of.step, rd_T25, e_num, e_text _ _ hu0, emp_app, wrap64]
theorem tie_n (hu0 : u ≠ []) (hul : u.length ≤ 9) : normal_Of.n [sK 1, sD 1, sK u.length, sK 1] = [sK 1, sD 1, sK (u.length + 1)] := by
  have w1 : wrap64 ((u.length : Int) + 1) = (u.length : Int) + 1 := w64 (by omega) (by omega)
  simp [normal_Of.n, normal_Of.keep, normal_Of.step, rd_T25, e_num, emp_app, w1, hu0]
theorem pos_len (hu0 : u ≠ []) : 1 ≤ u.length := by cases u with | nil => exact absurd rfl hu0 | cons => simp
theorem tie_c2 (hu : Runes u) (hu0 : u ≠ []) (hul : u.length ≤ 9) (hus : (enc u).size ≤ 36) (k : Nat) : compose_Of.f (k + 30) [sK 2, sI u, sK 1] [sK 1, sD 1, sK u.length, sK 1] = some ([sK 1, sD 1, sI u, sK 1], 0) := by
  have oa := oks (okK (n := 2) (by omega) (by omega)) (oks (okI hu (by omega)) (oks okK1 oks0))
  have ob := oks okK1 (oks okD1 (oks (okK (n := u.length) (by omega) (by omega)) (oks okK1 oks0)))
  have hn := pos_len hu0
  refine comp_ok (m := 3) (n := (u.length : Int) + 3) (xa := [sK 2, sI u, sK 1]) (xb := [sK 1, sD 1, sK (u.length + 1)]) (out := [sK 1, sD 1, sI u, sK 1]) oa ob (in_ok (by simp) oa (by simp)) (by decide) (in_ok (by simp; omega) ob (by simp)) (by omega) (out_ok (by simp [runes_enc hu]; omega) oa (by simp)) (by simp) (by simp) (by simp [normal_Of.t, emp_size]; omega) (by simp [normal_Of.t, emp_size]) ?_ (tie_n hu0 hul) ?_ ?_ (by simp) (by simp [normal_Of.t, emp_size]; omega) (by omega)
  · simp [normal_Of.n, normal_Of.keep, normal_Of.step, rd_T25, e_num, e_text _ _ hu0]
  · refine (cl_KK _ _ _ _ _ _ _ _ (by decide) (by decide) (by decide) (by decide) (by simp)).trans ?_
    simp [mn, restN, restT, loadT, runes_enc hu, runes_emp]
    refine (cl_KD _ _ _ _ _ _ _ _ (by decide) (by decide) (by decide) (by decide) (by simp)).trans ?_
    simp [mn, restN, restT, loadT, runes_enc hu, runes_emp]
    refine (cl_IK _ _ _ _ _ _ _ _ hu (by omega) (by omega) (by omega) (by simp)).trans ?_
    rw [mn_l (by omega), restN_ne (by omega), restT_ne (by omega), if_pos rfl, if_pos rfl, Int.toNat_natCast, List.take_length, show (u.length : Int) + 1 - u.length = 1 by omega]
    refine (cl_KK _ _ _ _ _ _ _ _ (by decide) (by decide) (by decide) (by decide) (by simp)).trans ?_
    simp [mn, restN, restT, loadT]
    exact cl_end _ _ _ _ _ _ (by simp) (by decide) (by decide) (.inl rfl)
  · simp [normal_Of.n, normal_Of.keep, normal_Of.step, rd_T25, e_num, e_text _ _ hu0]
theorem tie_d1 (k : Nat) (hk : 30 ≤ k) : compose_Of.f k [sK 3] [sK 1, sD 1, sK 1] = some ([sK 1, sD 1, sK 1], 0) := up (compose_Of.mono _ _) hk (by kernel_rfl)
theorem tie_d2 (hu : Runes u) (hu0 : u ≠ []) (hul : u.length ≤ 9) (hus : (enc u).size ≤ 36) (k : Nat) : compose_Of.f (k + 30) [sK 1, sD 1, sK 1] [sK 1, sI u, sK 1] = some ([sK 1, sI u, sD 1, sK 1], 0) := by
  have ob := oks okK1 (oks (okI hu (by omega)) (oks okK1 oks0))
  have oa := oks okK1 (oks okD1 (oks okK1 oks0))
  refine comp_ok (m := 3) (n := 2) (xa := [sK 1, sD 1, sK 1]) (xb := [sK 1, sI u, sK 1]) (out := [sK 1, sI u, sD 1, sK 1]) oa ob (in_ok (by simp) oa (by simp)) (by decide) (in_ok (by simp) ob (by simp)) (by decide) (out_ok (by simp) oa (by simp)) (by simp) (by simp) (by simp [normal_Of.t, emp_size]) (by simp [normal_Of.t, emp_size]; omega) ?_ ?_ ?_ ?_ (by simp) (by simp [normal_Of.t, emp_size]; omega) (by omega)
  · simp [normal_Of.n, normal_Of.keep, normal_Of.step, rd_T25, e_num]
  · simp [normal_Of.n, normal_Of.keep, normal_Of.step, rd_T25, e_num, e_text _ _ hu0]
  · refine (cl_KK _ _ _ _ _ _ _ _ (by decide) (by decide) (by decide) (by decide) (by simp)).trans ?_
    simp [mn, restN, restT, loadT, runes_enc hu, runes_emp]
    refine (cl_put _ _ _ _ _ _ _ hu (by omega) (by simp)).trans ?_
    simp [loadT, runes_emp]
    refine (cl_drop _ _ _ _ _ _ _ (by decide) (by decide) (by decide) (by simp)).trans ?_
    simp [loadT, runes_emp]
    refine (cl_KK _ _ _ _ _ _ _ _ (by decide) (by decide) (by decide) (by decide) (by simp)).trans ?_
    simp [mn, restN, restT, loadT]
    exact cl_end _ _ _ _ _ _ (by simp) (by decide) (by decide) (.inl rfl)
  · simp [normal_Of.n, normal_Of.keep, normal_Of.step, rd_T25, e_num, e_text _ _ hu0]
theorem keep3 (k : Nat) (hk : 3 ≤ k) : op_Keep.f k 3 = some ([sK 3], 0) := up (op_Keep.mono _) hk (by kernel_rfl)
theorem tie_f1 (hu : Runes u) (hu0 : u ≠ []) (hul : u.length ≤ 9) (hus : (enc u).size ≤ 36) (k : Nat) : fuse_Of.f (k + 30) 3 [[sK 1, sK 1, sI u, sK 1], [sK 1, sD 1, sK u.length, sK 1]] = some ([sK 1, sD 1, sI u, sK 1], 0) := by
  unfold fuse_Of.f
  rw [if_pos (by simp), keep3 _ (by omega), Option.bind_some, if_pos rfl, fuse_Of.l, tie_c1 hu hu0 hul hus, Option.bind_some, if_pos rfl, fuse_Of.l, tie_c2 hu hu0 hul hus, Option.bind_some, if_pos rfl, fuse_Of.l]
theorem tie_f2 (hu : Runes u) (hu0 : u ≠ []) (hul : u.length ≤ 9) (hus : (enc u).size ≤ 36) (k : Nat) : fuse_Of.f (k + 30) 3 [[sK 1, sD 1, sK 1], [sK 1, sI u, sK 1]] = some ([sK 1, sI u, sD 1, sK 1], 0) := by
  unfold fuse_Of.f
  rw [if_pos (by simp), keep3 _ (by omega), Option.bind_some, if_pos rfl, fuse_Of.l, tie_d1 _ (by omega), Option.bind_some, if_pos rfl, fuse_Of.l, tie_d2 hu hu0 hul hus, Option.bind_some, if_pos rfl, fuse_Of.l]
theorem tie_o1 (hu : Runes u) (hul : u.length ≤ 9) (hus : (enc u).size ≤ 36) (hu0 : u ≠ []) (hv : Runes v) (hv0 : v ≠ []) (hvs : (enc v).size ≤ 36) (k : Nat) : over_Of.f (k + 30) [sK 1, sI v, sK 2] [sK 1, sK 1, sI u, sK 1] = some ([sK 1, sI v, sK (1 + u.length + 1)], 0) := by
  have oa := oks okK1 (oks (okI hv (by omega)) (oks (okK (n := 2) (by omega) (by omega)) oks0))
  have ob := oks okK1 (oks okK1 (oks (okI hu (by omega)) (oks okK1 oks0)))
  have w1 : wrap64 (1 + (u.length : Int)) = 1 + (u.length : Int) := w64 (by omega) (by omega)
  have w2 : wrap64 (1 + (u.length : Int) + 1) = 1 + (u.length : Int) + 1 := w64 (by omega) (by omega)
  refine over_ok (m := 3) (xa := [sK 1, sI v, sK 2]) (xb := [sK 2, sI u, sK 1]) (out := [sK 1, sI v, sK 1, sK u.length, sK 1]) oa ob (in_ok (by simp) oa (by simp)) (by decide) (in_ok (by simp) ob (by simp)) (by simp) (by simp) (by simp [normal_Of.t, emp_size]; omega) (by simp [normal_Of.t, emp_size]; omega) ?_ ?_ ?_ ?_ (by simp) (by simp [normal_Of.t, emp_size]; omega) (by omega)
  · simp [normal_Of.n, normal_Of.keep, normal_Of.step, rd_T25, e_num, e_text _ _ hv0]
  · simp [normal_Of.n, normal_Of.keep, normal_Of.step, rd_T25, e_num, e_text _ _ hu0, emp_app, wrap64]
  · refine (ol_K _ _ _ _ _ _ _ _ _ (by decide) (by decide) (by decide) (by decide) (by decide) (by simp)).trans ?_
    simp [mn, restN]
    refine (ol_a _ _ _ _ _ _ _ _ _ (by decide) (by simp)).trans ?_
    refine (ol_K _ _ _ _ _ _ _ _ _ (by decide) (by decide) (by decide) (by decide) (by decide) (by simp)).trans ?_
    simp [mn, restN]
    refine (ol_put _ _ _ _ _ hu (by omega) (by simp)).trans ?_
    refine (ol_K _ _ _ _ _ _ _ _ _ (by decide) (by decide) (by decide) (by decide) (by decide) (by simp)).trans ?_
    simp [mn, restN]
    exact ol_end _ _ (by simp)
  · simp [normal_Of.n, normal_Of.keep, normal_Of.step, rd_T25, e_num, e_text _ _ hv0, emp_app, hu0, w1, w2]
theorem tie_o2 (hul : u.length ≤ 9) (hu0 : u ≠ []) (hv : Runes v) (hv0 : v ≠ []) (hvs : (enc v).size ≤ 36) (k : Nat) : over_Of.f (k + 30) [sK 1, sI v, sK (1 + u.length + 1)] [sK 1, sD 1, sK u.length, sK 1] = some ([sK 1, sI v, sK (u.length + 1)], 0) := by
  have hn := pos_len hu0
  have oa := oks okK1 (oks (okI hv (by omega)) (oks (okK (n := 1 + (u.length : Int) + 1) (by omega) (by omega)) oks0))
  have ob := oks okK1 (oks okD1 (oks (okK (n := u.length) (by omega) (by omega)) (oks okK1 oks0)))
  have z1 : ¬ (1 + (u.length : Int) + 1 = 0) := by omega
  have z2 : ¬ ((u.length : Int) + 1 = 0) := by omega
  refine over_ok (m := (u.length : Int) + 3) (xa := [sK 1, sI v, sK (1 + u.length + 1)]) (xb := [sK 1, sD 1, sK (u.length + 1)]) (out := [sK 1, sI v, sK (u.length + 1)]) oa ob (in_ok (by simp; omega) oa (by simp)) (by omega) (in_ok (by simp; omega) ob (by simp)) (by simp) (by simp) (by simp [normal_Of.t, emp_size]; omega) (by simp [normal_Of.t, emp_size]) ?_ (tie_n hu0 hul) ?_ ?_ (by simp) (by simp [normal_Of.t, emp_size]; omega) (by omega)
  · simp [normal_Of.n, normal_Of.keep, normal_Of.step, rd_T25, e_num, e_text _ _ hv0, z1]
  · refine (ol_K _ _ _ _ _ _ _ _ _ (by decide) (by decide) (by decide) (by decide) (by decide) (by simp)).trans ?_
    simp [mn, restN]
    refine (ol_a _ _ _ _ _ _ _ _ _ (by decide) (by simp)).trans ?_
    refine (ol_D _ _ _ _ _ _ _ _ _ (by decide) (by omega) (by omega) (by decide) (by decide) (by simp)).trans ?_
    rw [mn_r (by omega), restN_ne (by omega), restN_eq, show 1 + (u.length : Int) + 1 - 1 = u.length + 1 by omega]
    refine (ol_K _ _ _ _ _ _ _ _ _ (by decide) (by omega) (by omega) (by omega) (by omega) (by simp)).trans ?_
    rw [mn_l (by omega), restN_eq]
    exact ol_end _ _ (by simp)
  · simp [normal_Of.n, normal_Of.keep, normal_Of.step, rd_T25, e_num, e_text _ _ hv0, z2]
theorem tie_o3 (hv : Runes v) (hv0 : v ≠ []) (hvs : (enc v).size ≤ 36) (k : Nat) : over_Of.f (k + 30) [sK 1, sI v, sK 2] [sK 1, sD 1, sK 1] = some ([sK 1, sI v, sK 1], 0) := by
  have oa := oks okK1 (oks (okI hv (by omega)) (oks (okK (n := 2) (by omega) (by omega)) oks0))
  have ob := oks okK1 (oks okD1 (oks okK1 oks0))
  refine over_ok (m := 3) (xa := [sK 1, sI v, sK 2]) (xb := [sK 1, sD 1, sK 1]) (out := [sK 1, sI v, sK 1]) oa ob (in_ok (by simp) oa (by simp)) (by omega) (in_ok (by simp) ob (by simp)) (by simp) (by simp) (by simp [normal_Of.t, emp_size]; omega) (by simp [normal_Of.t, emp_size]) ?_ ?_ ?_ ?_ (by simp) (by simp [normal_Of.t, emp_size]; omega) (by omega)
  · simp [normal_Of.n, normal_Of.keep, normal_Of.step, rd_T25, e_num, e_text _ _ hv0]
  · simp [normal_Of.n, normal_Of.keep, normal_Of.step, rd_T25, e_num]
  · refine (ol_K _ _ _ _ _ _ _ _ _ (by decide) (by decide) (by decide) (by decide) (by decide) (by simp)).trans ?_
    simp [mn, restN]
    refine (ol_a _ _ _ _ _ _ _ _ _ (by decide) (by simp)).trans ?_
    refine (ol_D _ _ _ _ _ _ _ _ _ (by decide) (by decide) (by decide) (by decide) (by decide) (by simp)).trans ?_
    simp [mn, restN]
    refine (ol_K _ _ _ _ _ _ _ _ _ (by decide) (by decide) (by decide) (by decide) (by decide) (by simp)).trans ?_
    simp [mn, restN]
    exact ol_end _ _ (by simp)
  · simp [normal_Of.n, normal_Of.keep, normal_Of.step, rd_T25, e_num, e_text _ _ hv0]
theorem tie_o4 (hu : Runes u) (hul : u.length ≤ 9) (hus : (enc u).size ≤ 36) (hu0 : u ≠ []) (hv : Runes v) (hv0 : v ≠ []) (hvs : (enc v).size ≤ 36) (k : Nat) : over_Of.f (k + 30) [sK 1, sI v, sK 1] [sK 1, sI u, sK 1] = some ([sK (1 + u.length), sI v, sK 1], 0) := by
  have oa := oks okK1 (oks (okI hv (by omega)) (oks okK1 oks0))
  have ob := oks okK1 (oks (okI hu (by omega)) (oks okK1 oks0))
  have w1 : wrap64 (1 + (u.length : Int)) = 1 + (u.length : Int) := w64 (by omega) (by omega)
  refine over_ok (m := 2) (xa := [sK 1, sI v, sK 1]) (xb := [sK 1, sI u, sK 1]) (out := [sK 1, sK u.length, sI v, sK 1]) oa ob (in_ok (by simp) oa (by simp)) (by decide) (in_ok (by simp) ob (by simp)) (by simp) (by simp) (by simp [normal_Of.t, emp_size]; omega) (by simp [normal_Of.t, emp_size]; omega) ?_ ?_ ?_ ?_ (by simp) (by simp [normal_Of.t, emp_size]; omega) (by omega)
  · simp [normal_Of.n, normal_Of.keep, normal_Of.step, rd_T25, e_num, e_text _ _ hv0]
  · simp [normal_Of.n, normal_Of.keep, normal_Of.step, rd_T25, e_num, e_text _ _ hu0]
  · refine (ol_K _ _ _ _ _ _ _ _ _ (by decide) (by decide) (by decide) (by decide) (by decide) (by simp)).trans ?_
    simp [mn, restN]
    refine (ol_put _ _ _ _ _ hu (by omega) (by simp)).trans ?_
    refine (ol_a _ _ _ _ _ _ _ _ _ (by decide) (by simp)).trans ?_
    refine (ol_K _ _ _ _ _ _ _ _ _ (by decide) (by decide) (by decide) (by decide) (by decide) (by simp)).trans ?_
    simp [mn, restN]
    exact ol_end _ _ (by simp)
  · simp [normal_Of.n, normal_Of.keep, normal_Of.step, rd_T25, e_num, e_text _ _ hv0, emp_app, hu0, w1]
theorem tie_a (hv0 : v ≠ []) : normal_Of.n [sK 1, sI v, sK 1, sK 1] = [sK 1, sI v, sK 2] := by
  simp [normal_Of.n, normal_Of.keep, normal_Of.step, rd_T25, e_num, e_text _ _ hv0, emp_app, wrap64]
theorem tie_o5 (hu : Runes u) (hul : u.length ≤ 9) (hus : (enc u).size ≤ 36) (hu0 : u ≠ []) (hv : Runes v) (hv0 : v ≠ []) (hvs : (enc v).size ≤ 36) (k : Nat) : over_Of.f (k + 30) [sK 1, sI v, sK 1, sK 1] [sK 1, sD 1, sI u, sK 1] = some ([sK 1, sI v, sK (u.length + 1)], 0) := by
  have oa := oks okK1 (oks (okI hv (by omega)) (oks okK1 (oks okK1 oks0)))
  have ob := oks okK1 (oks okD1 (oks (okI hu (by omega)) (oks okK1 oks0)))
  have w1 : wrap64 ((u.length : Int) + 1) = (u.length : Int) + 1 := w64 (by omega) (by omega)
  refine over_ok (m := 3) (xa := [sK 1, sI v, sK 2]) (xb := [sK 1, sD 1, sI u, sK 1]) (out := [sK 1, sI v, sK u.length, sK 1]) oa ob (in_ok (by simp) oa (by simp)) (by decide) (in_ok (by simp) ob (by simp)) (by simp) (by simp) (by simp [normal_Of.t, emp_size]; omega) (by simp [normal_Of.t, emp_size]; omega) (tie_a hv0) ?_ ?_ ?_ (by simp) (by simp [normal_Of.t, emp_size]; omega) (by omega)
  · simp [normal_Of.n, normal_Of.keep, normal_Of.step, rd_T25, e_num, e_text _ _ hu0]
  · refine (ol_K _ _ _ _ _ _ _ _ _ (by decide) (by decide) (by decide) (by decide) (by decide) (by simp)).trans ?_
    simp [mn, restN]
    refine (ol_a _ _ _ _ _ _ _ _ _ (by decide) (by simp)).trans ?_
    refine (ol_D _ _ _ _ _ _ _ _ _ (by decide) (by decide) (by decide) (by decide) (by decide) (by simp)).trans ?_
    simp [mn, restN]
    refine (ol_put _ _ _ _ _ hu (by omega) (by simp)).trans ?_
    refine (ol_K _ _ _ _ _ _ _ _ _ (by decide) (by decide) (by decide) (by decide) (by decide) (by simp)).trans ?_
    simp [mn, restN]
    exact ol_end _ _ (by simp)
  · simp [normal_Of.n, normal_Of.keep, normal_Of.step, rd_T25, e_num, e_text _ _ hv0, emp_app, hu0, w1]
theorem tie_o6 (hu : Runes u) (hul : u.length ≤ 9) (hus : (enc u).size ≤ 36) (hu0 : u ≠ []) (hv : Runes v) (hv0 : v ≠ []) (hvs : (enc v).size ≤ 36) (k : Nat) : over_Of.f (k + 30) [sK 1, sI v, sK 1, sK 1] [sK 1, sI u, sD 1, sK 1] = some ([sK (1 + u.length), sI v, sK 1], 0) := by
  have oa := oks okK1 (oks (okI hv (by omega)) (oks okK1 (oks okK1 oks0)))
  have ob := oks okK1 (oks (okI hu (by omega)) (oks okD1 (oks okK1 oks0)))
  have w1 : wrap64 (1 + (u.length : Int)) = 1 + (u.length : Int) := w64 (by omega) (by omega)
  refine over_ok (m := 3) (xa := [sK 1, sI v, sK 2]) (xb := [sK 1, sI u, sD 1, sK 1]) (out := [sK 1, sK u.length, sI v, sK 1]) oa ob (in_ok (by simp) oa (by simp)) (by decide) (in_ok (by simp) ob (by simp)) (by simp) (by simp) (by simp [normal_Of.t, emp_size]; omega) (by simp [normal_Of.t, emp_size]; omega) (tie_a hv0) ?_ ?_ ?_ (by simp) (by simp [normal_Of.t, emp_size]; omega) (by omega)
  · simp [normal_Of.n, normal_Of.keep, normal_Of.step, rd_T25, e_num, e_text _ _ hu0]
  · refine (ol_K _ _ _ _ _ _ _ _ _ (by decide) (by decide) (by decide) (by decide) (by decide) (by simp)).trans ?_
    simp [mn, restN]
    refine (ol_put _ _ _ _ _ hu (by omega) (by simp)).trans ?_
    refine (ol_a _ _ _ _ _ _ _ _ _ (by decide) (by simp)).trans ?_
    refine (ol_D _ _ _ _ _ _ _ _ _ (by decide) (by decide) (by decide) (by decide) (by decide) (by simp)).trans ?_
    simp [mn, restN]
    refine (ol_K _ _ _ _ _ _ _ _ _ (by decide) (by decide) (by decide) (by decide) (by decide) (by simp)).trans ?_
    simp [mn, restN]
    exact ol_end _ _ (by simp)
  · simp [normal_Of.n, normal_Of.keep, normal_Of.step, rd_T25, e_num, e_text _ _ hv0, emp_app, hu0, w1]
theorem next_ok {k : Nat} {l : List S25} {m n : Int} (hl : ∀ x ∈ l, okS x) (hi : op_In.f l = some m) (hm : m ≤ 1048576) (ho : op_Out.f l = some n) (hn : l.length ≤ 20) (hk : 30 ≤ k) : fuse_next.f k m l = some (n, 0) := by
  unfold fuse_next.f
  rw [may_l hl hi hm (by omega) k (by omega), Option.bind_some, if_pos rfl, hi, Option.bind_some, if_pos rfl, ho, Option.bind_some]
theorem through_ok {k : Nat} {a x y xa s1 s2 : List S25} {n n2 : Int} (ha : ∀ x ∈ a, okS x) (ia : op_In.f a = some 3) (la : a.length ≤ 20) (hx : ∀ z ∈ x, okS z) (ix : op_In.f x = some 3) (ox : op_Out.f x = some n) (lx : x.length ≤ 20)
    (hy : ∀ z ∈ y, okS z) (iy : op_In.f y = some n) (hn : n ≤ 1048576) (oy : op_Out.f y = some n2) (ly : y.length ≤ 20) (ta : normal_Of.t a ≤ 1000) (na : normal_Of.n a = xa) (h1 : over_Of.f k xa x = some (s1, 0)) (h2 : over_Of.f k s1 y = some (s2, 0)) (hk : 30 ≤ k) : through_Of.f k a [x, y] = some (s2, 0) := by
  unfold through_Of.f through_may.f fuse_Chain.f
  rw [if_pos (by simp), may_l ha ia (by decide) (by omega) k (by omega), Option.bind_some, if_pos rfl, ia, Option.bind_some, if_pos (by simp), keep3 _ (by omega), Option.bind_some, if_pos rfl, fuse_Chain.l, next_ok hx ix (by decide) ox lx hk, Option.bind_some, if_pos rfl,
    fuse_Chain.l, next_ok hy iy hn oy ly hk, Option.bind_some, if_pos rfl, fuse_Chain.l, Option.bind_some, Option.bind_some, if_pos rfl, normal_ok (by omega) (by omega), Option.bind_some, na, through_Of.l, h1, Option.bind_some, through_Of.l, h2, Option.bind_some, through_Of.l, Option.bind_some]
theorem tie_t1 (hu : Runes u) (hul : u.length ≤ 9) (hus : (enc u).size ≤ 36) (hu0 : u ≠ []) (hv : Runes v) (hv0 : v ≠ []) (hvs : (enc v).size ≤ 36) (k : Nat) : through_Of.f (k + 30) [sK 1, sI v, sK 1, sK 1] [[sK 1, sK 1, sI u, sK 1], [sK 1, sD 1, sK u.length, sK 1]] = some ([sK 1, sI v, sK (u.length + 1)], 0) := by
  have oa := oks okK1 (oks (okI hv (by omega)) (oks okK1 (oks okK1 oks0)))
  have ox := oks okK1 (oks okK1 (oks (okI hu (by omega)) (oks okK1 oks0)))
  have oy := oks okK1 (oks okD1 (oks (okK (n := u.length) (by omega) (by omega)) (oks okK1 oks0)))
  exact through_ok (n := (u.length : Int) + 3) (n2 := (u.length : Int) + 2) oa (in_ok (by simp) oa (by simp)) (by simp) ox (in_ok (by simp) ox (by simp)) (out_ok (by simp [runes_enc hu]; omega) ox (by simp)) (by simp) oy (in_ok (by simp; omega) oy (by simp)) (by omega) (out_ok (by simp; omega) oy (by simp)) (by simp) (by simp [normal_Of.t, emp_size]; omega) (tie_a hv0)
    (tie_o1 hu hul hus hu0 hv hv0 hvs k) (tie_o2 hul hu0 hv hv0 hvs k) (by omega)
theorem tie_t2 (hu : Runes u) (hul : u.length ≤ 9) (hus : (enc u).size ≤ 36) (hu0 : u ≠ []) (hv : Runes v) (hv0 : v ≠ []) (hvs : (enc v).size ≤ 36) (k : Nat) : through_Of.f (k + 30) [sK 1, sI v, sK 1, sK 1] [[sK 1, sD 1, sK 1], [sK 1, sI u, sK 1]] = some ([sK (1 + u.length), sI v, sK 1], 0) := by
  have oa := oks okK1 (oks (okI hv (by omega)) (oks okK1 (oks okK1 oks0)))
  have ox := oks okK1 (oks okD1 (oks okK1 oks0))
  have oy := oks okK1 (oks (okI hu (by omega)) (oks okK1 oks0))
  exact through_ok (n := 2) (n2 := (u.length : Int) + 2) oa (in_ok (by simp) oa (by simp)) (by simp) ox (in_ok (by simp) ox (by simp)) (out_ok (by simp) ox (by simp)) (by simp) oy (in_ok (by simp) oy (by simp)) (by omega) (out_ok (by simp [runes_enc hu]; omega) oy (by simp)) (by simp) (by simp [normal_Of.t, emp_size]; omega) (tie_a hv0)
    (tie_o3 hv hv0 hvs k) (tie_o4 hu hul hus hu0 hv hv0 hvs k) (by omega)
/-! ### What is made of the text -/
theorem tl_K {n : Int} {l : List S25} {rest out : List Int} (h0 : 0 ≤ n) (h1 : n ≤ (rest.length : Int)) (ho : out.length ≤ 1000) (hr : rest.length ≤ 1000) : apply_To.l (sK n :: l) rest out = apply_To.l l (rest.drop n.toNat) (out ++ rest.take n.toNat) := by
  rw [apply_To.l, if_pos ⟨h0, h1, by omega, (show (⟨#[]⟩ : ByteArray).size < 1000000000 by decide), by omega⟩, if_neg (show ¬ (1 : Int) = 2 by decide), if_pos rfl]
theorem tl_D {n : Int} {l : List S25} {rest out : List Int} (h0 : 0 ≤ n) (h1 : n ≤ (rest.length : Int)) (ho : out.length ≤ 1000) (hr : rest.length ≤ 1000) : apply_To.l (sD n :: l) rest out = apply_To.l l (rest.drop n.toNat) out := by
  rw [apply_To.l, if_pos ⟨h0, h1, by omega, (show (⟨#[]⟩ : ByteArray).size < 1000000000 by decide), by omega⟩, if_neg (show ¬ (3 : Int) = 2 by decide), if_neg (show ¬ (3 : Int) = 1 by decide)]
theorem tl_I {t : List Int} {l : List S25} {rest out : List Int} (ht : Runes t) (hs : (enc t).size ≤ 9999) (ho : out.length ≤ 1000) (hr : rest.length ≤ 1000) : apply_To.l (sI t :: l) rest out = apply_To.l l rest (out ++ t) := by
  rw [apply_To.l, if_pos ⟨(show (0 : Int) ≤ 0 by decide), (show (0 : Int) ≤ (rest.length : Int) by omega), by omega, (show (enc t).size < 1000000000 by omega), by omega⟩, if_pos rfl, runes_enc ht]
  rfl
theorem enc_size_app (a b : List Int) : (enc (a ++ b)).size = (enc a).size + (enc b).size := by rw [enc_size, enc_size, enc_size, encB_append, List.length_append]
theorem runes_ascii {c : Int} (h0 : 0 ≤ c) (h1 : c ≤ 127) : Runes [c] := by
  intro x hx
  simp only [List.mem_singleton] at hx
  subst hx
  unfold isRune
  omega
theorem all_ok {k : Nat} {x y z : List S25} {s0 s1 s2 s3 : ByteArray} (h1 : ∀ k, 30 ≤ k → apply_To.f k x s0 = some (s1, 0)) (h2 : ∀ k, 30 ≤ k → apply_To.f k y s1 = some (s2, 0)) (h3 : ∀ k, 30 ≤ k → apply_To.f k z s2 = some (s3, 0)) :
    apply_All.f (k + 40) s0 [x, y, z] = some (s3, 0) := by
  unfold apply_All.f
  rw [if_neg (by simp), apply_All.j0, if_neg (by decide), apply_All.l0, if_pos (by simp), if_pos (by decide), if_pos (by simp)]
  rw [show rd_L3 [x, y, z] 0 = x from rfl, h1 _ (by omega), Option.bind_some, if_pos rfl, show wrap64 (0 + 1) = 1 from by simp [wrap64]]
  rw [apply_All.l0, if_pos (by simp), if_pos (by decide), if_pos (by simp)]
  rw [show rd_L3 [x, y, z] 1 = y from rfl, h2 _ (by omega), Option.bind_some, if_pos rfl, show wrap64 (1 + 1) = 2 from by simp [wrap64]]
  rw [apply_All.l0, if_pos (by simp), if_pos (by decide), if_pos (by simp)]
  rw [show rd_L3 [x, y, z] 2 = z from rfl, h3 _ (by omega), Option.bind_some, if_pos rfl, show wrap64 (2 + 1) = 3 from by simp [wrap64]]
  rw [apply_All.l0, if_neg (by simp)]
theorem tie_p1 (hu : Runes u) (hul : u.length ≤ 9) (hus : (enc u).size ≤ 36) (k : Nat) (hk : 30 ≤ k) : apply_To.f k [sK 1, sK 1, sI u, sK 1] (enc [97, 98, 99]) = some (enc ([97, 98] ++ u ++ [99]), 0) := by
  have ob := oks okK1 (oks okK1 (oks (okI hu (by omega)) (oks okK1 oks0)))
  have r97 := runes_ascii (c := 97) (by decide) (by decide)
  have r98 := runes_ascii (c := 98) (by decide) (by decide)
  have r99 := runes_ascii (c := 99) (by decide) (by decide)
  refine to_ok (s := [97, 98, 99]) ob (in_ok (by simp) ob (by simp)) (r97.append (r98.append r99)) (by decide) (by decide) (by simp) ?_ (((r97.append r98).append hu).append r99) hk
  rw [tl_K (by decide) (by decide) (by decide) (by decide), tl_K (by decide) (by decide) (by decide) (by decide), tl_I hu (by omega) (by simp) (by simp), tl_K (by decide) (by simp) (by simp; omega) (by simp), apply_To.l]
  simp
theorem tie_p2 (hu : Runes u) (hul : u.length ≤ 9) (hus : (enc u).size ≤ 36) (k : Nat) (hk : 30 ≤ k) : apply_To.f k [sK 1, sD 1, sK u.length, sK 1] (enc ([97, 98] ++ u ++ [99])) = some (enc ([97] ++ u ++ [99]), 0) := by
  have ob := oks okK1 (oks okD1 (oks (okK (n := u.length) (by omega) (by omega)) (oks okK1 oks0)))
  have r97 := runes_ascii (c := 97) (by decide) (by decide)
  have r98 := runes_ascii (c := 98) (by decide) (by decide)
  have r99 := runes_ascii (c := 99) (by decide) (by decide)
  have e1 : (enc [97, 98]).size = 2 := by decide
  have e2 : (enc [99]).size = 1 := by decide
  refine to_ok ob (in_ok (by simp; omega) ob (by simp)) (((r97.append r98).append hu).append r99) (by rw [enc_size_app, enc_size_app]; omega) (by simp; omega) (by simp) ?_ ((r97.append hu).append r99) hk
  rw [tl_K (by decide) (by simp; omega) (by decide) (by simp; omega), tl_D (by decide) (by simp; omega) (by simp) (by simp; omega), tl_K (by omega) (by simp; omega) (by simp) (by simp; omega), tl_K (by decide) (by simp) (by simp; omega) (by simp), apply_To.l]
  simp
theorem tie_p3 (hu : Runes u) (hul : u.length ≤ 9) (hus : (enc u).size ≤ 36) (hv : Runes v) (hvl : v.length ≤ 9) (hvs : (enc v).size ≤ 36) (k : Nat) (hk : 30 ≤ k) : apply_To.f k [sK 1, sI v, sK (u.length + 1)] (enc ([97] ++ u ++ [99])) = some (enc ([97] ++ v ++ u ++ [99]), 0) := by
  have ob := oks okK1 (oks (okI hv (by omega)) (oks (okK (n := (u.length : Int) + 1) (by omega) (by omega)) oks0))
  have r97 := runes_ascii (c := 97) (by decide) (by decide)
  have r99 := runes_ascii (c := 99) (by decide) (by decide)
  have e1 : (enc [97]).size = 1 := by decide
  have e2 : (enc [99]).size = 1 := by decide
  refine to_ok ob (in_ok (by simp; omega) ob (by simp)) ((r97.append hu).append r99) (by rw [enc_size_app, enc_size_app]; omega) (by simp; omega) (by simp) ?_ (((r97.append hv).append hu).append r99) hk
  rw [tl_K (by decide) (by simp; omega) (by decide) (by simp; omega), tl_I hv (by omega) (by simp) (by simp; omega), tl_K (by omega) (by simp) (by simp; omega) (by simp; omega), apply_To.l]
  simp [show ((u.length : Int) + 1).toNat = u.length + 1 by omega, List.take_of_length_le (show (u ++ [99]).length ≤ u.length + 1 by simp)]
theorem tie_q1 (k : Nat) (hk : 30 ≤ k) : apply_To.f k [sK 1, sD 1, sK 1] (enc [97, 98, 99]) = some (enc [97, 99], 0) := up (apply_To.mono _ _) hk (by kernel_rfl)
theorem tie_q2 (hu : Runes u) (hul : u.length ≤ 9) (hus : (enc u).size ≤ 36) (k : Nat) (hk : 30 ≤ k) : apply_To.f k [sK 1, sI u, sK 1] (enc [97, 99]) = some (enc ([97] ++ u ++ [99]), 0) := by
  have ob := oks okK1 (oks (okI hu (by omega)) (oks okK1 oks0))
  have r97 := runes_ascii (c := 97) (by decide) (by decide)
  have r99 := runes_ascii (c := 99) (by decide) (by decide)
  refine to_ok (s := [97, 99]) ob (in_ok (by simp) ob (by simp)) (r97.append r99) (by decide) (by decide) (by simp) ?_ ((r97.append hu).append r99) hk
  rw [tl_K (by decide) (by decide) (by decide) (by decide), tl_I hu (by omega) (by simp) (by simp), tl_K (by decide) (by simp) (by simp; omega) (by simp), apply_To.l]
  simp
theorem tie_q3 (hu : Runes u) (hul : u.length ≤ 9) (hus : (enc u).size ≤ 36) (hv : Runes v) (hvl : v.length ≤ 9) (hvs : (enc v).size ≤ 36) (k : Nat) (hk : 30 ≤ k) : apply_To.f k [sK (1 + u.length), sI v, sK 1] (enc ([97] ++ u ++ [99])) = some (enc ([97] ++ u ++ v ++ [99]), 0) := by
  have ob := oks (okK (n := 1 + (u.length : Int)) (by omega) (by omega)) (oks (okI hv (by omega)) (oks okK1 oks0))
  have r97 := runes_ascii (c := 97) (by decide) (by decide)
  have r99 := runes_ascii (c := 99) (by decide) (by decide)
  have e1 : (enc [97]).size = 1 := by decide
  have e2 : (enc [99]).size = 1 := by decide
  refine to_ok ob (in_ok (by simp; omega) ob (by simp)) ((r97.append hu).append r99) (by rw [enc_size_app, enc_size_app]; omega) (by simp; omega) (by simp) ?_ (((r97.append hu).append hv).append r99) hk
  rw [tl_K (by omega) (by simp; omega) (by decide) (by simp; omega), show (1 + (u.length : Int)).toNat = ([97] ++ u).length by simp; omega, List.drop_left, List.take_left, tl_I hv (by omega) (by simp; omega) (by simp), tl_K (by decide) (by simp) (by simp; omega) (by simp), apply_To.l]
  simp
theorem same_go (l : List S25) : ∀ (d i k : Nat), l.length - i = d → i ≤ l.length → l.length ≤ 1000 → d + 1 ≤ k → epitomeref04_Same.l0 k l l (i : Int) = some true := by
  intro d
  induction d with
  | zero =>
    intro i k hd hi hl hk
    obtain ⟨k, rfl⟩ : ∃ j, k = j + 1 := ⟨k - 1, by omega⟩
    rw [epitomeref04_Same.l0, if_neg (by omega)]
  | succ d ih =>
    intro i k hd hi hl hk
    obtain ⟨k, rfl⟩ : ∃ j, k = j + 1 := ⟨k - 1, by omega⟩
    rw [epitomeref04_Same.l0, if_pos (by omega), if_pos (by omega), if_pos (by omega), if_neg (by simp), w64 (by omega) (by omega), show (i : Int) + 1 = ((i + 1 : Nat) : Int) by omega]
    exact ih (i + 1) k (by omega) (by omega) hl (by omega)
theorem same_ok (l : List S25) (k : Nat) (hl : l.length ≤ 20) (hk : 30 ≤ k) : epitomeref04_Same.f k l l = some true := by
  unfold epitomeref04_Same.f
  rw [if_pos rfl]
  exact same_go l _ 0 k rfl (Nat.zero_le _) (by omega) (by omega)
theorem tie_same (k : Nat) : epitomeref04_Same.f (k + 30) [sK 1, sD 1, sI u, sK 1] [sK 1, sI u, sD 1, sK 1] = some false := by
  unfold epitomeref04_Same.f
  rw [if_pos (by simp), epitomeref04_Same.l0, if_pos (by simp), if_pos (by decide), if_pos (by simp), if_neg (by simp [rd_T25]), show wrap64 (0 + 1) = 1 from by simp [wrap64], epitomeref04_Same.l0, if_pos (by simp), if_pos (by decide), if_pos (by simp), if_pos (by simp [rd_T25])]
end
theorem cut8 (a : ByteArray) : 0 ≤ mn (a.size : Int) 8 ∧ mn (a.size : Int) 8 ≤ (a.size : Int) ∧ (a.extract 0 (mn (a.size : Int) 8).toNat).size ≤ 8 := by
  have m := mn_le (a.size : Int) 8
  have h : 0 ≤ mn (a.size : Int) 8 := by rcases m.2.2 with h | h <;> omega
  refine ⟨h, m.1, ?_⟩
  rw [ByteArray.size_extract]
  omega
theorem rd0 (x y : List S25) : rd_L3 [x, y] 0 = x := rfl
theorem rd1 (x y : List S25) : rd_L3 [x, y] 1 = y := rfl
theorem TopTie : epitometop_TopTie.Pure := by
  intro a0 a1 _ _
  obtain ⟨s0, s1, s2⟩ := cut8 a0
  obtain ⟨t0, t1, t2⟩ := cut8 a1
  have b97 : (⟨#[97]⟩ : ByteArray).size = 1 := rfl
  have b98 : (⟨#[98]⟩ : ByteArray).size = 1 := rfl
  obtain ⟨u, eu, hu, hu0, hul, hus⟩ := fit_top ((⟨#[97]⟩ : ByteArray) ++ a0.extract 0 (mn (a0.size : Int) 8).toNat) (by rw [ByteArray.size_append]; omega) (by rw [ByteArray.size_append]; omega) 100 (by decide)
  obtain ⟨v, ev, hv, hv0, hvl, hvs⟩ := fit_top ((⟨#[98]⟩ : ByteArray) ++ a1.extract 0 (mn (a1.size : Int) 8).toNat) (by rw [ByteArray.size_append]; omega) (by rw [ByteArray.size_append]; omega) 100 (by decide)
  have r97 := runes_ascii (c := 97) (by decide) (by decide)
  have r99 := runes_ascii (c := 99) (by decide) (by decide)
  have abc : (⟨#[97, 98, 99]⟩ : ByteArray) = enc [97, 98, 99] := by decide
  have ea : (⟨#[97]⟩ : ByteArray) = enc [97] := by decide
  have ec : (⟨#[99]⟩ : ByteArray) = enc [99] := by decide
  refine ⟨100, ?_⟩
  unfold epitometop_TopTie.f
  rw [shown_top 100 (by decide), Option.bind_some, if_pos s0, if_pos s1, if_pos (by omega), eu, Option.bind_some, if_pos t0, if_pos t1, if_pos (by omega), ev, Option.bind_some, count_ok hu (by omega), Option.bind_some, Option.bind_some, Option.bind_some, Option.bind_some]
  rw [tie_f1 hu hu0 hul hus 70, Option.bind_some, tie_f2 hu hu0 hul hus 70, Option.bind_some, tie_t1 hu hul hus hu0 hv hv0 hvs 70, Option.bind_some, tie_t2 hu hul hus hu0 hv hv0 hvs 70, Option.bind_some, tie_o5 hu hul hus hu0 hv hv0 hvs 70, Option.bind_some, tie_o6 hu hul hus hu0 hv hv0 hvs 70, Option.bind_some]
  rw [if_pos (by simp), if_pos (by simp), rd0, rd1, abc, all_ok (k := 60) (tie_p1 hu hul hus) (tie_p2 hu hul hus) (tie_p3 hu hul hus hv hvl hvs), Option.bind_some, if_pos (by simp), if_pos (by simp), rd0, rd1, all_ok (k := 60) tie_q1 (tie_q2 hu hul hus) (tie_q3 hu hul hus hv hvl hvs), Option.bind_some]
  rw [if_pos rfl, if_pos rfl, if_pos rfl, if_pos rfl, if_pos rfl, if_pos rfl, if_pos rfl, if_pos rfl, if_pos rfl, tie_same 70, Option.bind_some, if_neg (by decide), same_ok _ _ (by simp) (by decide), Option.bind_some, if_pos rfl, same_ok _ _ (by simp) (by decide), Option.bind_some, if_pos rfl]
  rw [if_pos (by omega), if_pos (by omega), if_pos (by omega), ea, ec, enc_append, enc_append, enc_append, if_pos rfl, if_pos (by omega), if_pos (by omega), if_pos (by omega)]
  simp [enc_append]
end Go.Proofs.YtegjegihcebimaaDoor.Pure
