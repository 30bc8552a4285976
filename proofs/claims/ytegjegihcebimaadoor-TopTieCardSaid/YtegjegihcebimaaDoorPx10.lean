-- WRITTEN BY A PROGRAM OF THIS SESSION (wip/pp in its repo), made after the kit's print
import Derived.Test.YtegjegihcebimaaDoorPx0
import Derived.Test.YtegjegihcebimaaDoorPx2
import Derived.Test.YtegjegihcebimaaDoorPx9
namespace Go.Proofs.YtegjegihcebimaaDoor.P
open Go.RowKit Go.Proofs.YtegjegihcebimaaDoorW.PrintWords Go.Proofs.YtegjegihcebimaaDoorW.PrintLast Go.Proofs.YtegjegihcebimaaDoorW.PrintMore
attribute [local go_sem] max2_int min2_int max_two min_two max_three min_three max_four min_four   -- for this text's walks alone
set_option linter.unusedVariables false
set_option linter.unusedSimpArgs false

/-! ### fuse_Of: function 11 -/
def rowsAt (xs : List (List S25)) (i : Nat) : List S25 := xs.getD i []
theorem at_rows {w : World} {A : Option Addr} {xs : List (List S25)} (h : Kd.C (Kd.slice 25 k25) w A xs.length xs) (i : Nat) (h1 : i < xs.length) : ∃ (ad : Addr) (A0 : Option Addr) (c0 : Nat), A = some ad ∧ w.cell? (ad.add i) = some (.slice A0 (rowsAt xs i).length c0) ∧ (rowsAt xs i).length ≤ c0 ∧ k25.C w A0 (rowsAt xs i).length (rowsAt xs i) := by
  obtain ⟨ad, c, e, _, hK, hc0⟩ := Kd.C_get h ([] : List S25) (i : Int) (by omega) (by omega)
  have hc : ∀ j u, c[j]? = some u → w.cell? (ad.add (i * 1 + j)) = some u := hc0
  obtain ⟨A0, c0, rfl, l0, g0⟩ := hK
  exact ⟨ad, A0, c0, e, by have hq := hc 0 _ rfl; rwa [Nat.mul_one, Nat.add_zero] at hq, l0, g0⟩
theorem rows_next (l : List (List S25)) (j : Nat) (h : j < l.length) : l.drop j = rowsAt l j :: l.drop (j + 1) := by
  rw [List.drop_eq_getElem_cons h]
  unfold rowsAt
  rw [List.getD_eq_getElem?_getD, List.getElem?_eq_getElem h]
  rfl
def fuse_Of.l (k : Nat) : List S25 → List (List S25) → Option (List S25 × Int)
  | x, [] => some (x, 0)
  | x, y :: l => (compose_Of.f k x y).bind fun r => if r.2 = 0 then fuse_Of.l k r.1 l else some ([], r.2)
theorem fuse_Of.mono_l (k : Nat) : ∀ (l : List (List S25)) (x : List S25), LeO (fuse_Of.l k x l) (fuse_Of.l (k + 1) x l)
  | [], x => LeO.refl _
  | y :: l, x => by
    unfold fuse_Of.l
    exact LeO.bind (compose_Of.mono _ _ _) fun r => LeO.ite (fuse_Of.mono_l k l _) (LeO.refl _)
def fuse_Of.f (k : Nat) (a0 : Int) (l1 : List (List S25)) : Option (List S25 × Int) := if l1.length < 1000000000 then (op_Keep.f k a0).bind fun t => (if t.2 = 0 then fuse_Of.l k t.1 l1 else some ([], t.2)) else none
theorem fuse_Of.mono (a0 : Int) (l1 : List (List S25)) (k : Nat) : LeO (fuse_Of.f k a0 l1) (fuse_Of.f (k + 1) a0 l1) := by
  unfold fuse_Of.f
  exact LeO.ite (LeO.bind (op_Keep.mono _ _) fun t => LeO.ite (fuse_Of.mono_l k _ _) (LeO.refl _)) (LeO.none _)
theorem fuse_Of.wrap {j n : Nat} (h : j < n) (hn : n < 1000000000) : wrap64 ((j : Int) + 1) = ((j + 1 : Nat) : Int) := by unfold wrap64; omega
set_option maxHeartbeats 8000000 in
set_option maxRecDepth 100000 in
theorem fuse_Of.fold (k : Nat) (v : Value) (xs : List S25) (A1 : Option Addr) (c1 : Nat) (l1 : List (List S25)) (r1 : List S25) (r2 : Int) (w0 w : World) (hO : Kd.R k25 25 w w0.heap.size (fun _ => True) v xs) (hB : Below w0.heap.size w0 w)
    (hr1 : Kd.C (Kd.slice 25 k25) w A1 l1.length l1) (hs : l1.length < 1000000000) (hT : Tabs w) (h : fuse_Of.l k xs l1 = some (r1, r2)) :
    Calls Tryd.prog 43 #[v, .slice A1 l1.length c1, .func (Fn.func 44) #[] #[]] w fun e w' => ∃ v0_ : Value, e = .returned (.tuple #[v0_, .int .i64 r2]) ∧ Kd.R k25 25 w' w0.heap.size (fun _ => True) v0_ r1 ∧ Below w0.heap.size w0 w' := by
  have HR1 := Aside0.mk hr1; have HT := Aside0.mk hT; have HZ := Aside0.mk hs; have HO := Aside0.mk hO; have HB := Aside0.mk hB; have H := Aside0.mk h
  clear hr1 hT hs hO hB h
  go_enter Tryd.func43, Tryd.ntmps43
  go_wp2
  go_loopw [0, 9, 10, 11, 12, 15] (fun v0 _ _ _ _ v15 wr => ∃ j : Nat, v15 = .int .i64 j ∧ j ≤ l1.length ∧ ∃ x : List S25, Aside0 (fuse_Of.l k x (l1.drop j) = some (r1, r2)) ∧ Aside0 (Kd.R k25 25 wr w0.heap.size (fun _ => True) v0 x) ∧ Aside0 (Below w0.heap.size w0 wr) ∧ Aside0 (Below w.heap.size w wr)) (fun _ _ _ _ _ v15 _ => l1.length - (intOf v15).toNat)
  case atStart => exact ⟨0, rfl, Nat.zero_le _, xs, H, HO, HB, ⟨Below.refl _ _⟩⟩
  case round =>
    clear H HO HB
    obtain ⟨j, rfl, hj, x, HA, HO, HB, HW⟩ := hrel
    obtain ⟨Ax, cx, rfl, hcx, hCx⟩ := Kd.R_reads HO.out
    by_cases hlt : j < l1.length
    · have hltb : decide ((j : Int) < (l1.length : Int)) = true := decide_eq_true (by omega)
      have HL := Aside0.mk hlt
      have h := HA.out
      clear HA
      rw [rows_next l1 j hlt, fuse_Of.l] at h
      obtain ⟨r, hr, h2⟩ := Option.bind_eq_some_iff.mp h
      clear h
      obtain ⟨ad, Ay, cy, rfl, hx0, hcy, hCy⟩ := at_rows (Kd.C_below HR1.out HW.out) j hlt
      have p1 : (0 ≤ (j : Int)) = True := eq_true (by omega)
      have p2 : ((j : Int) < (l1.length : Int)) = True := eq_true (by omega)
      have p3 : (j < l1.length) = True := eq_true hlt
      have ew := fuse_Of.wrap hlt HZ.out
      have HCX := Aside0.mk hCx; have HCXX := Aside0.mk hcx; have HCY := Aside0.mk hCy; have HCYY := Aside0.mk hcy; have HRR := Aside0.mk hr
      clear hlt hr hCx hcx hCy hcy hj
      generalize rowsAt l1 j = y at *
      by_cases z : r.2 = 0
      · rw [if_pos z] at h2
        have zb : (r.2 != 0) = false := bne_eq_false_iff_eq.mpr z
        have HE := Aside0.mk h2
        clear h2 z
        go_wp2_with (go_at_call 44; (with_reducible refine (compose_Of.calls k Ax cx x Ay cy y r.1 r.2 _ HCX.out HCXX.out HCY.out HCYY.out (Tabs.below HT.out HW.out) HRR.out).mono ?_); rintro e w1 ⟨v1, rfl, ho, hb⟩; have HO1 := Aside0.mk (Kd.R_lower ho HB.out.size); have HB1 := Aside0.mk (below_then HB.out HB.out.size hb); have HW1 := Aside0.mk (below_then HW.out HW.out.size hb); clear ho hb)
        go_round
        case measure => exact op_sum.less HL.out ew
        case rel => exact ⟨j + 1, by rw [ew], HL.out, r.1, HE, HO1, HB1, HW1⟩
      · rw [if_neg z] at h2
        have zb : (r.2 != 0) = true := bne_iff_ne.mpr z
        simp only [Option.some.injEq, Prod.mk.injEq] at h2
        obtain ⟨rfl, rfl⟩ := h2
        clear z
        go_wp2_with (go_at_call 44; (with_reducible refine (compose_Of.calls k Ax cx x Ay cy y r.1 r.2 _ HCX.out HCXX.out HCY.out HCYY.out (Tabs.below HT.out HW.out) HRR.out).mono ?_); rintro e w1 ⟨v1, rfl, ho, hb⟩; have HB1 := Aside0.mk (below_then HB.out HB.out.size hb); clear ho hb)
        go_ret2
        exact ⟨_, rfl, Kd.R_nil _ _ _ _ _, HB1.out⟩
    · have hltb : decide ((j : Int) < (l1.length : Int)) = false := decide_eq_false (by omega)
      have h := HA.out
      clear HA
      rw [List.drop_of_length_le (by omega), fuse_Of.l] at h
      simp only [Option.some.injEq, Prod.mk.injEq] at h
      obtain ⟨rfl, rfl⟩ := h
      go_wp2
      go_ret2
      exact ⟨_, rfl, HO.out, HB.out⟩
set_option maxHeartbeats 8000000 in
set_option maxRecDepth 100000 in
theorem fuse_Of.calls (k : Nat) (a0 : Int) (A1 : Option Addr) (c1 : Nat) (l1 : List (List S25)) (r1 : List S25) (r2 : Int) (w : World) (hr1 : Kd.C (Kd.slice 25 k25) w A1 l1.length l1) (hc1 : l1.length ≤ c1) (hT : Tabs w) (h : fuse_Of.f k a0 l1 = some (r1, r2)) :
    Calls Tryd.prog 11 #[.int .i64 a0, .slice A1 l1.length c1] w fun e w' => ∃ v0_ : Value, e = .returned (.tuple #[v0_, .int .i64 r2]) ∧ Kd.R k25 25 w' w.heap.size (fun _ => True) v0_ r1 ∧ Below w.heap.size w w' := by
  unfold fuse_Of.f at h
  by_cases c : l1.length < 1000000000
  · rw [if_pos c] at h
    obtain ⟨t, ht, h⟩ := Option.bind_eq_some_iff.mp h
    have HR1 := Aside0.mk hr1; have HT := Aside0.mk hT; have HZ := Aside0.mk c; have HK := Aside0.mk ht
    clear hr1 hc1 hT c ht
    by_cases z : t.2 = 0
    · rw [if_pos z] at h
      have zb : (t.2 != 0) = false := bne_eq_false_iff_eq.mpr z
      have H := Aside0.mk h
      clear h z
      go_enter Tryd.func11, Tryd.ntmps11
      go_wp2_with (first | (go_at_call 42; (with_reducible refine (op_Keep.calls k a0 t.1 t.2 _ HK.out).mono ?_); rintro e w1 ⟨v1, rfl, ho, hb⟩; have HO1 := Aside0.mk ho; have HB1 := Aside0.mk hb; clear ho hb) | (go_at_call 43; (with_reducible refine (fuse_Of.fold k v1 t.1 A1 c1 l1 r1 r2 w w1 HO1.out HB1.out (Kd.C_below HR1.out HB1.out) HZ.out (Tabs.below HT.out HB1.out) H.out).mono ?_); rintro e w2 ⟨v2, rfl, ho, hb⟩; have HO2 := Aside0.mk ho; have HB2 := Aside0.mk hb; clear ho hb))
      go_ret2
      exact ⟨_, rfl, HO2.out, HB2.out⟩
    · rw [if_neg z] at h
      have zb : (t.2 != 0) = true := bne_iff_ne.mpr z
      simp only [Option.some.injEq, Prod.mk.injEq] at h
      obtain ⟨rfl, rfl⟩ := h
      clear z
      go_enter Tryd.func11, Tryd.ntmps11
      go_wp2_with (go_at_call 42; (with_reducible refine (op_Keep.calls k a0 t.1 t.2 _ HK.out).mono ?_); rintro e w1 ⟨v1, rfl, ho, hb⟩; have HB1 := Aside0.mk hb; clear ho hb)
      go_ret2
      exact ⟨_, rfl, Kd.R_nil _ _ _ _ _, HB1.out⟩
  · rw [if_neg c] at h; cases h

end Go.Proofs.YtegjegihcebimaaDoor.P
