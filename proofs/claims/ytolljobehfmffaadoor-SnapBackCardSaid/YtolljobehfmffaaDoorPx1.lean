-- WRITTEN BY A PROGRAM OF THIS SESSION (wip/pp in its repo), made after the kit's print
import Derived.Test.YtolljobehfmffaaDoorPx0
namespace Go.Proofs.YtolljobehfmffaaDoor.P
open Go.RowKit Go.Proofs.YtolljobehfmffaaDoorW.PrintWords Go.Proofs.YtolljobehfmffaaDoorW.PrintLast Go.Proofs.YtolljobehfmffaaDoorW.PrintMore
attribute [local go_sem] max2_int min2_int max_two min_two max_three min_three max_four min_four   -- for this text's walks alone
set_option linter.unusedVariables false
set_option linter.unusedSimpArgs false

/-! ### points_Valid: function 18 -/
def points_Valid.f (a0 : ByteArray) : Option Bool := if a0.size < 9223372036854775807 then some (validT a0) else none
set_option maxHeartbeats 8000000 in
set_option maxRecDepth 100000 in
theorem points_Valid.calls (a0 : ByteArray) (r : Bool) (w : World) (hT : Tabs w) (h : points_Valid.f a0 = some r) :
    Calls Tryd.prog 18 #[.string a0] w fun e w' => e = .returned (.bool r) ∧ Below w.heap.size w w' := by
  unfold points_Valid.f at h
  by_cases c : a0.size < 9223372036854775807
  · rw [if_pos c] at h
    obtain rfl := Option.some.inj h
    clear h
    have hc := valid_calls a0 w (by omega) hT
    have HC := Aside0.mk hc
    clear hc c
    have e : Lib.validD a0.data.toList = validT a0 := rfl
    rw [e] at HC
    generalize validT a0 = v at HC
    clear e
    go_enter Tryd.func18, Tryd.ntmps18
    go_wp2_with (go_at_call 38; (with_reducible refine (HC.out).mono ?_); rintro e w1 ⟨rfl, hb⟩)
    go_ret
    exact ⟨rfl, hb⟩
  · rw [if_neg c] at h; cases h

/-! ### points_Count: function 20 -/
def points_Count.f (a0 : ByteArray) : Option Int := if a0.size < 9223372036854775807 then some (countT a0) else none
/-- What holds at the head of 'for range s', behind k code points. -/
def points_Count.J (s : ByteArray) (B : Nat) (w0 : World) (k : Nat) (wr : World) : Prop :=
  (∃ b, k + Lib.runeCountFrom s b (posT s k) = Lib.runeCount s ∧ s.size ≤ posT s k + b) ∧ k ≤ Lib.runeCount s ∧ Below B w0 wr
theorem points_Count.start (w1 : World) (s : ByteArray) : (w1.iter s 0).heap[w1.heap.size]? = some (.stringIter s (posT s 0)) := by
  show (w1.heap.push _)[w1.heap.size]? = _
  rw [Array.getElem?_push_size]; rfl
set_option maxHeartbeats 8000000 in
set_option maxRecDepth 100000 in
theorem points_Count.calls (a0 : ByteArray) (r : Int) (w : World) (hT : Tabs w) (h : points_Count.f a0 = some r) :
    Calls Tryd.prog 20 #[.string a0] w fun e w' => e = .returned (.int .i64 r) ∧ Below w.heap.size w w' := by
  unfold points_Count.f at h
  by_cases c : a0.size < 9223372036854775807
  · rw [if_pos c] at h
    obtain rfl := Option.some.inj h
    clear h
    have hv := points_Valid.calls a0 (validT a0) w hT (by unfold points_Valid.f; rw [if_pos c])
    have HV := Aside0.mk hv
    clear hv
    have HS := Aside0.mk c
    by_cases v : validT a0 = true
    · have HR : Aside0 (countT a0 = (Lib.runeCount a0 : Int)) := ⟨by unfold countT; rw [if_pos v]⟩
      rw [HR.out]
      rw [v] at HV
      clear v HR
      go_enter Tryd.func20, Tryd.ntmps20
      go_wp2_with (go_at_call 18; (with_reducible refine (HV.out).mono ?_); rintro e w1 ⟨rfl, hb⟩)
      have HB := Aside0.mk hb
      clear hb
      go_loopw [3] (fun v3 wr => ∃ k : Nat, v3 = .int .i64 k ∧ wr.heap[w1.heap.size]? = some (.stringIter a0 (posT a0 k)) ∧ Aside0 (points_Count.J a0 w.heap.size w k wr)) (fun _ wr => a0.size - wr.iterPos w1.heap.size)
      case atStart => exact ⟨0, rfl, points_Count.start w1 a0, ⟨⟨a0.size, by simp [posT, Lib.runeCount], by simp [posT]⟩, Nat.zero_le _, HB.out.alloc HB.out.size _⟩⟩
      case round =>
        obtain ⟨k, rfl, hit, HJ⟩ := hrel
        have HI := Aside0.mk hit
        have hcnt := runeCount_lt a0
        have hsz := HS.out
        by_cases hp : posT a0 k < a0.size
        · have hnx : ∀ ty, (Instr.next (.pointer (some ⟨w1.heap.size, 0, none⟩)) true ty).run Tryd.prog wr = _ := fun ty => Lib.run_next_any_at wr w1.heap.size a0 (posT a0 k) ty hit hp
          have hk := HJ.out.2.1
          clear hit
          go_wp2
          have hwd := Lib.decode_width_pos a0 (posT a0 k) hp
          obtain ⟨⟨b, j1, j2⟩, j3, j4⟩ := HJ.out
          have hj := runeCount_from a0 k b j1 j2 hp
          have e : posT a0 (k + 1) = posT a0 k + (Utf8.decode a0 (posT a0 k)).2 := by rw [posT, if_pos hp]
          go_roundw
          case rel =>
            exact ⟨k + 1, by go_num, by rw [e]; exact Lib.iterAt_heap _ _ _ _ _ HI.out, ⟨⟨⟨b - 1, hj.1, hj.2⟩, by omega, Lib.below_iterAt j4 HB.out.size _ _⟩⟩⟩
          case measure =>
            have h1 : wr.iterPos w1.heap.size = posT a0 k := by simp [World.iterPos, HI.out]
            rw [h1]
            simp [World.iterPos, Lib.iterAt_heap _ _ _ _ _ HI.out]
            omega
        · have hnx : ∀ ty, (Instr.next (.pointer (some ⟨w1.heap.size, 0, none⟩)) true ty).run Tryd.prog wr = _ := fun ty => Lib.run_next_end_at wr w1.heap.size a0 (posT a0 k) ty hit hp
          obtain ⟨⟨b, j1, j2⟩, j3, j4⟩ := HJ.out
          rw [Lib.runeCountFrom_end a0 b _ hp, Nat.add_zero] at j1
          have J1 := Aside0.mk j1
          clear hit j1
          go_wp2
          go_ret
          exact ⟨by rw [J1.out]; rfl, j4⟩
    · have v' : validT a0 = false := by simpa using v
      have HR : Aside0 (countT a0 = -1) := ⟨by unfold countT; rw [if_neg v]⟩
      rw [HR.out]
      rw [v'] at HV
      clear v v' HR
      go_enter Tryd.func20, Tryd.ntmps20
      go_wp2_with (go_at_call 18; (with_reducible refine (HV.out).mono ?_); rintro e w1 ⟨rfl, hb⟩)
      go_ret
      exact ⟨rfl, hb⟩
  · rw [if_neg c] at h; cases h

/-! ### points_Cut: function 16 -/
def points_Cut.f (a0 : ByteArray) (a1 a2 : Int) : Option (ByteArray × Int) := if a0.size < 9223372036854775807 then some (cutF a0 a1 a2) else none
/-- What is found of a place, behind k code points. -/
def points_Cut.at (s : ByteArray) (a : Int) (k : Nat) : Int := if a < k then (posT s a.toNat : Int) else (s.size : Int)
theorem points_Cut.at_zero (s : ByteArray) {a : Int} (h : 0 ≤ a) : points_Cut.at s a 0 = (s.size : Int) := by
  unfold points_Cut.at; rw [if_neg (by simpa using h)]
theorem points_Cut.at_now (s : ByteArray) {a : Int} {k : Nat} (h : (k : Int) = a) : points_Cut.at s a (k + 1) = (posT s k : Int) := by
  unfold points_Cut.at; rw [if_pos (by omega), show a.toNat = k from by omega]
theorem points_Cut.at_else (s : ByteArray) {a : Int} {k : Nat} (h : ¬ (k : Int) = a) : points_Cut.at s a (k + 1) = points_Cut.at s a k := by
  unfold points_Cut.at
  by_cases c : a < k
  · rw [if_pos c, if_pos (by omega)]
  · rw [if_neg c, if_neg (by omega)]
theorem points_Cut.at_end (s : ByteArray) {a : Int} (h0 : 0 ≤ a) (h : a ≤ Lib.runeCount s) (he : ¬ posT s (Lib.runeCount s) < s.size) : points_Cut.at s a (Lib.runeCount s) = (posT s a.toNat : Int) := by
  unfold points_Cut.at
  by_cases c : a < Lib.runeCount s
  · rw [if_pos c]
  · rw [if_neg c, show a.toNat = Lib.runeCount s from by omega, posT_end s he]
theorem points_Cut.at_range (s : ByteArray) (a : Int) (k : Nat) : 0 ≤ points_Cut.at s a k ∧ points_Cut.at s a k ≤ s.size := by
  have := posT_le s a.toNat
  unfold points_Cut.at; split <;> omega
theorem points_Cut.next {a0 : ByteArray} {w w1 wr : World} {k : Nat} (HJ : Aside0 (points_Count.J a0 w.heap.size w k wr)) (HP : Aside0 (posT a0 k < a0.size)) (HB : Aside0 (Below w.heap.size w w1)) (HI : Aside0 (wr.heap[w1.heap.size]? = some (.stringIter a0 (posT a0 k)))) :
    Aside0 (points_Count.J a0 w.heap.size w (k + 1) (wr.iterAt w1.heap.size a0 (posT a0 k + (Utf8.decode a0 (posT a0 k)).2))) := by
  obtain ⟨⟨b, j1, j2⟩, j3, j4⟩ := HJ.out
  have hj := runeCount_from a0 k b j1 j2 HP.out
  exact ⟨⟨b - 1, hj.1, hj.2⟩, by omega, Lib.below_iterAt j4 HB.out.size _ _⟩
theorem points_Cut.less {a0 : ByteArray} {w1 wr : World} {k : Nat} (HP : Aside0 (posT a0 k < a0.size)) (HI : Aside0 (wr.heap[w1.heap.size]? = some (.stringIter a0 (posT a0 k)))) :
    a0.size - (wr.iterAt w1.heap.size a0 (posT a0 k + (Utf8.decode a0 (posT a0 k)).2)).iterPos w1.heap.size < a0.size - wr.iterPos w1.heap.size := by
  have hp := HP.out
  have hwd := Lib.decode_width_pos a0 (posT a0 k) hp
  have h1 : wr.iterPos w1.heap.size = posT a0 k := by simp [World.iterPos, HI.out]
  rw [h1]
  simp [World.iterPos, Lib.iterAt_heap _ _ _ _ _ HI.out]
  omega
set_option maxHeartbeats 8000000 in
set_option maxRecDepth 100000 in
theorem points_Cut.calls (a0 : ByteArray) (a1 a2 : Int) (r1 : ByteArray) (r2 : Int) (w : World) (hT : Tabs w) (h : points_Cut.f a0 a1 a2 = some (r1, r2)) :
    Calls Tryd.prog 16 #[.string a0, .int .i64 a1, .int .i64 a2] w fun e w' => e = .returned (.tuple #[.string r1, .int .i64 r2]) ∧ Below w.heap.size w w' := by
  unfold points_Cut.f at h
  by_cases c : a0.size < 9223372036854775807
  · rw [if_pos c] at h
    have h2 := Option.some.inj h
    clear h
    have HV := Aside0.mk (points_Count.calls a0 (countT a0) w hT (by unfold points_Count.f; rw [if_pos c]))
    have HS := Aside0.mk c
    unfold cutF at h2
    by_cases v : countT a0 < 0
    · rw [if_pos v] at h2
      simp only [Prod.mk.injEq] at h2
      obtain ⟨rfl, rfl⟩ := h2
      generalize countT a0 = n at HV v
      have vb : decide (n < 0) = true := decide_eq_true v
      clear v
      go_enter Tryd.func16, Tryd.ntmps16
      go_wp2_with (go_at_call 20; (with_reducible refine (HV.out).mono ?_); rintro e w1 ⟨rfl, hb⟩)
      go_ret2
      exact ⟨rfl, hb⟩
    · rw [if_neg v] at h2
      by_cases g : a1 < 0 ∨ a2 < a1 ∨ countT a0 < a2
      · rw [if_pos g] at h2
        simp only [Prod.mk.injEq] at h2
        obtain ⟨rfl, rfl⟩ := h2
        generalize countT a0 = n at HV v g
        have vb : decide (n < 0) = false := decide_eq_false v
        clear v
        by_cases g1 : a1 < 0
        · have g1b : decide (a1 < 0) = true := decide_eq_true g1
          clear g g1
          go_enter Tryd.func16, Tryd.ntmps16
          go_wp2_with (go_at_call 20; (with_reducible refine (HV.out).mono ?_); rintro e w1 ⟨rfl, hb⟩)
          go_ret2
          exact ⟨rfl, hb⟩
        · have g1b : decide (a1 < 0) = false := decide_eq_false g1
          by_cases g2 : a2 < a1
          · have g2b : decide (a2 < a1) = true := decide_eq_true g2
            clear g g1 g2
            go_enter Tryd.func16, Tryd.ntmps16
            go_wp2_with (go_at_call 20; (with_reducible refine (HV.out).mono ?_); rintro e w1 ⟨rfl, hb⟩)
            go_ret2
            exact ⟨rfl, hb⟩
          · have g2b : decide (a2 < a1) = false := decide_eq_false g2
            have g3b : decide (n < a2) = true := decide_eq_true (by omega)
            clear g g1 g2
            go_enter Tryd.func16, Tryd.ntmps16
            go_wp2_with (go_at_call 20; (with_reducible refine (HV.out).mono ?_); rintro e w1 ⟨rfl, hb⟩)
            go_ret2
            exact ⟨rfl, hb⟩
      · rw [if_neg g] at h2
        simp only [Prod.mk.injEq] at h2
        obtain ⟨h2, rfl⟩ := h2
        have H2 := Aside0.mk h2
        have g1 : 0 ≤ a1 := by omega
        have g2 : a1 ≤ a2 := by omega
        have g3 : a2 ≤ countT a0 := by omega
        have g1b : decide (a1 < 0) = false := decide_eq_false (by omega)
        have g2b : decide (a2 < a1) = false := decide_eq_false (by omega)
        have hv : countT a0 = (Lib.runeCount a0 : Int) := by unfold countT at v ⊢; split <;> simp_all
        have hcnt := runeCount_lt a0
        rw [hv] at HV g3
        have vb : decide (((Lib.runeCount a0 : Nat) : Int) < 0) = false := decide_eq_false (by omega)
        have g3b : decide (((Lib.runeCount a0 : Nat) : Int) < a2) = false := decide_eq_false (by omega)
        have G1 := Aside0.mk g1; have G2 := Aside0.mk g2; have G3 := Aside0.mk g3
        clear h2 v g hv g1 g2 g3
        go_enter Tryd.func16, Tryd.ntmps16
        go_wp2_with (go_at_call 20; (with_reducible refine (HV.out).mono ?_); rintro e w1 ⟨rfl, hb⟩)
        have HB := Aside0.mk hb
        clear hb vb g1b g2b g3b
        go_loopw [9, 10, 11, 12] (fun v9 v10 v11 v12 wr => ∃ k : Nat, v9 = .int .i64 (points_Cut.at a0 a1 k) ∧ v10 = .int .i64 (points_Cut.at a0 a2 k) ∧ v11 = .int .i64 k ∧ wr.heap[w1.heap.size]? = some (.stringIter a0 (posT a0 k)) ∧ Aside0 (points_Count.J a0 w.heap.size w k wr)) (fun _ _ _ _ wr => a0.size - wr.iterPos w1.heap.size)
        case atStart => exact ⟨0, by rw [points_Cut.at_zero a0 G1.out], by rw [points_Cut.at_zero a0 (by have := G1.out; have := G2.out; omega)], rfl, points_Count.start w1 a0, ⟨⟨a0.size, by simp [posT, Lib.runeCount], by simp [posT]⟩, Nat.zero_le _, HB.out.alloc HB.out.size _⟩⟩
        case round =>
          obtain ⟨k, rfl, rfl, rfl, hit, HJ⟩ := hrel
          have HI := Aside0.mk hit
          have hsz := HS.out
          by_cases hp : posT a0 k < a0.size
          · have hnx : ∀ ty, (Instr.next (.pointer (some ⟨w1.heap.size, 0, none⟩)) true ty).run Tryd.prog wr = _ := fun ty => Lib.run_next_any_at wr w1.heap.size a0 (posT a0 k) ty hit hp
            have hk := HJ.out.2.1
            clear hit
            have HP := Aside0.mk hp
            clear hp
            by_cases e1 : (k : Int) = a1 <;> by_cases e2 : (k : Int) = a2
            · have e1b : ((k : Int) == a1) = true := beq_iff_eq.mpr e1
              have e2b : ((k : Int) == a2) = true := beq_iff_eq.mpr e2
              have A1 := Aside0.mk (points_Cut.at_now a0 e1); have A2 := Aside0.mk (points_Cut.at_now a0 e2)
              clear e1 e2
              go_wp2
              go_roundw
              case rel => exact ⟨k + 1, by rw [A1.out], by rw [A2.out], by go_num, by rw [show posT a0 (k + 1) = posT a0 k + (Utf8.decode a0 (posT a0 k)).2 from by rw [posT, if_pos HP.out]]; exact Lib.iterAt_heap _ _ _ _ _ HI.out, points_Cut.next HJ HP HB HI⟩
              case measure => exact points_Cut.less HP HI
            · have e1b : ((k : Int) == a1) = true := beq_iff_eq.mpr e1
              have e2b : ((k : Int) == a2) = false := beq_eq_false_iff_ne.mpr e2
              have A1 := Aside0.mk (points_Cut.at_now a0 e1); have A2 := Aside0.mk (points_Cut.at_else a0 e2)
              clear e1 e2
              go_wp2
              go_roundw
              case rel => exact ⟨k + 1, by rw [A1.out], by rw [A2.out], by go_num, by rw [show posT a0 (k + 1) = posT a0 k + (Utf8.decode a0 (posT a0 k)).2 from by rw [posT, if_pos HP.out]]; exact Lib.iterAt_heap _ _ _ _ _ HI.out, points_Cut.next HJ HP HB HI⟩
              case measure => exact points_Cut.less HP HI
            · have e1b : ((k : Int) == a1) = false := beq_eq_false_iff_ne.mpr e1
              have e2b : ((k : Int) == a2) = true := beq_iff_eq.mpr e2
              have A1 := Aside0.mk (points_Cut.at_else a0 e1); have A2 := Aside0.mk (points_Cut.at_now a0 e2)
              clear e1 e2
              go_wp2
              go_roundw
              case rel => exact ⟨k + 1, by rw [A1.out], by rw [A2.out], by go_num, by rw [show posT a0 (k + 1) = posT a0 k + (Utf8.decode a0 (posT a0 k)).2 from by rw [posT, if_pos HP.out]]; exact Lib.iterAt_heap _ _ _ _ _ HI.out, points_Cut.next HJ HP HB HI⟩
              case measure => exact points_Cut.less HP HI
            · have e1b : ((k : Int) == a1) = false := beq_eq_false_iff_ne.mpr e1
              have e2b : ((k : Int) == a2) = false := beq_eq_false_iff_ne.mpr e2
              have A1 := Aside0.mk (points_Cut.at_else a0 e1); have A2 := Aside0.mk (points_Cut.at_else a0 e2)
              clear e1 e2
              go_wp2
              go_roundw
              case rel => exact ⟨k + 1, by rw [A1.out], by rw [A2.out], by go_num, by rw [show posT a0 (k + 1) = posT a0 k + (Utf8.decode a0 (posT a0 k)).2 from by rw [posT, if_pos HP.out]]; exact Lib.iterAt_heap _ _ _ _ _ HI.out, points_Cut.next HJ HP HB HI⟩
              case measure => exact points_Cut.less HP HI
          · have hnx : ∀ ty, (Instr.next (.pointer (some ⟨w1.heap.size, 0, none⟩)) true ty).run Tryd.prog wr = _ := fun ty => Lib.run_next_end_at wr w1.heap.size a0 (posT a0 k) ty hit hp
            obtain ⟨⟨b, j1, j2⟩, j3, j4⟩ := HJ.out
            rw [Lib.runeCountFrom_end a0 b _ hp, Nat.add_zero] at j1
            subst j1
            have F1 := Aside0.mk (points_Cut.at_end a0 G1.out (by have := G2.out; have := G3.out; omega) hp)
            have F2 := Aside0.mk (points_Cut.at_end a0 (by have := G1.out; have := G2.out; omega) G3.out hp)
            have q1 := points_Cut.at_range a0 a1 (Lib.runeCount a0)
            have q2 := points_Cut.at_range a0 a2 (Lib.runeCount a0)
            have q3 : points_Cut.at a0 a1 (Lib.runeCount a0) ≤ points_Cut.at a0 a2 (Lib.runeCount a0) := by
              rw [F1.out, F2.out]
              have := posT_mono' a0 (j := a1.toNat) (k := a2.toNat) (by have := G2.out; omega)
              omega
            obtain ⟨p1, p2⟩ := q1
            obtain ⟨p3, p4⟩ := q2
            generalize hx : points_Cut.at a0 a1 (Lib.runeCount a0) = x at *
            generalize hy : points_Cut.at a0 a2 (Lib.runeCount a0) = y at *
            have FX := Aside0.mk hx; have FY := Aside0.mk hy
            clear hit hx hy hp
            go_wp2
            go_ret2
            refine ⟨?_, j4⟩
            rw [← H2.out]
            unfold cutT
            have z1 := F1.out; have z2 := F2.out
            rw [z1, z2]
            simp
  · rw [if_neg c] at h; cases h

end Go.Proofs.YtolljobehfmffaaDoor.P
