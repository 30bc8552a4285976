-- WRITTEN BY A PROGRAM OF THIS SESSION (wip/pp in its repo), made after the kit's print
import Derived.Test.YtolljobehfmffaaDoorPx0
namespace Go.Proofs.YtolljobehfmffaaDoor.P
open Go.RowKit Go.Proofs.YtolljobehfmffaaDoorW.PrintWords Go.Proofs.YtolljobehfmffaaDoorW.PrintLast Go.Proofs.YtolljobehfmffaaDoorW.PrintMore
attribute [local go_sem] max2_int min2_int max_two min_two max_three min_three max_four min_four   -- for this text's walks alone
set_option linter.unusedVariables false
set_option linter.unusedSimpArgs false

/-! ### number_Take: function 51 -/
def number_Take.l0 : Nat → List Int → Int → List Int → Int → Int → Option (Int × Int × Int)
  | 0, _, _, _, _, _ => none
  | k + 1, x0, x2, x7, x8, x9 => if x9 < x8 then (if 0 ≤ x9 then (if x9 < (x7.length : Int) then (if x9 = 4 then (some (0, 0, 8)) else (if 0 ≤ (wrap64 (7 * x9)) then (if (rd x7 x9) ≥ 128 then (number_Take.l0 k x0 (Go.bits .or .i64 x2 (shl .i64 (wrap64 (Go.bits .and .u8 (rd x7 x9) 127)) (wrap64 (7 * x9)))) x7 x8 (wrap64 (x9 + 1))) else (if (rd x7 x9) = 0 then (if x9 > 0 then (some (0, 0, 8)) else (some (Go.bits .or .i64 x2 (shl .i64 (wrap64 (Go.bits .and .u8 (rd x7 x9) 127)) (wrap64 (7 * x9))), wrap64 (x9 + 1), 0))) else (some (Go.bits .or .i64 x2 (shl .i64 (wrap64 (Go.bits .and .u8 (rd x7 x9) 127)) (wrap64 (7 * x9))), wrap64 (x9 + 1), 0)))) else (none))) else (none)) else (none)) else (if (x0.length : Int) ≥ 4 then (some (0, 0, 8)) else (some (0, 0, 7)))
def number_Take.f (k : Nat) (l0 : List Int) : Option (Int × Int × Int) := number_Take.l0 k l0 0 l0 (l0.length : Int) 0
theorem number_Take.mono_l : ∀ k, (∀ y0 y1 y2 y3 y4, LeO (number_Take.l0 k y0 y1 y2 y3 y4) (number_Take.l0 (k + 1) y0 y1 y2 y3 y4))
  | 0 => fun _ _ _ _ _ r h => by simp [number_Take.l0] at h
  | k + 1 => by
    have ih0 := number_Take.mono_l k
    · intro y0 y1 y2 y3 y4
      unfold number_Take.l0
      repeat' first
      | (with_reducible exact ih0 _ _ _ _ _)
      | (with_reducible exact LeO.refl _)
      | (with_reducible exact LeO.none _)
      | (with_reducible refine LeO.ite ?_ ?_)
      | (with_reducible refine LeO.bind ?_ (fun _ => ?_))
      | exact ih0 _ _ _ _ _
      | exact LeO.none _
      | refine LeO.ite ?_ ?_
      | refine LeO.bind ?_ (fun _ => ?_)
theorem number_Take.mono : ∀ a0 k, LeO (number_Take.f k a0) (number_Take.f (k + 1) a0) := by
  intro a0 k
  have ih0 := number_Take.mono_l k
  unfold number_Take.f
  repeat' first
      | (with_reducible exact ih0 _ _ _ _ _)
      | (with_reducible exact LeO.refl _)
      | (with_reducible exact LeO.none _)
      | (with_reducible refine LeO.ite ?_ ?_)
      | (with_reducible refine LeO.bind ?_ (fun _ => ?_))
      | exact ih0 _ _ _ _ _
      | exact LeO.none _
      | refine LeO.ite ?_ ?_
      | refine LeO.bind ?_ (fun _ => ?_)
set_option maxHeartbeats 8000000 in
set_option maxRecDepth 100000 in
theorem number_Take.calls (k : Nat) (A0 : Option Addr) (c0 : Nat) (l0 : List Int) (r1 : Int) (r2 : Int) (r3 : Int) (w : World) (hr0 : Kd.C (Kd.int .u8) w A0 l0.length l0) (hc0 : l0.length ≤ c0) (h : number_Take.f k l0 = some (r1, r2, r3)) :
    Calls Tryd.prog 51 #[.slice A0 l0.length c0] w fun e w' => e = .returned (.tuple #[.int .i64 r1, .int .i64 r2, .int .i64 r3]) ∧ Drawn0 w w' := by
  have HR0 := Aside0.mk hr0
  have HC0 := Aside0.mk hc0
  clear hr0 hc0
  have H : (number_Take.l0 k l0 0 l0 (l0.length : Int) 0) = some (r1, r2, r3) := h
  clear h
  have H' := Aside0.mk H
  clear H
  go_enter Tryd.func51, Tryd.ntmps51
  go_wp2
  go_loopg [2, 9] k (fun kq v2 v9 w' => ∃ (x2_1 : Int) (x9_1 : Int), v2 = .int .i64 x2_1 ∧ v9 = .int .i64 x9_1 ∧ Aside0 (number_Take.l0 kq l0 x2_1 l0 (l0.length : Int) x9_1 = some (r1, r2, r3)) ∧ Aside0 (kq ≤ k) ∧ Drawn0 w w')
  case atStart => exact ⟨(0), (0), (by first | rfl | (simp; done) | (simp [*]; done)), (by first | rfl | (simp; done) | (simp [*]; done)), H', ⟨Nat.le_refl _⟩, by repeat (first | exact Drawn0.refl _ | apply Drawn0.step)⟩
  case round =>
    clear H'
    obtain ⟨x2_1, x9_1, rfl, rfl, HA, HK1, ⟨m1, rfl⟩⟩ := hrel
    cases gk with
    | zero => exact absurd HA.out (by simp [number_Take.l0])
    | succ k1 =>
      have H := HA.out
      clear HA
      simp only [number_Take.l0] at H
      by_cases c2 : x9_1 < (l0.length : Int)
      · rw [if_pos c2] at H
        have c2b0 : decide (x9_1 < (l0.length : Int)) = true := decide_eq_true c2
        clear c2
        by_cases c3 : 0 ≤ x9_1
        · rw [if_pos c3] at H
          have c3b0 : decide (0 ≤ x9_1) = true := decide_eq_true c3
          clear c3
          by_cases c4 : x9_1 < (l0.length : Int)
          · rw [if_pos c4] at H
            have c4b0 : decide (x9_1 < (l0.length : Int)) = true := decide_eq_true c4
            clear c4
            by_cases c5 : x9_1 = 4
            · rw [if_pos c5] at H
              have c5b0 : (x9_1 == 4) = true := beq_iff_eq.mpr c5
              have c5b1 : (x9_1 != 4) = false := bne_eq_false_iff_eq.mpr c5
              clear c5
              simp only [Option.some.injEq, Prod.mk.injEq] at H
              obtain ⟨rfl, rfl, rfl⟩ := H
              have p242 : 0 ≤ (x9_1 : Int) := of_decide_eq_true (by first | (with_reducible assumption) | assumption)
              have q242 : x9_1 < (l0.length : Int) := of_decide_eq_true (by first | (with_reducible assumption) | assumption)
              obtain ⟨ad242, e242, hx242_0⟩ := Kd.at_int HR0.out x9_1 p242 q242
              cases e242
              replace p242 := eq_true p242
              replace q242 := eq_true q242
              go_wp2
              go_ret3
              exact ⟨by first | rfl | (simp; done) | (simp [*]; done), by repeat (first | exact Drawn0.refl _ | apply Drawn0.step)⟩
            · rw [if_neg c5] at H
              have c5b0 : (x9_1 == 4) = false := beq_eq_false_iff_ne.mpr c5
              have c5b1 : (x9_1 != 4) = true := bne_iff_ne.mpr c5
              obtain ⟨ji6, hji6⟩ : ∃ j_ : Int, (wrap64 (7 * x9_1)) = j_ := ⟨_, rfl⟩
              replace H : (if 0 ≤ (ji6) then (if (rd l0 x9_1) ≥ 128 then (number_Take.l0 k1 l0 (Go.bits .or .i64 x2_1 (shl .i64 (wrap64 (Go.bits .and .u8 (rd l0 x9_1) 127)) (ji6))) l0 (l0.length : Int) (wrap64 (x9_1 + 1))) else (if (rd l0 x9_1) = 0 then (if x9_1 > 0 then (some (0, 0, 8)) else (some (Go.bits .or .i64 x2_1 (shl .i64 (wrap64 (Go.bits .and .u8 (rd l0 x9_1) 127)) (ji6)), wrap64 (x9_1 + 1), 0))) else (some (Go.bits .or .i64 x2_1 (shl .i64 (wrap64 (Go.bits .and .u8 (rd l0 x9_1) 127)) (ji6)), wrap64 (x9_1 + 1), 0)))) else (none)) = some (r1, r2, r3) := by first | (rw [hji6] at H; exact H) | (simp only [hji6] at H ⊢; exact H)
              have hji6w : (IntKind.i64.wrap (7 * x9_1)) = ji6 := (i64_w _).trans hji6
              by_cases c7 : 0 ≤ (ji6)
              · rw [if_pos c7] at H
                have c7b0 := eq_true c7
                have c7b1 : decide (0 ≤ (ji6)) = true := decide_eq_true c7
                clear c7
                obtain ⟨ji8, hji8⟩ : ∃ j_ : Int, (shl .i64 (wrap64 (Go.bits .and .u8 (rd l0 x9_1) 127)) (ji6)) = j_ := ⟨_, rfl⟩
                replace H : (if (rd l0 x9_1) ≥ 128 then (number_Take.l0 k1 l0 (Go.bits .or .i64 x2_1 (ji8)) l0 (l0.length : Int) (wrap64 (x9_1 + 1))) else (if (rd l0 x9_1) = 0 then (if x9_1 > 0 then (some (0, 0, 8)) else (some (Go.bits .or .i64 x2_1 (ji8), wrap64 (x9_1 + 1), 0))) else (some (Go.bits .or .i64 x2_1 (ji8), wrap64 (x9_1 + 1), 0)))) = some (r1, r2, r3) := by first | (rw [hji8] at H; exact H) | (simp only [hji8] at H ⊢; exact H)
                have hji8_ : (IntKind.i64.wrap ((wrap64 (Go.bits .and .u8 (rd l0 x9_1) 127)) * 2 ^ min (ji6).toNat 64)) = ji8 := hji8
                have hji8z : (ji6) ≤ 64 → (IntKind.i64.wrap ((wrap64 (Go.bits .and .u8 (rd l0 x9_1) 127)) * 2 ^ (ji6).toNat)) = ji8 := shl_small hji8
                have hji8y : (wrap64 ((wrap64 (Go.bits .and .u8 (rd l0 x9_1) 127)) * 2 ^ min (ji6).toNat 64)) = ji8 := (i64_w _).symm.trans hji8_
                have hji8x : (ji6) ≤ 64 → (wrap64 ((wrap64 (Go.bits .and .u8 (rd l0 x9_1) 127)) * 2 ^ (ji6).toNat)) = ji8 := fun h_ => (i64_w _).symm.trans (hji8z h_)
                by_cases c9 : (rd l0 x9_1) ≥ 128
                · rw [if_pos c9] at H
                  have c9b0 : decide (128 ≤ (rd l0 x9_1)) = true := decide_eq_true c9
                  clear c9
                  have H' := Aside0.mk H
                  clear H
                  have p242 : 0 ≤ (x9_1 : Int) := of_decide_eq_true (by first | (with_reducible assumption) | assumption)
                  have q242 : x9_1 < (l0.length : Int) := of_decide_eq_true (by first | (with_reducible assumption) | assumption)
                  obtain ⟨ad242, e242, hx242_0⟩ := Kd.at_int HR0.out x9_1 p242 q242
                  cases e242
                  replace p242 := eq_true p242
                  replace q242 := eq_true q242
                  go_wp2
                  go_roundg k1
                  case measure => have := HK1.out; omega
                  case rel => exact ⟨(Go.bits .or .i64 x2_1 (ji8)), (wrap64 (x9_1 + 1)), (by first | rfl | (simp; done) | (simp only [← hji8] <;> (first | rfl | simp)) | (simp [*]; done)), (by first | rfl | (simp; done) | (simp [*]; done)), H', ⟨by have := HK1.out; omega⟩, by repeat (first | exact Drawn0.refl _ | apply Drawn0.step)⟩
                · rw [if_neg c9] at H
                  have c9b0 : decide (128 ≤ (rd l0 x9_1)) = false := decide_eq_false c9
                  clear c9
                  by_cases c10 : (rd l0 x9_1) = 0
                  · rw [if_pos c10] at H
                    have c10b0 : ((rd l0 x9_1) == 0) = true := beq_iff_eq.mpr c10
                    have c10b1 : ((rd l0 x9_1) != 0) = false := bne_eq_false_iff_eq.mpr c10
                    clear c10
                    by_cases c11 : x9_1 > 0
                    · rw [if_pos c11] at H
                      have c11b0 : decide (0 < x9_1) = true := decide_eq_true c11
                      clear c11
                      simp only [Option.some.injEq, Prod.mk.injEq] at H
                      obtain ⟨rfl, rfl, rfl⟩ := H
                      have p242 : 0 ≤ (x9_1 : Int) := of_decide_eq_true (by first | (with_reducible assumption) | assumption)
                      have q242 : x9_1 < (l0.length : Int) := of_decide_eq_true (by first | (with_reducible assumption) | assumption)
                      obtain ⟨ad242, e242, hx242_0⟩ := Kd.at_int HR0.out x9_1 p242 q242
                      cases e242
                      replace p242 := eq_true p242
                      replace q242 := eq_true q242
                      go_wp2
                      go_ret3
                      exact ⟨by first | rfl | (simp; done) | (simp only [← hji6, ← hji8] <;> (first | rfl | simp)) | (simp [*]; done), by repeat (first | exact Drawn0.refl _ | apply Drawn0.step)⟩
                    · rw [if_neg c11] at H
                      have c11b0 : decide (0 < x9_1) = false := decide_eq_false c11
                      clear c11
                      simp only [Option.some.injEq, Prod.mk.injEq] at H
                      obtain ⟨rfl, rfl, rfl⟩ := H
                      have p242 : 0 ≤ (x9_1 : Int) := of_decide_eq_true (by first | (with_reducible assumption) | assumption)
                      have q242 : x9_1 < (l0.length : Int) := of_decide_eq_true (by first | (with_reducible assumption) | assumption)
                      obtain ⟨ad242, e242, hx242_0⟩ := Kd.at_int HR0.out x9_1 p242 q242
                      cases e242
                      replace p242 := eq_true p242
                      replace q242 := eq_true q242
                      go_wp2
                      go_ret3
                      exact ⟨by first | rfl | (simp; done) | (simp only [← hji6, ← hji8] <;> (first | rfl | simp)) | (simp [*]; done), by repeat (first | exact Drawn0.refl _ | apply Drawn0.step)⟩
                  · rw [if_neg c10] at H
                    have c10b0 : ((rd l0 x9_1) == 0) = false := beq_eq_false_iff_ne.mpr c10
                    have c10b1 : ((rd l0 x9_1) != 0) = true := bne_iff_ne.mpr c10
                    simp only [Option.some.injEq, Prod.mk.injEq] at H
                    obtain ⟨rfl, rfl, rfl⟩ := H
                    have p242 : 0 ≤ (x9_1 : Int) := of_decide_eq_true (by first | (with_reducible assumption) | assumption)
                    have q242 : x9_1 < (l0.length : Int) := of_decide_eq_true (by first | (with_reducible assumption) | assumption)
                    obtain ⟨ad242, e242, hx242_0⟩ := Kd.at_int HR0.out x9_1 p242 q242
                    cases e242
                    replace p242 := eq_true p242
                    replace q242 := eq_true q242
                    go_wp2
                    go_ret3
                    exact ⟨by first | rfl | (simp; done) | (simp only [← hji6, ← hji8] <;> (first | rfl | simp)) | (simp [*]; done), by repeat (first | exact Drawn0.refl _ | apply Drawn0.step)⟩
              · rw [if_neg c7] at H
                exact absurd H (by simp)
          · rw [if_neg c4] at H
            exact absurd H (by simp)
        · rw [if_neg c3] at H
          exact absurd H (by simp)
      · rw [if_neg c2] at H
        have c2b0 : decide (x9_1 < (l0.length : Int)) = false := decide_eq_false c2
        clear c2
        by_cases c12 : (l0.length : Int) ≥ 4
        · rw [if_pos c12] at H
          have c12b0 : decide (4 ≤ (l0.length : Int)) = true := decide_eq_true c12
          have c12b1 : decide (4 ≤ l0.length) = true := decide_eq_true (by omega)
          clear c12
          simp only [Option.some.injEq, Prod.mk.injEq] at H
          obtain ⟨rfl, rfl, rfl⟩ := H
          go_wp2
          go_ret3
          exact ⟨by first | rfl | (simp; done) | (simp [*]; done), by repeat (first | exact Drawn0.refl _ | apply Drawn0.step)⟩
        · rw [if_neg c12] at H
          have c12b0 : decide (4 ≤ (l0.length : Int)) = false := decide_eq_false c12
          have c12b1 : decide (4 ≤ l0.length) = false := decide_eq_false (by omega)
          clear c12
          simp only [Option.some.injEq, Prod.mk.injEq] at H
          obtain ⟨rfl, rfl, rfl⟩ := H
          go_wp2
          go_ret3
          exact ⟨by first | rfl | (simp; done) | (simp [*]; done), by repeat (first | exact Drawn0.refl _ | apply Drawn0.step)⟩

/-! ### snap_reader_number: function 45 -/
def snap_reader_number.f (k : Nat) (l : List Int) (e0 most : Int) : Option (Int × Int × Int) :=
  if e0 = 0 then (number_Take.f k l).bind fun t => (if 0 ≤ t.2.1 then (if t.2.1 ≤ (l.length : Int) then some (t.1, t.2.1, if t.2.2 = 0 ∧ t.1 > most then 8 else t.2.2) else none) else none) else some (0, 0, e0)
theorem snap_reader_number.mono (l : List Int) (e0 most : Int) (k : Nat) : LeO (snap_reader_number.f k l e0 most) (snap_reader_number.f (k + 1) l e0 most) := by
  unfold snap_reader_number.f
  refine LeO.ite (LeO.bind (number_Take.mono _ _) fun t => LeO.refl _) (LeO.refl _)
set_option maxHeartbeats 8000000 in
set_option maxRecDepth 100000 in
theorem snap_reader_number.calls (k : Nat) (l : List Int) (e0 most n u e1 : Int) (A : Option Addr) (c B : Nat) (w0 w : World) (h : snap_reader_number.f k l e0 most = some (n, u, e1))
    (hB : w.heap[B]? = some (.cells #[.slice A l.length c, .int .i64 e0] 69 (0, 0))) (hC : Kd.C (Kd.int .u8) w0 A l.length l) (hc : l.length ≤ c) (hb : Below w0.heap.size w0 w) (hBb : w0.heap.size ≤ B) :
    Calls Tryd.prog 45 #[.pointer (some ⟨B, 0, none⟩), .int .i64 most] w fun e w' => e = .returned (.int .i64 n) ∧ ∃ (A' : Option Addr) (c' : Nat), w'.heap[B]? = some (.cells #[.slice A' (l.drop u.toNat).length c', .int .i64 e1] 69 (0, 0)) ∧
      Kd.C (Kd.int .u8) w0 A' (l.drop u.toNat).length (l.drop u.toNat) ∧ (l.drop u.toNat).length ≤ c' ∧ Below w0.heap.size w0 w' ∧ ∀ g, g ≠ B → w'.heap[g]? = w.heap[g]? := by
  unfold snap_reader_number.f at h
  have HF := Aside0.mk hB; have HC := Aside0.mk hC; have HL := Aside0.mk hc; have HB := Aside0.mk hb; have HBB := Aside0.mk hBb
  have k0 : w.cell? ⟨B, 0, none⟩ = some (.slice A l.length c) := (blk_cell hB 0).trans rfl
  have k1 : w.cell? ⟨B, 1, none⟩ = some (.int .i64 e0) := (blk_cell hB 1).trans rfl
  clear hB hC hc hb hBb
  by_cases g : e0 = 0
  · rw [if_pos g] at h
    subst g
    obtain ⟨⟨t1, t2, t3⟩, hT, h⟩ := Option.bind_eq_some_iff.mp h
    dsimp only at h
    by_cases g1 : 0 ≤ t2
    · rw [if_pos g1] at h
      by_cases g2 : t2 ≤ (l.length : Int)
      · rw [if_pos g2] at h
        simp only [Option.some.injEq, Prod.mk.injEq] at h
        obtain ⟨rfl, rfl, h3⟩ := h
        have HT := Aside0.mk hT
        have G := Aside0.mk (And.intro g1 g2)
        clear hT g1 g2
        obtain ⟨i0, hi0, _, hsz, _⟩ := info_parts info5
        obtain ⟨A2, hcut, hA2, hC2⟩ := print_drop_of (P := Tryd.prog) (Value.int .u8) 0 32 5 .i64 Tryd.underlying32 hi0 hsz A c l t2 G.out.1 G.out.2 HL.out
        have HR2 := Aside0.mk (Kd.C_of_reads (h1 := fun _ => rfl) (hA2 _ (Kd.reads_of_C HC.out)))
        have HC2 := Aside0.mk hC2
        clear hA2 hC2 hi0 hsz
        by_cases g3 : t3 = 0
        · subst g3
          by_cases g4 : t1 > most
          · rw [if_pos ⟨rfl, g4⟩] at h3
            subst h3
            have g4b : decide (most < t1) = true := decide_eq_true g4
            clear g4 h
            go_enter Tryd.func45, Tryd.ntmps45
            go_wp2_with (go_at_call 51; (with_reducible refine (number_Take.calls k _ _ l t1 t2 0 _ (Kd.C_below HC.out HB.out) HL.out HT.out).mono ?_); rintro e w' ⟨rfl, ⟨nd, rfl⟩⟩; have HF1 := Aside0.mk (blk_drewN HF.out nd); have k0 : (w.drewN nd).cell? ⟨B, 0, none⟩ = some (.slice A l.length c) := (blk_cell HF1.out 0).trans rfl; have k3 : (w.drewN nd).frozen? ⟨B, 0, none⟩ = false := blk_frozen HF1.out 0; have k4 : ∀ v, ((w.drewN nd).setCell ⟨B, 0, none⟩ v).frozen? ⟨B, 1, none⟩ = false := fun v => blk_frozen (blk_set HF1.out 0 v) 1; have k5 : ∀ v, ((w.drewN nd).setCell ⟨B, 0, none⟩ v).cell? ⟨B, 1, none⟩ = some (.int .i64 0) := fun v => (blk_cell (blk_set HF1.out 0 v) 1).trans rfl)
            go_ret
            exact ⟨rfl, A2, c - t2.toNat, by rw [List.length_drop]; exact blk_put (blk_put HF1.out 0 _ rfl) 1 _ rfl, HR2.out, HC2.out, ((pw_below_drewN HB.out nd).setCell HBB.out _).setCell HBB.out _, fun g hg => (Below.heap_setCell _ _ _ g hg).trans ((Below.heap_setCell _ _ _ g hg).trans rfl)⟩
          · rw [if_neg (fun g => g4 g.2)] at h3
            subst h3
            have g4b : decide (most < t1) = false := decide_eq_false g4
            clear g4 h
            go_enter Tryd.func45, Tryd.ntmps45
            go_wp2_with (go_at_call 51; (with_reducible refine (number_Take.calls k _ _ l t1 t2 0 _ (Kd.C_below HC.out HB.out) HL.out HT.out).mono ?_); rintro e w' ⟨rfl, ⟨nd, rfl⟩⟩; have HF1 := Aside0.mk (blk_drewN HF.out nd); have k0 : (w.drewN nd).cell? ⟨B, 0, none⟩ = some (.slice A l.length c) := (blk_cell HF1.out 0).trans rfl; have k3 : (w.drewN nd).frozen? ⟨B, 0, none⟩ = false := blk_frozen HF1.out 0; have k4 : ∀ v, ((w.drewN nd).setCell ⟨B, 0, none⟩ v).frozen? ⟨B, 1, none⟩ = false := fun v => blk_frozen (blk_set HF1.out 0 v) 1; have k5 : ∀ v, ((w.drewN nd).setCell ⟨B, 0, none⟩ v).cell? ⟨B, 1, none⟩ = some (.int .i64 0) := fun v => (blk_cell (blk_set HF1.out 0 v) 1).trans rfl)
            go_ret
            exact ⟨rfl, A2, c - t2.toNat, by rw [List.length_drop]; exact blk_put (blk_put HF1.out 0 _ rfl) 1 _ rfl, HR2.out, HC2.out, ((pw_below_drewN HB.out nd).setCell HBB.out _).setCell HBB.out _, fun g hg => (Below.heap_setCell _ _ _ g hg).trans ((Below.heap_setCell _ _ _ g hg).trans rfl)⟩
        · rw [if_neg (fun g => g3 g.1)] at h3
          subst h3
          have g3b : (t3 == 0) = false := beq_eq_false_iff_ne.mpr g3
          clear g3 h
          go_enter Tryd.func45, Tryd.ntmps45
          go_wp2_with (go_at_call 51; (with_reducible refine (number_Take.calls k _ _ l t1 t2 t3 _ (Kd.C_below HC.out HB.out) HL.out HT.out).mono ?_); rintro e w' ⟨rfl, ⟨nd, rfl⟩⟩; have HF1 := Aside0.mk (blk_drewN HF.out nd); have k0 : (w.drewN nd).cell? ⟨B, 0, none⟩ = some (.slice A l.length c) := (blk_cell HF1.out 0).trans rfl; have k3 : (w.drewN nd).frozen? ⟨B, 0, none⟩ = false := blk_frozen HF1.out 0; have k4 : ∀ v, ((w.drewN nd).setCell ⟨B, 0, none⟩ v).frozen? ⟨B, 1, none⟩ = false := fun v => blk_frozen (blk_set HF1.out 0 v) 1; have k5 : ∀ v, ((w.drewN nd).setCell ⟨B, 0, none⟩ v).cell? ⟨B, 1, none⟩ = some (.int .i64 0) := fun v => (blk_cell (blk_set HF1.out 0 v) 1).trans rfl)
          go_ret
          exact ⟨rfl, A2, c - t2.toNat, by rw [List.length_drop]; exact blk_put (blk_put HF1.out 0 _ rfl) 1 _ rfl, HR2.out, HC2.out, ((pw_below_drewN HB.out nd).setCell HBB.out _).setCell HBB.out _, fun g hg => (Below.heap_setCell _ _ _ g hg).trans ((Below.heap_setCell _ _ _ g hg).trans rfl)⟩
      · rw [if_neg g2] at h; cases h
    · rw [if_neg g1] at h; cases h
  · rw [if_neg g] at h
    simp only [Option.some.injEq, Prod.mk.injEq] at h
    obtain ⟨rfl, rfl, rfl⟩ := h
    have gb : (e0 != 0) = true := bne_iff_ne.mpr g
    clear g
    go_enter Tryd.func45, Tryd.ntmps45
    go_wp2
    go_ret
    exact ⟨rfl, A, c, HF.out, HC.out, HL.out, HB.out, fun _ _ => rfl⟩

end Go.Proofs.YtolljobehfmffaaDoor.P
