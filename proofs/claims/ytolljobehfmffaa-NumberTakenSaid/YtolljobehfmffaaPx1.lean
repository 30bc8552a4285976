-- WRITTEN BY A PROGRAM OF THIS SESSION (wip/pp in its repo), made after the kit's print
import Derived.Test.YtolljobehfmffaaPx0
namespace Go.Proofs.Ytolljobehfmffaa.P
open Go.RowKit Go.Proofs.YtolljobehfmffaaW.PrintWords Go.Proofs.YtolljobehfmffaaW.PrintLast Go.Proofs.YtolljobehfmffaaW.PrintMore
attribute [local go_sem] max2_int min2_int max_two min_two max_three min_three max_four min_four   -- for this text's walks alone
set_option linter.unusedVariables false
set_option linter.unusedSimpArgs false

/-! ### number_Put: function 10 -/
def number_Put.l : Nat → Int → List Int → List Int
  | 0, n, out => out ++ [n % 256]
  | k + 1, n, out => if n ≥ 128 then number_Put.l k (n / 128) (out ++ [(Go.bits .or .i64 n 128) % 256]) else out ++ [n % 256]
def number_Put.f (a0 : Int) : Option (List Int × Int) := if a0 < 0 then some ([], 2) else if a0 > 268435455 then some ([], 2) else some (number_Put.l 3 a0 [], 0)

theorem number_Put.part (k : Nat) (m : Int) (h0 : 0 ≤ m) (h1 : m < 128 ^ (k + 1)) (h : 128 ≤ m) : ∃ j, k = j + 1 ∧ m / 128 < 128 ^ (j + 1) := by
  cases k with
  | zero => simp at h1; omega
  | succ j =>
    refine ⟨j, rfl, ?_⟩
    rw [Int.pow_succ] at h1
    omega
def number_Put.J (w : World) (r1 : List Int) (k : Nat) (m : Int) (xs : List Int) (w' : World) (v : Value) : Prop :=
  0 ≤ m ∧ m < 128 ^ (k + 1) ∧ number_Put.l k m xs = r1 ∧ xs.length + k = 3 ∧ Kd.R (Kd.int .u8) 5 w' w.heap.size (fun _ => True) v xs ∧ Below w.heap.size w w'
def number_Put.m (a : Act) : Nat := match a.tmps.getD 0 undef with | .int _ n => n.toNat | _ => 0

set_option maxHeartbeats 8000000 in
set_option maxRecDepth 100000 in
theorem number_Put.calls (a0 : Int) (r1 : List Int) (r2 : Int) (w : World) (h : number_Put.f a0 = some (r1, r2)) :
    Calls Try.prog 10 #[.int .i64 a0] w fun e w' => ∃ v0_ : Value, e = .returned (.tuple #[v0_, .int .i64 r2]) ∧ Kd.R (Kd.int .u8) 5 w' w.heap.size (fun _ => True) v0_ r1 ∧ Below w.heap.size w w' := by
  have HB := Aside0.mk (Below.refl w.heap.size w)
  unfold number_Put.f at h
  have H := Aside0.mk h
  clear h
  by_cases c1 : a0 < 0
  · have c1b : decide (a0 < 0) = true := decide_eq_true c1
    have H := H.out
    rw [if_pos c1] at H
    simp only [Option.some.injEq, Prod.mk.injEq] at H
    obtain ⟨rfl, rfl⟩ := H
    go_enter Try.func10, Try.ntmps10
    go_wp2
    go_step3
    go_wp2
    rw [Exit.noGoto_ret]
    go_ret2
    exact ⟨_, rfl, Kd.R_nil _ _ _ _ _, Below.refl _ _⟩
  · have c1b : decide (a0 < 0) = false := decide_eq_false c1
    by_cases c2 : a0 > 268435455
    · have c2b : decide (268435455 < a0) = true := decide_eq_true c2
      have H := H.out
      rw [if_neg c1, if_pos c2] at H
      simp only [Option.some.injEq, Prod.mk.injEq] at H
      obtain ⟨rfl, rfl⟩ := H
      go_enter Try.func10, Try.ntmps10
      go_wp2
      go_step3
      go_wp2
      rw [Exit.noGoto_ret]
      go_ret2
      exact ⟨_, rfl, Kd.R_nil _ _ _ _ _, Below.refl _ _⟩
    · have c2b : decide (268435455 < a0) = false := decide_eq_false c2
      have H := H.out
      rw [if_neg c1, if_neg c2] at H
      simp only [Option.some.injEq, Prod.mk.injEq] at H
      obtain ⟨H1, rfl⟩ := H
      have H := Aside0.mk H1
      clear H1
      have HJ := Aside0.mk (show number_Put.J w r1 3 a0 [] w (.slice none 0 0) from ⟨by omega, by omega, H.out, rfl, Kd.R_nil _ _ _ _ _, Below.refl _ _⟩)
      clear H
      go_enter Try.func10, Try.ntmps10
      go_wp2
      refine wp_scope_jumps 0 (fun a' w' => ∃ (k : Nat) (m : Int) (xs : List Int) (v4 u5 u6 u7 u8 u9 u10 u11 u12 u13 u14 u15 u16 u17 u18 u19 u20 u21 u22 u23 u24 u25 : Value), a' = { tmps := #[.int .i64 m, undef, .slice none 0 0, .int .i64 0, v4, u5, u6, u7, u8, u9, u10, u11, u12, u13, u14, u15, u16, u17, u18, u19, u20, u21, u22, u23, u24, u25], defers := [] } ∧ Aside0 (number_Put.J w r1 k m xs w' v4)) (fun a' _ => number_Put.m a') rfl ?_ ?_
      · go_wp2
        go_step3
        obtain ⟨j0, j1, j2, j3, j4, j5⟩ := HJ.out
        clear HJ
        have HB := Aside0.mk j5; have HO := Aside0.mk j4; have H2 := Aside0.mk j2; have HN := Aside0.mk j3
        have HL : Aside0 (([] : List Int).length < 100) := ⟨by have := HN.out; omega⟩
        clear j5 j4 j2 j3
        by_cases c : 128 ≤ a0
        · have cb : decide (128 ≤ a0) = true := decide_eq_true c
          obtain ⟨j, hk, hlt⟩ := number_Put.part 3 a0 j0 j1 c
          have HK := Aside0.mk hk; have HLT := Aside0.mk hlt; clear hk hlt
          have JN : Aside0 (number_Put.l j (a0 / 128) (([] : List Int) ++ [(Go.bits .or .i64 a0 128) % 256]) = r1) := ⟨by have h2 := H2.out; rw [HK.out, number_Put.l, if_pos c] at h2; exact h2⟩
          go_wp2_with (first | ((with_reducible refine gate_builtin (b := .append) (xs := #[.tmp 13, .tmp 17]) rfl ?_); at_builtin; refine Kd.R_append (Kd.int .u8) (w0 := w) w.heap.size rfl (.tmp 13) (.tmp 17) 22 5 (.int .u8 0) 1 rfl Try.underlying22 info5 rfl (by decide) (by omega) (.slice none 0 0) [] ((Go.bits .or .i64 a0 128) % 256) [.int .u8 ((Go.bits .or .i64 a0 128) % 256)] (fun _ => True) (fun _ => False) rfl rfl ?aP (fun _ hk => hk.elim) ?aF ?aO ?aB ?aS ?aL ?_; (case aP => exact rfl); (case aB => exact (by repeat (first | (with_reducible first | exact HB.out | apply below_alloc | apply pw_below_drewN | apply below_drew1) | exact HB.out))); (case aF => exact (fun _ _ => trivial)); (case aO => exact (by (with_reducible repeat (first | apply Kd.R_alloc | apply Kd.R_drewN | apply Kd.R_drew)); exact HO.out)); (case aS => exact (below_size (by repeat (first | (with_reducible first | exact HB.out | apply below_alloc | apply pw_below_drewN | apply below_drew1) | exact HB.out)))); (case aL => have := HL.out; omega); intro v100 w100 ho hb hg hat; have HB1 := Aside0.mk hb; have HO1 := Aside0.mk ho; clear ho hb hg hat))
          go_step3
          have HJ2 := Aside0.mk (show number_Put.J w r1 j (a0 / 128) (([] : List Int) ++ [(Go.bits .or .i64 a0 128) % 256]) w100 v100 from ⟨by omega, HLT.out, JN.out, by have := HN.out; have := HK.out; simp only [List.length_append, List.length_cons, List.length_nil] at *; omega, HO1.out, HB1.out⟩)
          refine ⟨rfl, j, _, _, _, _, _, _, _, _, _, _, _, _, _, _, _, _, _, _, _, _, _, _, _, _, rfl, HJ2⟩
        · have cb : decide (128 ≤ a0) = false := decide_eq_false c
          have JN : Aside0 (([] : List Int) ++ [a0] = r1) := ⟨by rw [show (([] : List Int) ++ [a0]) = ([] ++ [a0 % 256]) from by rw [show a0 % 256 = a0 from by omega]]; have h2 := H2.out; cases hk : (3 : Nat) with | zero => (rw [hk] at h2; exact h2) | succ _ => (rw [hk, number_Put.l, if_neg c] at h2; exact h2)⟩
          go_wp2_with (first | ((with_reducible refine gate_builtin (b := .append) (xs := #[.tmp 21, .tmp 24]) rfl ?_); at_builtin; refine Kd.R_append (Kd.int .u8) (w0 := w) w.heap.size rfl (.tmp 21) (.tmp 24) 22 5 (.int .u8 0) 1 rfl Try.underlying22 info5 rfl (by decide) (by omega) (.slice none 0 0) [] (a0) [.int .u8 (a0)] (fun _ => True) (fun _ => False) rfl rfl ?aP (fun _ hk => hk.elim) ?aF ?aO ?aB ?aS ?aL ?_; (case aP => exact rfl); (case aB => exact (by repeat (first | (with_reducible first | exact HB.out | apply below_alloc | apply pw_below_drewN | apply below_drew1) | exact HB.out))); (case aF => exact (fun _ _ => trivial)); (case aO => exact (by (with_reducible repeat (first | apply Kd.R_alloc | apply Kd.R_drewN | apply Kd.R_drew)); exact HO.out)); (case aS => exact (below_size (by repeat (first | (with_reducible first | exact HB.out | apply below_alloc | apply pw_below_drewN | apply below_drew1) | exact HB.out)))); (case aL => have := HL.out; omega); intro v100 w100 ho hb hg hat; have HB1 := Aside0.mk hb; have HO1 := Aside0.mk ho; clear ho hb hg hat))
          try simp only [Exit.jump]
          go_ret2
          exact ⟨_, rfl, by rw [← JN.out]; exact HO1.out, HB1.out⟩
      · rintro a' w' ⟨k, m, xs, v4, u5, u6, u7, u8, u9, u10, u11, u12, u13, u14, u15, u16, u17, u18, u19, u20, u21, u22, u23, u24, u25, rfl, HJ⟩
        obtain ⟨j0, j1, j2, j3, j4, j5⟩ := HJ.out
        clear HJ
        have HB := Aside0.mk j5; have HO := Aside0.mk j4; have H2 := Aside0.mk j2; have HN := Aside0.mk j3
        have HL : Aside0 ((xs : List Int).length < 100) := ⟨by have := HN.out; omega⟩
        clear j5 j4 j2 j3
        by_cases c : 128 ≤ m
        · have cb : decide (128 ≤ m) = true := decide_eq_true c
          obtain ⟨j, hk, hlt⟩ := number_Put.part k m j0 j1 c
          have HK := Aside0.mk hk; have HLT := Aside0.mk hlt; clear hk hlt
          have JN : Aside0 (number_Put.l j (m / 128) ((xs : List Int) ++ [(Go.bits .or .i64 m 128) % 256]) = r1) := ⟨by have h2 := H2.out; rw [HK.out, number_Put.l, if_pos c] at h2; exact h2⟩
          go_wp2_with (first | ((with_reducible refine gate_builtin (b := .append) (xs := #[.tmp 13, .tmp 17]) rfl ?_); at_builtin; refine Kd.R_append (Kd.int .u8) (w0 := w) w.heap.size rfl (.tmp 13) (.tmp 17) 22 5 (.int .u8 0) 1 rfl Try.underlying22 info5 rfl (by decide) (by omega) v4 xs ((Go.bits .or .i64 m 128) % 256) [.int .u8 ((Go.bits .or .i64 m 128) % 256)] (fun _ => True) (fun _ => False) rfl rfl ?aP (fun _ hk => hk.elim) ?aF ?aO ?aB ?aS ?aL ?_; (case aP => exact rfl); (case aB => exact (by repeat (first | (with_reducible first | exact HB.out | apply below_alloc | apply pw_below_drewN | apply below_drew1) | exact HB.out))); (case aF => exact (fun _ _ => trivial)); (case aO => exact (by (with_reducible repeat (first | apply Kd.R_alloc | apply Kd.R_drewN | apply Kd.R_drew)); exact HO.out)); (case aS => exact (below_size (by repeat (first | (with_reducible first | exact HB.out | apply below_alloc | apply pw_below_drewN | apply below_drew1) | exact HB.out)))); (case aL => have := HL.out; omega); intro v100 w100 ho hb hg hat; have HB1 := Aside0.mk hb; have HO1 := Aside0.mk ho; clear ho hb hg hat))
          go_step3
          have HJ2 := Aside0.mk (show number_Put.J w r1 j (m / 128) ((xs : List Int) ++ [(Go.bits .or .i64 m 128) % 256]) w100 v100 from ⟨by omega, HLT.out, JN.out, by have := HN.out; have := HK.out; simp only [List.length_append, List.length_cons, List.length_nil] at *; omega, HO1.out, HB1.out⟩)
          refine ⟨rfl, ⟨j, _, _, _, _, _, _, _, _, _, _, _, _, _, _, _, _, _, _, _, _, _, _, _, _, rfl, HJ2⟩, by simp [number_Put.m]; omega⟩
        · have cb : decide (128 ≤ m) = false := decide_eq_false c
          have JN : Aside0 ((xs : List Int) ++ [m] = r1) := ⟨by rw [show ((xs : List Int) ++ [m]) = (xs ++ [m % 256]) from by rw [show m % 256 = m from by omega]]; have h2 := H2.out; cases hk : (k : Nat) with | zero => (rw [hk] at h2; exact h2) | succ _ => (rw [hk, number_Put.l, if_neg c] at h2; exact h2)⟩
          go_wp2_with (first | ((with_reducible refine gate_builtin (b := .append) (xs := #[.tmp 21, .tmp 24]) rfl ?_); at_builtin; refine Kd.R_append (Kd.int .u8) (w0 := w) w.heap.size rfl (.tmp 21) (.tmp 24) 22 5 (.int .u8 0) 1 rfl Try.underlying22 info5 rfl (by decide) (by omega) v4 xs (m) [.int .u8 (m)] (fun _ => True) (fun _ => False) rfl rfl ?aP (fun _ hk => hk.elim) ?aF ?aO ?aB ?aS ?aL ?_; (case aP => exact rfl); (case aB => exact (by repeat (first | (with_reducible first | exact HB.out | apply below_alloc | apply pw_below_drewN | apply below_drew1) | exact HB.out))); (case aF => exact (fun _ _ => trivial)); (case aO => exact (by (with_reducible repeat (first | apply Kd.R_alloc | apply Kd.R_drewN | apply Kd.R_drew)); exact HO.out)); (case aS => exact (below_size (by repeat (first | (with_reducible first | exact HB.out | apply below_alloc | apply pw_below_drewN | apply below_drew1) | exact HB.out)))); (case aL => have := HL.out; omega); intro v100 w100 ho hb hg hat; have HB1 := Aside0.mk hb; have HO1 := Aside0.mk ho; clear ho hb hg hat))
          try simp only [Exit.jump]
          go_ret2
          exact ⟨_, rfl, by rw [← JN.out]; exact HO1.out, HB1.out⟩

end Go.Proofs.Ytolljobehfmffaa.P
