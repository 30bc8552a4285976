/- Part 8 of the proof of topLogs_holds: out of the texts that this session's programs wrote, what the theorem reaches. -/
import Derived.Test.YtegjegihcebimaaDoorZ2
import Derived.Test.YtegjegihcebimaaDoorZ3
import Derived.Test.YtegjegihcebimaaDoorZ4
import Derived.Test.YtegjegihcebimaaDoorZ7
section
namespace Go.Proofs.YtegjegihcebimaaDoor.P
open Go.RowKit Go.Proofs.YtegjegihcebimaaDoorW.PrintWords Go.Proofs.YtegjegihcebimaaDoorW.PrintLast Go.Proofs.YtegjegihcebimaaDoorW.PrintMore
attribute [local go_sem] max2_int min2_int max_two min_two max_three min_three max_four min_four
set_option linter.unusedVariables false
set_option linter.unusedSimpArgs false
mutual
def apply_All.j0 : Nat → ByteArray → List (List (S25)) → Bool → Option (ByteArray × Int)
 | 0, _, _, _ => none
 | k + 1, x0, x1, x17 => if x17 = true then (some ((⟨#[]⟩ : ByteArray), 3)) else (apply_All.l0 k x0 x1 (x1.length : Int) 0)
def apply_All.l0 : Nat → ByteArray → List (List (S25)) → Int → Int → Option (ByteArray × Int)
 | 0, _, _, _, _ => none
 | k + 1, x0, x18, x19, x20 => if x20 < x19 then (if 0 ≤ x20 then (if x20 < (x18.length : Int) then ((apply_To.f k (rd_L3 x18 x20) x0).bind fun bt305 => (if bt305.2 = 0 then (apply_All.l0 k bt305.1 x18 x19 (wrap64 (x20 + 1))) else (some ((⟨#[]⟩ : ByteArray), bt305.2)))) else (none)) else (none)) else (some (x0, 0))
end
def apply_All.f (k : Nat) (a0 : ByteArray) (l1 : List (List (S25))) : Option (ByteArray × Int) := if (l1.length : Int) = 0 then ((points_Valid.f a0).bind fun t303 => (apply_All.j0 k a0 l1 (!t303))) else (apply_All.j0 k a0 l1 false)
set_option maxHeartbeats 8000000 in
set_option maxRecDepth 100000 in
theorem apply_All.calls (k : Nat) (a0 : ByteArray) (A1 : Option Addr) (c1 : Nat) (l1 : List (List (S25))) (r1 : ByteArray) (r2 : Int) (w : World) (hr1 : Kd.C (Kd.slice 25 k25) w A1 l1.length l1) (hc1 : l1.length ≤ c1) (hT : Tabs w) (h : apply_All.f k a0 l1 = some (r1, r2)) :
  Calls Tryd.prog 14 #[.string a0, .slice A1 l1.length c1] w fun e w' => e = .returned (.tuple #[.string r1, .int .i64 r2]) ∧ Below w.heap.size w w' := by
 have HT := am hT
 clear hT
 have HR1 := am hr1
 have HC1 := am hc1
 clear hr1 hc1
 have HB := am (Below.refl w.heap.size w)
 have H : (if (l1.length : Int) = 0 then ((points_Valid.f a0).bind fun t303 => (apply_All.j0 k a0 l1 (!t303))) else (apply_All.j0 k a0 l1 false)) = some (r1, r2) := h
 clear h
 have HC3 := am H
 clear H
 go_enter Tryd.func14, Tryd.ntmps14
 go_upto_region 1 with (fail)
 go_cut [17] (fun v17 wc => ∃ (kq : Nat) (x17_2 : Bool), v17 = .bool x17_2 ∧ Aside0 (apply_All.j0 kq a0 l1 x17_2 = some (r1, r2)) ∧ Aside0 (kq ≤ k) ∧ Aside0 (Below w.heap.size w wc))
 case first =>
  have H := HC3.out
  clear HC3
  by_cases c4 : (l1.length : Int) = 0
  ·rw [if_pos c4] at H
   have c4b0 : ((l1.length : Int) == 0) = true := beq_iff_eq.mpr c4
   have c4b1 : ((l1.length : Int) != 0) = false := bne_eq_false_iff_eq.mpr c4
   clear c4
   (first | rw [c4b0] | (simp only [i64_w, i32_w]; rw [c4b0]) | skip)
   replace H := Option.bind_eq_some_iff.mp H
   obtain ⟨t303, A50, H⟩ := H
   replace H : (apply_All.j0 k a0 l1 (!t303)) = some (r1, r2) := H
   have A5 := am A50
   clear A50
   have H' := am H
   clear H
   go_wp2_with (first | (go_at_call 41; (with_reducible refine (points_Valid.calls a0 t303 _ ?side1 A5.out).mono ?_); (case side1 => exact Tabs.below HT.out bl); rintro e w6 ⟨rfl, hb⟩; have n0_ := am (below_step bl hb); clear HB; have HB := n0_; clear n0_; (try clear hb); (try clear hb2); (try clear hk); (try clear hi)))
   go_meet
   case rel => exact ⟨_, (!t303), pj, H', ⟨by first | omega | exact Nat.le_refl _⟩, ⟨bl⟩⟩
  ·rw [if_neg c4] at H
   have c4b0 : ((l1.length : Int) == 0) = false := beq_eq_false_iff_ne.mpr c4
   have c4b1 : ((l1.length : Int) != 0) = true := bne_iff_ne.mpr c4
   have c4b2 : ¬ (l1 = []) := fun h_ => c4 (by rw [h_]; rfl)
   (first | rw [c4b0] | (simp only [i64_w, i32_w]; rw [c4b0]) | skip)
   have H' := am H
   clear H
   go_wp2
   go_meet
   case rel => exact ⟨_, (false), pj, H', ⟨by first | omega | exact Nat.le_refl _⟩, ⟨bl⟩⟩
 case rest =>
  clear HC3
  try clear c1
  try clear p2
  try clear c4
  try clear c4b0
  try clear c4b1
  try clear c4b2
  obtain ⟨kq, x17_2, rfl, HA, HJ2, HB⟩ := hcut
  cases kq with
  | zero => exact absurd HA.out (by simp [apply_All.j0])
  | succ kj2 =>
   have H := HA.out
   clear HA
   simp only [apply_All.j0] at H
   by_cases c7 : x17_2 = true
   ·subst c7
    have H1 : (some ((⟨#[]⟩ : ByteArray), 3)) = some (r1, r2) := by rw [if_pos rfl] at H; exact H
    clear H
    have H := H1
    clear H1
    simp only [Option.some.injEq, Prod.mk.injEq] at H
    obtain ⟨rfl, rfl⟩ := H
    go_wp2
    go_ret2
    exact ⟨by first | rfl | (simp [errW_none, errW_some] <;> rfl) | (simp [*, errW_none, errW_some] <;> rfl), bl⟩
   ·replace c7 := Bool.eq_false_iff.mpr c7
    subst c7
    have H1 : (apply_All.l0 kj2 a0 l1 (l1.length : Int) 0) = some (r1, r2) := by rw [if_neg (show ¬ (false = true) by decide)] at H; exact H
    clear H
    have H := H1
    clear H1
    have H' := am H
    clear H
    go_wp2
    go_loopg [0, 20] kj2 (fun kq v0 v20 w' => ∃ (x0_2 : ByteArray) (x20_2 : Int), v0 = .string x0_2 ∧ v20 = .int .i64 x20_2 ∧ Aside0 (apply_All.l0 kq x0_2 l1 (l1.length : Int) x20_2 = some (r1, r2)) ∧ Aside0 (kq ≤ kj2) ∧ Aside0 (Below w.heap.size w w'))
    case atStart => exact ⟨(a0), (0), pj, pj, H', ⟨Nat.le_refl _⟩, ⟨bl⟩⟩
    case round =>
     clear H'
     try clear c1
     try clear p2
     try clear c4
     try clear c4b0
     try clear c4b1
     try clear c4b2
     try clear c7
     try clear p2
     obtain ⟨x0_2, x20_2, rfl, rfl, HA, HK2, HB⟩ := hrel
     cases gk with
     | zero => exact absurd HA.out (by simp [apply_All.l0])
     | succ k2 =>
      have H := HA.out
      clear HA
      simp only [apply_All.l0] at H
      by_cases c8 : x20_2 < (l1.length : Int)
      ·rw [if_pos c8] at H
       have c8b0 : decide (x20_2 < (l1.length : Int)) = true := decide_eq_true c8
       clear c8
       by_cases c9 : 0 ≤ x20_2
       ·rw [if_pos c9] at H
        have c9b0 : decide (0 ≤ x20_2) = true := decide_eq_true c9
        clear c9
        by_cases c10 : x20_2 < (l1.length : Int)
        ·rw [if_pos c10] at H
         have c10b0 : decide (x20_2 < (l1.length : Int)) = true := decide_eq_true c10
         clear c10
         replace H := Option.bind_eq_some_iff.mp H
         obtain ⟨⟨t305, t306⟩, A110, H⟩ := H
         replace H : (if t306 = 0 then (apply_All.l0 k2 t305 l1 (l1.length : Int) (wrap64 (x20_2 + 1))) else (some ((⟨#[]⟩ : ByteArray), t306))) = some (r1, r2) := H
         have A11 := am A110
         clear A110
         by_cases c12 : t306 = 0
         ·rw [if_pos c12] at H
          have c12b0 : (t306 == 0) = true := beq_iff_eq.mpr c12
          have c12b1 : (t306 != 0) = false := bne_eq_false_iff_eq.mpr c12
          clear c12
          have H' := am H
          clear H
          have p304 : 0 ≤ (x20_2 : Int) := of_decide_eq_true as0
          have q304 : x20_2 < (l1.length : Int) := of_decide_eq_true as0
          obtain ⟨ad304, A304_0, c304_0, e304, hx304_0, hl304_0, hi304_0⟩ := at_L3 HR1.out x20_2 p304 q304
          cases e304
          replace hx304_0 := (HB.out.cell (World.block_lt_of_cell? w _ hx304_0)).trans hx304_0
          have HR304_0 := am hi304_0
          have HC304_0 := am hl304_0
          clear hi304_0 hl304_0
          replace p304 := eq_true p304
          replace q304 := eq_true q304
          go_wp2_with (first | ((with_reducible refine gate_callee (f := 50) rfl ?_); refine goesL_ (some 27) rfl rfl Tryd.func50 (by kernel_rfl) rfl #[.slice A304_0 (rd_L3 l1 x20_2).length c304_0, .string x0_2] rfl ar ?_; (with_reducible refine (apply_To.calls k2 _ _ (rd_L3 l1 x20_2) x0_2 t305 t306 _ ?side1 ?side2 ?side3 A11.out).mono ?_); (case side1 => repeat (first | exact (Kd.C_below HR304_0.out HB.out) | (with_reducible refine Kd.C_alloc ?_ _) | (with_reducible refine Kd.C_drewN ?_ _) | (with_reducible refine Kd.C_drew ?_))); (case side2 => exact HC304_0.out); (case side3 => exact Tabs.below HT.out bl); rintro e w13 ⟨rfl, hb⟩; refine ⟨_, rfl, ?_⟩; have n0_ := am (below_step bl hb); clear HB; have HB := n0_; clear n0_; (try clear hb); (try clear hb2); (try clear hk); (try clear hi)))
          go_roundg k2
          case measure => have := HJ2.out; have := HK2.out; omega
          case rel => exact ⟨(t305), (wrap64 (x20_2 + 1)), pj, pj, H', ⟨by have := HJ2.out; have := HK2.out; omega⟩, ⟨bl⟩⟩
         ·rw [if_neg c12] at H
          have c12b0 : (t306 == 0) = false := beq_eq_false_iff_ne.mpr c12
          have c12b1 : (t306 != 0) = true := bne_iff_ne.mpr c12
          simp only [Option.some.injEq, Prod.mk.injEq] at H
          obtain ⟨rfl, rfl⟩ := H
          have p304 : 0 ≤ (x20_2 : Int) := of_decide_eq_true as0
          have q304 : x20_2 < (l1.length : Int) := of_decide_eq_true as0
          obtain ⟨ad304, A304_0, c304_0, e304, hx304_0, hl304_0, hi304_0⟩ := at_L3 HR1.out x20_2 p304 q304
          cases e304
          replace hx304_0 := (HB.out.cell (World.block_lt_of_cell? w _ hx304_0)).trans hx304_0
          have HR304_0 := am hi304_0
          have HC304_0 := am hl304_0
          clear hi304_0 hl304_0
          replace p304 := eq_true p304
          replace q304 := eq_true q304
          go_wp2_with (first | ((with_reducible refine gate_callee (f := 50) rfl ?_); refine goesL_ (some 27) rfl rfl Tryd.func50 (by kernel_rfl) rfl #[.slice A304_0 (rd_L3 l1 x20_2).length c304_0, .string x0_2] rfl ar ?_; (with_reducible refine (apply_To.calls k2 _ _ (rd_L3 l1 x20_2) x0_2 t305 t306 _ ?side1 ?side2 ?side3 A11.out).mono ?_); (case side1 => repeat (first | exact (Kd.C_below HR304_0.out HB.out) | (with_reducible refine Kd.C_alloc ?_ _) | (with_reducible refine Kd.C_drewN ?_ _) | (with_reducible refine Kd.C_drew ?_))); (case side2 => exact HC304_0.out); (case side3 => exact Tabs.below HT.out bl); rintro e w14 ⟨rfl, hb⟩; refine ⟨_, rfl, ?_⟩; have n0_ := am (below_step bl hb); clear HB; have HB := n0_; clear n0_; (try clear hb); (try clear hb2); (try clear hk); (try clear hi)))
          go_ret2
          exact ⟨by first | rfl | (simp [errW_none, errW_some] <;> rfl) | (simp [*, errW_none, errW_some] <;> rfl), bl⟩
        ·rw [if_neg c10] at H
         exact absurd H (by simp)
       ·rw [if_neg c9] at H
        exact absurd H (by simp)
      ·rw [if_neg c8] at H
       have c8b0 : decide (x20_2 < (l1.length : Int)) = false := decide_eq_false c8
       clear c8
       simp only [Option.some.injEq, Prod.mk.injEq] at H
       obtain ⟨rfl, rfl⟩ := H
       go_wp2
       go_ret2
       exact ⟨by first | rfl | (simp [errW_none, errW_some] <;> rfl) | (simp [*, errW_none, errW_some] <;> rfl), bl⟩
def number_Put.l : Nat → Int → List Int → List Int
 | 0, n, out => out ++ [n % 256]
 | k + 1, n, out => if n ≥ 128 then number_Put.l k (n / 128) (out ++ [(Go.bits .or .i64 n 128) % 256]) else out ++ [n % 256]
def number_Put.f (a0 : Int) : Option (List Int × Int) := if a0 < 0 then some ([], 2) else if a0 > 268435455 then some ([], 2) else some (number_Put.l 3 a0 [], 0)
theorem number_Put.part (k : Nat) (m : Int) (h0 : 0 ≤ m) (h1 : m < 128 ^ (k + 1)) (h : 128 ≤ m) : ∃ j, k = j + 1 ∧ m / 128 < 128 ^ (j + 1) := by
 cases k with
 | zero => simp at h1; omega
 | succ j =>
  refine ⟨j, rfl, ?_⟩
  rw [Int.pow_succ] at h1
  omega
def number_Put.J (w : World) (r1 : List Int) (k : Nat) (m : Int) (xs : List Int) (w' : World) (v : Value) : Prop :=
 0 ≤ m ∧ m < 128 ^ (k + 1) ∧ number_Put.l k m xs = r1 ∧ xs.length + k = 3 ∧ Kd.R (Kd.int .u8) 5 w' w.heap.size (fun _ => True) v xs ∧ Below w.heap.size w w'
def number_Put.m (a : Act) : Nat := match a.tmps.getD 0 undef with | .int _ n => n.toNat | _ => 0
set_option maxHeartbeats 8000000 in
set_option maxRecDepth 100000 in
theorem number_Put.calls (a0 : Int) (r1 : List Int) (r2 : Int) (w : World) (h : number_Put.f a0 = some (r1, r2)) :
  Calls Tryd.prog 110 #[.int .i64 a0] w fun e w' => ∃ v0_ : Value, e = .returned (.tuple #[v0_, .int .i64 r2]) ∧ Kd.R (Kd.int .u8) 5 w' w.heap.size (fun _ => True) v0_ r1 ∧ Below w.heap.size w w' := by
 have HB := am (Below.refl w.heap.size w)
 unfold number_Put.f at h
 have H := am h
 clear h
 by_cases c1 : a0 < 0
 ·have c1b : decide (a0 < 0) = true := decide_eq_true c1
  have H := H.out
  rw [if_pos c1] at H
  simp only [Option.some.injEq, Prod.mk.injEq] at H
  obtain ⟨rfl, rfl⟩ := H
  go_enter Tryd.func110, Tryd.ntmps110
  go_wp2
  go_step3
  go_wp2
  rw [Exit.noGoto_ret]
  go_ret2
  exact ⟨_, rfl, Kd.R_nil _ _ _ _ _, Below.refl _ _⟩
 ·have c1b : decide (a0 < 0) = false := decide_eq_false c1
  by_cases c2 : a0 > 268435455
  ·have c2b : decide (268435455 < a0) = true := decide_eq_true c2
   have H := H.out
   rw [if_neg c1, if_pos c2] at H
   simp only [Option.some.injEq, Prod.mk.injEq] at H
   obtain ⟨rfl, rfl⟩ := H
   go_enter Tryd.func110, Tryd.ntmps110
   go_wp2
   go_step3
   go_wp2
   rw [Exit.noGoto_ret]
   go_ret2
   exact ⟨_, rfl, Kd.R_nil _ _ _ _ _, Below.refl _ _⟩
  ·have c2b : decide (268435455 < a0) = false := decide_eq_false c2
   have H := H.out
   rw [if_neg c1, if_neg c2] at H
   simp only [Option.some.injEq, Prod.mk.injEq] at H
   obtain ⟨H1, rfl⟩ := H
   have H := am H1
   clear H1
   have HJ := am (show number_Put.J w r1 3 a0 [] w (.slice none 0 0) from ⟨by omega, by omega, H.out, rfl, Kd.R_nil _ _ _ _ _, Below.refl _ _⟩)
   clear H
   go_enter Tryd.func110, Tryd.ntmps110
   go_wp2
   refine wp_scope_jumps 0 (fun a' w' => ∃ (k : Nat) (m : Int) (xs : List Int) (v4 u5 u6 u7 u8 u9 u10 u11 u12 u13 u14 u15 u16 u17 u18 u19 u20 u21 u22 u23 u24 u25 : Value), a' = { tmps := #[.int .i64 m, undef, .slice none 0 0, .int .i64 0, v4, u5, u6, u7, u8, u9, u10, u11, u12, u13, u14, u15, u16, u17, u18, u19, u20, u21, u22, u23, u24, u25], defers := [] } ∧ Aside0 (number_Put.J w r1 k m xs w' v4)) (fun a' _ => number_Put.m a') rfl ?_ ?_
   ·go_wp2
    go_step3
    obtain ⟨j0, j1, j2, j3, j4, j5⟩ := HJ.out
    clear HJ
    have HB := am j5; have HO := am j4; have H2 := am j2; have HN := am j3
    have HL : Aside0 (([] : List Int).length < 100) := ⟨by have := HN.out; omega⟩
    clear j5 j4 j2 j3
    by_cases c : 128 ≤ a0
    ·have cb : decide (128 ≤ a0) = true := decide_eq_true c
     obtain ⟨j, hk, hlt⟩ := number_Put.part 3 a0 j0 j1 c
     have HK := am hk; have HLT := am hlt; clear hk hlt
     have JN : Aside0 (number_Put.l j (a0 / 128) (([] : List Int) ++ [(Go.bits .or .i64 a0 128) % 256]) = r1) := ⟨by have h2 := H2.out; rw [HK.out, number_Put.l, if_pos c] at h2; exact h2⟩
     go_wp2_with (first | ((with_reducible refine gate_builtin (b := .append) (xs := #[.tmp 13, .tmp 17]) rfl ?_); at_builtin; refine Kd.R_append (Kd.int .u8) (w0 := w) w.heap.size rfl (.tmp 13) (.tmp 17) 130 5 (.int .u8 0) 1 rfl Tryd.underlying130 info5 rfl (by decide) (by omega) (.slice none 0 0) [] ((Go.bits .or .i64 a0 128) % 256) [.int .u8 ((Go.bits .or .i64 a0 128) % 256)] (fun _ => True) (fun _ => False) rfl rfl ?aP (fun _ hk => hk.elim) ?aF ?aO ?aB ?aS ?aL ?_; (case aP => exact rfl); (case aB => exact bl); (case aF => exact (fun _ _ => trivial)); (case aO => exact (by refine kR ?_; exact HO.out)); (case aS => exact (below_size bl)); (case aL => have := HL.out; omega); intro v100 w100 ho hb hg hat; have HB1 := am hb; have HO1 := am ho; clear ho hb hg hat))
     go_step3
     have HJ2 := am (show number_Put.J w r1 j (a0 / 128) (([] : List Int) ++ [(Go.bits .or .i64 a0 128) % 256]) w100 v100 from ⟨by omega, HLT.out, JN.out, by have := HN.out; have := HK.out; simp only [List.length_append, List.length_cons, List.length_nil] at *; omega, HO1.out, HB1.out⟩)
     refine ⟨rfl, j, _, _, _, _, _, _, _, _, _, _, _, _, _, _, _, _, _, _, _, _, _, _, _, _, rfl, HJ2⟩
    ·have cb : decide (128 ≤ a0) = false := decide_eq_false c
     have JN : Aside0 (([] : List Int) ++ [a0] = r1) := ⟨by rw [show (([] : List Int) ++ [a0]) = ([] ++ [a0 % 256]) from by rw [show a0 % 256 = a0 from by omega]]; have h2 := H2.out; cases hk : (3 : Nat) with | zero => (rw [hk] at h2; exact h2) | succ _ => (rw [hk, number_Put.l, if_neg c] at h2; exact h2)⟩
     go_wp2_with (first | ((with_reducible refine gate_builtin (b := .append) (xs := #[.tmp 21, .tmp 24]) rfl ?_); at_builtin; refine Kd.R_append (Kd.int .u8) (w0 := w) w.heap.size rfl (.tmp 21) (.tmp 24) 130 5 (.int .u8 0) 1 rfl Tryd.underlying130 info5 rfl (by decide) (by omega) (.slice none 0 0) [] (a0) [.int .u8 (a0)] (fun _ => True) (fun _ => False) rfl rfl ?aP (fun _ hk => hk.elim) ?aF ?aO ?aB ?aS ?aL ?_; (case aP => exact rfl); (case aB => exact bl); (case aF => exact (fun _ _ => trivial)); (case aO => exact (by refine kR ?_; exact HO.out)); (case aS => exact (below_size bl)); (case aL => have := HL.out; omega); intro v100 w100 ho hb hg hat; have HB1 := am hb; have HO1 := am ho; clear ho hb hg hat))
     try simp only [Exit.jump]
     go_ret2
     exact ⟨_, rfl, by rw [← JN.out]; exact HO1.out, HB1.out⟩
   ·rintro a' w' ⟨k, m, xs, v4, u5, u6, u7, u8, u9, u10, u11, u12, u13, u14, u15, u16, u17, u18, u19, u20, u21, u22, u23, u24, u25, rfl, HJ⟩
    obtain ⟨j0, j1, j2, j3, j4, j5⟩ := HJ.out
    clear HJ
    have HB := am j5; have HO := am j4; have H2 := am j2; have HN := am j3
    have HL : Aside0 ((xs : List Int).length < 100) := ⟨by have := HN.out; omega⟩
    clear j5 j4 j2 j3
    by_cases c : 128 ≤ m
    ·have cb : decide (128 ≤ m) = true := decide_eq_true c
     obtain ⟨j, hk, hlt⟩ := number_Put.part k m j0 j1 c
     have HK := am hk; have HLT := am hlt; clear hk hlt
     have JN : Aside0 (number_Put.l j (m / 128) ((xs : List Int) ++ [(Go.bits .or .i64 m 128) % 256]) = r1) := ⟨by have h2 := H2.out; rw [HK.out, number_Put.l, if_pos c] at h2; exact h2⟩
     go_wp2_with (first | ((with_reducible refine gate_builtin (b := .append) (xs := #[.tmp 13, .tmp 17]) rfl ?_); at_builtin; refine Kd.R_append (Kd.int .u8) (w0 := w) w.heap.size rfl (.tmp 13) (.tmp 17) 130 5 (.int .u8 0) 1 rfl Tryd.underlying130 info5 rfl (by decide) (by omega) v4 xs ((Go.bits .or .i64 m 128) % 256) [.int .u8 ((Go.bits .or .i64 m 128) % 256)] (fun _ => True) (fun _ => False) rfl rfl ?aP (fun _ hk => hk.elim) ?aF ?aO ?aB ?aS ?aL ?_; (case aP => exact rfl); (case aB => exact bl); (case aF => exact (fun _ _ => trivial)); (case aO => exact (by refine kR ?_; exact HO.out)); (case aS => exact (below_size bl)); (case aL => have := HL.out; omega); intro v100 w100 ho hb hg hat; have HB1 := am hb; have HO1 := am ho; clear ho hb hg hat))
     go_step3
     have HJ2 := am (show number_Put.J w r1 j (m / 128) ((xs : List Int) ++ [(Go.bits .or .i64 m 128) % 256]) w100 v100 from ⟨by omega, HLT.out, JN.out, by have := HN.out; have := HK.out; simp only [List.length_append, List.length_cons, List.length_nil] at *; omega, HO1.out, HB1.out⟩)
     refine ⟨rfl, ⟨j, _, _, _, _, _, _, _, _, _, _, _, _, _, _, _, _, _, _, _, _, _, _, _, _, rfl, HJ2⟩, by simp [number_Put.m]; omega⟩
    ·have cb : decide (128 ≤ m) = false := decide_eq_false c
     have JN : Aside0 ((xs : List Int) ++ [m] = r1) := ⟨by rw [show ((xs : List Int) ++ [m]) = (xs ++ [m % 256]) from by rw [show m % 256 = m from by omega]]; have h2 := H2.out; cases hk : (k : Nat) with | zero => (rw [hk] at h2; exact h2) | succ _ => (rw [hk, number_Put.l, if_neg c] at h2; exact h2)⟩
     go_wp2_with (first | ((with_reducible refine gate_builtin (b := .append) (xs := #[.tmp 21, .tmp 24]) rfl ?_); at_builtin; refine Kd.R_append (Kd.int .u8) (w0 := w) w.heap.size rfl (.tmp 21) (.tmp 24) 130 5 (.int .u8 0) 1 rfl Tryd.underlying130 info5 rfl (by decide) (by omega) v4 xs (m) [.int .u8 (m)] (fun _ => True) (fun _ => False) rfl rfl ?aP (fun _ hk => hk.elim) ?aF ?aO ?aB ?aS ?aL ?_; (case aP => exact rfl); (case aB => exact bl); (case aF => exact (fun _ _ => trivial)); (case aO => exact (by refine kR ?_; exact HO.out)); (case aS => exact (below_size bl)); (case aL => have := HL.out; omega); intro v100 w100 ho hb hg hat; have HB1 := am hb; have HO1 := am ho; clear ho hb hg hat))
     try simp only [Exit.jump]
     go_ret2
     exact ⟨_, rfl, by rw [← JN.out]; exact HO1.out, HB1.out⟩
theorem number_Put.len_le : ∀ (k : Nat) (n : Int) (out : List Int), (number_Put.l k n out).length ≤ out.length + k + 1
 | 0, n, out => by simp [number_Put.l]
 | k + 1, n, out => by
  unfold number_Put.l
  split
  ·have := number_Put.len_le k (n / 128) (out ++ [(Go.bits .or .i64 n 128) % 256])
   simp only [List.length_append, List.length_cons, List.length_nil] at this
   omega
  ·rw [List.length_append, List.length_cons, List.length_nil]; omega
theorem number_Put.f_len {n : Int} {r1 : List Int} {r2 : Int} (h : number_Put.f n = some (r1, r2)) : r1.length ≤ 4 := by
 unfold number_Put.f at h
 split at h
 ·cases h; simp
 ·split at h
  ·cases h; simp
  ·cases h
   exact number_Put.len_le 3 n []
set_option maxHeartbeats 8000000 in
set_option maxRecDepth 100000 in
theorem snap_writer_number.calls (n : Int) (r1 : List Int) (r2 : Int) (xs : List Int) (base B : Nat) (v : Value) (w : World) (h : number_Put.f n = some (r1, r2)) (hr : r1.length ≤ 4)
  (hB : w.heap[B]? = some (.cells #[v] 168 (0, 0))) (hO : Kd.R (Kd.int .u8) 5 w base (fun _ => True) v xs) (hbase : base ≤ w.heap.size) (hBb : base ≤ B) (hl : xs.length ≤ 1000000) :
  Calls Tryd.prog 108 #[.pointer (some ⟨B, 0, none⟩), .int .i64 n] w fun e w' => e = .returned (.tuple #[]) ∧ ∃ v', w'.heap[B]? = some (.cells #[v'] 168 (0, 0)) ∧ Kd.R (Kd.int .u8) 5 w' base (fun _ => True) v' (xs ++ r1) ∧ Below base w w' := by
 obtain ⟨A0, c0, rfl⟩ := Kd.R_slice hO
 have H := am h; have HR := am hr; have HF := am hB; have HO := am hO; have HL := am hl; have HBB := am hBb; have HBS := am hbase
 clear h hr hB hO hl hBb hbase
 go_enter Tryd.func108, Tryd.ntmps108
 go_wp2_with (first | (go_at_call 110; go_loud ((with_reducible refine (number_Put.calls n r1 r2 _ H.out).mono ?_); rintro e w1 ⟨v1, rfl, ho, hb⟩; obtain ⟨A1, c1, rfl, hc1, hread⟩ := Kd.R_reads ho; have HO1 := am (Kd.R_elder' HO.out (Kd.R_base ho) hb); have HF1 := am (blk_below HF.out hb); have HN := am hread; have HB1 := am (hb.mono HBS.out); have HSZ := am hb.size; clear ho hb HO HF hread; have hcell : w1.cell? ⟨B, 0, none⟩ = some (.slice A0 xs.length c0) := (blk_cell HF1.out 0).trans rfl)) | ((with_reducible refine gate_builtin (b := .append) (xs := #[.tmp 15, .tmp 16]) rfl ?_); at_builtin; refine Kd.R_append_rows (Kd.int .u8) (w0 := w) base rfl (.tmp 15) (.tmp 16) 130 5 (.int .u8 0) 1 rfl Tryd.underlying130 info5 rfl (by decide) (by omega) (.slice A0 xs.length c0) xs r1 _ _ _ (fun k_ => True) (fun _ => False) rfl rfl ?aO ?aR (fun _ _ h => h) (fun _ h => h.elim) ?aF ?aB ?aS ?aL ?_; (case aR => exact HN.out); (case aB => exact HB1.out); (case aF => exact (fun _ _ => trivial)); (case aO => exact (Kd.R_mono HO1.out (fun _ _ => trivial))); (case aS => have := HSZ.out; have := HBS.out; omega); (case aL => have := HL.out; have := HR.out; omega); intro v2 w2 ho hb hg hat; obtain ⟨A2, c2, rfl⟩ := Kd.R_slice ho; have HF2 := am (blk_grown HF1.out hg (Kd.R_ne HO1.out HF1.out (by decide))); have HO2 := am ho; have HB2 := am hb; clear ho hb hg hat hcell HO1 HF1 HB1; have hcell : w2.cell? ⟨B, 0, none⟩ = some (.slice A0 xs.length c0) := (blk_cell HF2.out 0).trans rfl; have hfr : w2.frozen? ⟨B, 0, none⟩ = false := blk_frozen HF2.out 0))
 go_end0
 exact ⟨rfl, _, blk_put HF2.out 0 _ rfl, by have h_ := HO2.out; rw [List.length_append] at h_; exact Kd.R_set h_ HF2.out (by decide) 0 _, HB2.out.setCell HBB.out _⟩
def snap_PutRow.l : Int → List Int → List Int → List Int × Int
 | _, out, [] => (out, 0)
 | was, out, n :: l => if n ≤ was ∨ n > 268435455 then ([], 2) else snap_PutRow.l n (out ++ number_Put.l 3 (n - was - 1) []) l
def snap_PutRow.f (l0 : List Int) : Option (List Int × Int) := if l0.length = 0 ∨ l0.length > 65536 then some ([], 2) else some (snap_PutRow.l (-1) (number_Put.l 3 l0.length []) l0)
theorem snap_PutRow.next (l : List Int) (j : Nat) (h : j < l.length) : l.drop j = rd l (j : Int) :: l.drop (j + 1) := by
 rw [List.drop_eq_getElem_cons h]
 unfold rd
 rw [Int.toNat_natCast, List.getD_eq_getElem?_getD, List.getElem?_eq_getElem h]
 rfl
theorem snap_PutRow.less {n j : Nat} (h : j < n) (e : wrap64 ((j : Int) + 1) = ((j + 1 : Nat) : Int)) : n - (intOf (.int .i64 (wrap64 ((j : Int) + 1)))).toNat < n - (intOf (.int .i64 (j : Int))).toNat := by
 rw [e]
 show n - (((j + 1 : Nat) : Int)).toNat < n - ((j : Int)).toNat
 omega
def snap_PutRow.J (w : World) (l0 r1 : List Int) (r2 : Int) (j : Nat) (was : Int) (wr : World) : Prop :=
 j ≤ l0.length ∧ -1 ≤ was ∧ was ≤ 268435455 ∧ ∃ (out : List Int) (v : Value), snap_PutRow.l was out (l0.drop j) = (r1, r2) ∧ wr.heap[w.heap.size]? = some (.cells #[v] 168 (0, 0)) ∧
  Kd.R (Kd.int .u8) 5 wr w.heap.size (fun _ => True) v out ∧ out.length ≤ 4 * (j + 1) ∧ Below w.heap.size w wr
set_option maxHeartbeats 8000000 in
set_option maxRecDepth 100000 in
theorem snap_PutRow.calls (A0 : Option Addr) (c0 : Nat) (l0 : List Int) (r1 : List Int) (r2 : Int) (w : World) (hr0 : Kd.C (Kd.int .i64) w A0 l0.length l0) (hc0 : l0.length ≤ c0) (h : snap_PutRow.f l0 = some (r1, r2)) :
  Calls Tryd.prog 97 #[.slice A0 l0.length c0] w fun e w' => ∃ v0_ : Value, e = .returned (.tuple #[v0_, .int .i64 r2]) ∧ Kd.R (Kd.int .u8) 5 w' w.heap.size (fun _ => True) v0_ r1 ∧ Below w.heap.size w w' := by
 unfold snap_PutRow.f at h
 by_cases c : l0.length = 0 ∨ l0.length > 65536
 ·rw [if_pos c] at h
  simp only [Option.some.injEq, Prod.mk.injEq] at h
  obtain ⟨rfl, rfl⟩ := h
  by_cases c1 : l0.length = 0
  ·have c2 : ((l0.length : Int) == 0) = true := beq_iff_eq.mpr (by omega)
   have c3 : decide (65536 < (l0.length : Int)) = false := decide_eq_false (by omega)
   have c4 : (l0.length == 0) = true := beq_iff_eq.mpr c1
   have c5 : decide (65536 < l0.length) = false := decide_eq_false (by omega)
   clear c c1
   go_enter Tryd.func97, Tryd.ntmps97
   go_wp2
   go_ret2
   exact ⟨_, rfl, Kd.R_nil _ _ _ _ _, Below.refl _ _⟩
  ·have c2 : ((l0.length : Int) == 0) = false := beq_eq_false_iff_ne.mpr (by omega)
   have c3 : decide (65536 < (l0.length : Int)) = true := decide_eq_true (by omega)
   have c4 : (l0.length == 0) = false := beq_eq_false_iff_ne.mpr c1
   have c5 : decide (65536 < l0.length) = true := decide_eq_true (by omega)
   clear c c1
   go_enter Tryd.func97, Tryd.ntmps97
   go_wp2
   go_ret2
   exact ⟨_, rfl, Kd.R_nil _ _ _ _ _, Below.refl _ _⟩
 ·rw [if_neg c] at h
  replace h := Option.some.inj h
  have c1 : ¬ l0.length = 0 := by omega
  have c2 : ((l0.length : Int) == 0) = false := beq_eq_false_iff_ne.mpr (by omega)
  have c3 : decide (65536 < (l0.length : Int)) = false := decide_eq_false (by omega)
  have c4 : (l0.length == 0) = false := beq_eq_false_iff_ne.mpr c1
  have c5 : decide (65536 < l0.length) = false := decide_eq_false (by omega)
  have HZ : Aside0 (l0.length ≤ 65536) := ⟨by omega⟩
  have H := am h
  have HR0 := am hr0; have HC0 := am hc0
  clear c c1 h hr0 hc0
  have HP : Aside0 (number_Put.f (l0.length : Int) = some (number_Put.l 3 (l0.length : Int) [], 0)) := ⟨by have := HZ.out; unfold number_Put.f; rw [if_neg (by omega), if_neg (by omega)]⟩
  have HL := am (number_Put.f_len HP.out)
  generalize number_Put.l 3 (l0.length : Int) [] = rl at *
  go_enter Tryd.func97, Tryd.ntmps97
  go_wp2_with (first | (go_at_call 108; (with_reducible refine (snap_writer_number.calls (l0.length : Int) rl 0 [] w.heap.size w.heap.size (.slice none 0 0) _ HP.out HL.out (heap_alloc_new w _) (Kd.R_nil _ _ _ _ _) (by simp) (Nat.le_refl _) (by simp)).mono ?_); rintro e w2 ⟨rfl, v2, hf, ho, hb⟩; have HB := am ((below_alloc (Below.refl w.heap.size w) _).trans hb); have HO := am ho; have HF := am hf; clear hb ho hf))
  go_loopw [6, 24] (fun v6 v24 wr => ∃ (j : Nat) (was : Int), v24 = .int .i64 j ∧ v6 = .int .i64 was ∧ Aside0 (snap_PutRow.J w l0 r1 r2 j was wr)) (fun _ v24 _ => l0.length - (intOf v24).toNat)
  case atStart => exact ⟨0, -1, rfl, rfl, ⟨⟨Nat.zero_le _, by omega, by omega, rl, v2, H.out, HF.out, HO.out, by have := HL.out; omega, HB.out⟩⟩⟩
  case round =>
   obtain ⟨j, was, rfl, rfl, HJ⟩ := hrel
   obtain ⟨j0, j1, j2, out, v, j3, j4, j5, j6, j7⟩ := HJ.out
   have HB := am j7; have HF := am j4; have HO := am j5; have H := am j3; have HN := am j6; have HW := am (And.intro j1 j2)
   have hcell : wr.cell? ⟨w.heap.size, 0, none⟩ = some v := (blk_cell HF.out 0).trans rfl
   clear j7 j4 j5 j3 j6 HJ
   by_cases hlt : j < l0.length
   ·have H1 : Aside0 (snap_PutRow.l was out (rd l0 (j : Int) :: l0.drop (j + 1)) = (r1, r2)) := ⟨by rw [← snap_PutRow.next l0 j hlt]; exact H.out⟩
    have b0 : decide ((j : Int) < (l0.length : Int)) = true := decide_eq_true (by omega)
    have b1 : decide (j < l0.length) = true := decide_eq_true hlt
    have p0 : 0 ≤ (j : Int) := by omega
    have q0 : (j : Int) < (l0.length : Int) := by omega
    obtain ⟨ad, e0, hx⟩ := Kd.at_int HR0.out (j : Int) p0 q0
    cases e0
    rw [Int.toNat_natCast] at hx
    replace hx := (HB.out.cell (World.block_lt_of_cell? w _ hx)).trans hx
    replace p0 := eq_true p0
    replace q0 := eq_true q0
    clear H
    have HLT := am hlt
    generalize rd l0 (j : Int) = x at *
    by_cases g1 : x ≤ was
    ·have g1b : decide (x ≤ was) = true := decide_eq_true g1
     have h1 := H1.out
     rw [snap_PutRow.l, if_pos (.inl g1)] at h1
     simp only [Prod.mk.injEq] at h1
     obtain ⟨rfl, rfl⟩ := h1
     clear g1 j1 j2 hlt
     go_wp2
     go_ret2
     exact ⟨_, rfl, Kd.R_nil _ _ _ _ _, HB.out⟩
    ·have g1b : decide (x ≤ was) = false := decide_eq_false g1
     by_cases g2 : x > 268435455
     ·have g2b : decide (268435455 < x) = true := decide_eq_true g2
      have h1 := H1.out
      rw [snap_PutRow.l, if_pos (.inr g2)] at h1
      simp only [Prod.mk.injEq] at h1
      obtain ⟨rfl, rfl⟩ := h1
      clear g1 g2 j1 j2 hlt
      go_wp2
      go_ret2
      exact ⟨_, rfl, Kd.R_nil _ _ _ _ _, HB.out⟩
     ·have g2b : decide (268435455 < x) = false := decide_eq_false g2
      have h1 := H1.out
      rw [snap_PutRow.l, if_neg (by omega)] at h1
      have e1 : wrap64 (x - was) = x - was := by unfold wrap64; omega
      have e2 : wrap64 (x - was - 1) = x - was - 1 := by unfold wrap64; omega
      have HP2 : Aside0 (number_Put.f (x - was - 1) = some (number_Put.l 3 (x - was - 1) [], 0)) := ⟨by unfold number_Put.f; rw [if_neg (by omega), if_neg (by omega)]⟩
      have HL2 := am (number_Put.f_len HP2.out)
      have H2 := am h1
      generalize number_Put.l 3 (x - was - 1) [] = rn at *
      have HX : Aside0 (-1 ≤ x ∧ x ≤ 268435455) := ⟨by omega⟩
      have E3 : Aside0 (wrap64 ((j : Int) + 1) = ((j + 1 : Nat) : Int)) := ⟨by have := HZ.out; unfold wrap64; omega⟩
      clear g1 g2 j1 j2 hlt h1
      go_wp2_with (first | (go_at_call 108; (with_reducible refine (snap_writer_number.calls (x - was - 1) rn 0 out w.heap.size w.heap.size v _ HP2.out HL2.out HF.out HO.out HB.out.size (Nat.le_refl _) (by have := HN.out; have := HZ.out; omega)).mono ?_); rintro e w3 ⟨rfl, v3, hf, ho, hb⟩; have HB3 := am (HB.out.trans hb); have HO3 := am ho; have HF3 := am hf; clear hb ho hf))
      go_roundw
      case rel => exact ⟨j + 1, x, by rw [E3.out], rfl, ⟨⟨by have := HLT.out; omega, HX.out.1, HX.out.2, out ++ rn, v3, H2.out, HF3.out, HO3.out, by rw [List.length_append]; have := HN.out; have := HL2.out; omega, HB3.out⟩⟩⟩
      case measure => exact snap_PutRow.less HLT.out E3.out
   ·have b0 : decide ((j : Int) < (l0.length : Int)) = false := decide_eq_false (by omega)
    have b1 : decide (j < l0.length) = false := decide_eq_false hlt
    have h1 := H.out
    rw [List.drop_of_length_le (by omega), snap_PutRow.l] at h1
    simp only [Prod.mk.injEq] at h1
    obtain ⟨rfl, rfl⟩ := h1
    clear hlt j0 j1 j2 H
    go_wp2
    go_ret2
    exact ⟨_, rfl, HO.out, HB.out⟩
def normal_Is.l0 : Nat → List (S25) → List (S25) → Int → Int → Option (Bool)
 | 0, _, _, _, _ => none
 | k + 1, x0, x5, x6, x7 => if x7 < x6 then (if 0 ≤ x7 then (if x7 < (x5.length : Int) then ((normal_empty.f ((rd_T25 x5 x7).f0) ((rd_T25 x5 x7).f1) ((rd_T25 x5 x7).f2)).bind fun t309 => (if t309 = true then (some false) else (if x7 > 0 then (if 0 ≤ (wrap64 (x7 - 1)) then (if (wrap64 (x7 - 1)) < (x0.length : Int) then (if ((rd_T25 x5 x7).f0) = ((rd_T25 x0 (wrap64 (x7 - 1))).f0) then (some false) else (normal_Is.l0 k x0 x5 x6 (wrap64 (x7 + 1)))) else (none)) else (none)) else (normal_Is.l0 k x0 x5 x6 (wrap64 (x7 + 1)))))) else (none)) else (none)) else (some true)
def normal_Is.f (k : Nat) (l0 : List (S25)) : Option (Bool) := normal_Is.l0 k l0 l0 (l0.length : Int) 0
def normal_Is.T4 : Bool × List (List Nat × List Nat) := (true, [([], []), ([0], [0]), ([1, 1], [1]), ([2], [2]), ([3, 2], [2, 3]), ([4, 2, 2], [2, 4]), ([5], [5]), ([6, 5], [5, 6]), ([5], [5]), ([5], [5]), ([9, 5], [5, 9]), ([8, 10, 5], [5, 8, 10]), ([11, 5], [5, 11]), ([12, 5], [5, 12]), ([7, 13, 5], [5, 7, 13]), ([5, 14, 2], [2, 5, 14]), ([2, 15], [2, 15])])
def normal_Is.B4 : List Nat := [0, 1, 3, 7, 15, 31, 63, 127, 63, 63, 575, 1855, 3903, 7999, 16383, 32767, 65535]
theorem normal_Is.tab4 : rtab .any (opsOf Tryd.f107 4) = normal_Is.T4 := by kernel_rfl
theorem normal_Is.bits4 : waitsOk normal_Is.T4.2 normal_Is.B4 = true := by kernel_rfl
set_option maxHeartbeats 8000000 in
set_option maxRecDepth 100000 in
theorem normal_Is.calls (k : Nat) (A0 : Option Addr) (c0 : Nat) (l0 : List (S25)) (r : Bool) (w : World) (hr0 : Kd.C k25 w A0 l0.length l0) (hc0 : l0.length ≤ c0) (h : normal_Is.f k l0 = some r) :
  Calls Tryd.prog 107 #[.slice A0 l0.length c0] w fun e w' => e = .returned (.bool r) ∧ Below w.heap.size w w' := by
 have hu25 := Tryd.underlying25
 have HR0 := am hr0
 have HC0 := am hc0
 clear hr0 hc0
 have HB := am (Below.refl w.heap.size w)
 have H : (normal_Is.l0 k l0 l0 (l0.length : Int) 0) = some r := h
 clear h
 have H' := am H
 clear H
 go_enter Tryd.func107, Tryd.ntmps107
 go_wp2
 go_loopg [7] k (fun kq v7 w' => ∃ (x7_1 : Int), v7 = .int .i64 x7_1 ∧ Aside0 (normal_Is.l0 kq l0 l0 (l0.length : Int) x7_1 = some r) ∧ Aside0 (kq ≤ k) ∧ Aside0 (Below w.heap.size w w'))
 case atStart => exact ⟨(0), pj, H', ⟨Nat.le_refl _⟩, ⟨bl⟩⟩
 case round =>
  clear H'
  try clear c1
  obtain ⟨x7_1, rfl, HA, HK1, HB⟩ := hrel
  cases gk with
  | zero => exact absurd HA.out (by simp [normal_Is.l0])
  | succ k1 =>
   have H := HA.out
   clear HA
   simp only [normal_Is.l0] at H
   by_cases c2 : x7_1 < (l0.length : Int)
   ·rw [if_pos c2] at H
    have c2b0 : decide (x7_1 < (l0.length : Int)) = true := decide_eq_true c2
    clear c2
    by_cases c3 : 0 ≤ x7_1
    ·rw [if_pos c3] at H
     have c3b0 : decide (0 ≤ x7_1) = true := decide_eq_true c3
     clear c3
     by_cases c4 : x7_1 < (l0.length : Int)
     ·rw [if_pos c4] at H
      have c4b0 : decide (x7_1 < (l0.length : Int)) = true := decide_eq_true c4
      clear c4
      replace H := Option.bind_eq_some_iff.mp H
      obtain ⟨t309, A50, H⟩ := H
      try dsimp only at H
      have A5 := am A50
      clear A50
      by_cases c6 : t309 = true
      ·subst c6
       have H1 : (some false) = some r := by rw [if_pos rfl] at H; exact H
       clear H
       have H := H1
       clear H1
       obtain rfl := Option.some.inj H
       simp only [Option.some.injEq, Prod.mk.injEq] at H
       obtain ⟨rfl⟩ := H
       have p307 : 0 ≤ (x7_1 : Int) := of_decide_eq_true as0
       have q307 : x7_1 < (l0.length : Int) := of_decide_eq_true as0
       obtain ⟨ad307, e307, hx307_0, hx307_1, hx307_2⟩ := at_T25 HR0.out x7_1 p307 q307
       cases e307
       replace hx307_0 := (HB.out.cell (World.block_lt_of_cell? w _ hx307_0)).trans hx307_0
       replace hx307_1 := (HB.out.cell (World.block_lt_of_cell? w _ hx307_1)).trans hx307_1
       replace hx307_2 := (HB.out.cell (World.block_lt_of_cell? w _ hx307_2)).trans hx307_2
       replace p307 := eq_true p307
       replace q307 := eq_true q307
       try go_wp2_with (first | ((with_reducible refine gate_dst (N := 4) rfl ?_); refine box_event ?hg (N := 4) ?hd (cs := #[.int .i64 0, .int .i64 0, .string (⟨#[]⟩ : ByteArray)]) (t := 25) ?hr ?_; (case hd => rfl); (case hg => rfl); (case hr => first | (go_simp; done) | (go_simp; rfl)); intro gb308 hg w7 hbox hb; have n0_ := am (below_step bl hb); have n1_ := am (hbox); have n2_ := am ((gs : w.heap.size ≤ gb308)); have n3_ := am ((gs : w.heap.size ≤ gb308)); clear HB; have HB := n0_; have BK308 := n1_; have GW308 := n2_; have GE308 := n3_; clear n0_ n1_ n2_ n3_; clear hb hbox hg; have hcz8_0 : w7.cell? ⟨gb308, 0, none⟩ = some (.int .i64 0) := (blk_cell BK308.out 0).trans rfl; have hcz8_1 : w7.cell? ⟨gb308, 1, none⟩ = some (.int .i64 0) := (blk_cell BK308.out 1).trans rfl; have hcz8_2 : w7.cell? ⟨gb308, 2, none⟩ = some (.string (⟨#[]⟩ : ByteArray)) := (blk_cell BK308.out 2).trans rfl; have hfz8_0 := blk_frozen BK308.out 0; have hfz8_1 := blk_frozen BK308.out 1; have hfz8_2 := blk_frozen BK308.out 2))
       have n0_ : Aside0 ((((w7.setCell ⟨gb308, 0, none⟩ (.int .i64 ((rd_T25 l0 x7_1).f0))).setCell ⟨gb308, 1, none⟩ (.int .i64 ((rd_T25 l0 x7_1).f1))).setCell ⟨gb308, 2, none⟩ (.string ((rd_T25 l0 x7_1).f2))).heap[gb308]? = some (.cells #[.int .i64 ((rd_T25 l0 x7_1).f0), .int .i64 ((rd_T25 l0 x7_1).f1), .string ((rd_T25 l0 x7_1).f2)] 25 (0, 0))) := ⟨by refine bk ?_; refine blk_put (cs := #[.int .i64 ((rd_T25 l0 x7_1).f0), .int .i64 ((rd_T25 l0 x7_1).f1), .string (⟨#[]⟩ : ByteArray)]) ?_ 2 _ rfl; refine bk ?_; refine blk_put (cs := #[.int .i64 ((rd_T25 l0 x7_1).f0), .int .i64 0, .string (⟨#[]⟩ : ByteArray)]) ?_ 1 _ rfl; refine bk ?_; refine blk_put (cs := #[.int .i64 0, .int .i64 0, .string (⟨#[]⟩ : ByteArray)]) ?_ 0 _ rfl; refine bk ?_; exact BK308.out⟩
       have n1_ : Aside0 (Below w.heap.size w (((w7.setCell ⟨gb308, 0, none⟩ (.int .i64 ((rd_T25 l0 x7_1).f0))).setCell ⟨gb308, 1, none⟩ (.int .i64 ((rd_T25 l0 x7_1).f1))).setCell ⟨gb308, 2, none⟩ (.string ((rd_T25 l0 x7_1).f2)))) := ⟨bl⟩
       (try clear BK308)
       (try clear HB)
       generalize (((w7.setCell ⟨gb308, 0, none⟩ (.int .i64 ((rd_T25 l0 x7_1).f0))).setCell ⟨gb308, 1, none⟩ (.int .i64 ((rd_T25 l0 x7_1).f1))).setCell ⟨gb308, 2, none⟩ (.string ((rd_T25 l0 x7_1).f2))) = w9 at n0_ n1_ ⊢
       have BK308 := n0_
       have HB := n1_
       clear n0_ n1_
       have n0_ := am (blk_drew BK308.out)
       have n1_ := am (below_drew1 HB.out)
       clear BK308
       clear HB
       have BK308 := n0_
       have HB := n1_
       clear n0_ n1_
       refine start_ (n := 17) (S := fun w' => w'.cell? ⟨gb308, 0, none⟩ = some (.int .i64 ((rd_T25 l0 x7_1).f0)) ∧ w'.cell? ⟨gb308, 1, none⟩ = some (.int .i64 ((rd_T25 l0 x7_1).f1)) ∧ w'.cell? ⟨gb308, 2, none⟩ = some (.string ((rd_T25 l0 x7_1).f2))) (ds := []) #[false, false, false, false, false, false, false, false, false, false, false, false, false, false, false, false, false] (by kernel_rfl) rfl rfl ⟨(blk_cell BK308.out 0).trans rfl, (blk_cell BK308.out 1).trans rfl, (blk_cell BK308.out 2).trans rfl⟩ (fun hHeld => ?_); refine with_tabW normal_Is.tab4 normal_Is.bits4 (fun HT_ HW_ => ?_)
       generalize w9.drew = w10 at BK308 HB hHeld ⊢
       refine take_ (i := 0) (N := some 12) (v := ?_) (a' := ?_) #[true, false, false, false, false, false, false, false, false, false, false, false, false, false, false, false, false] rfl rfl (take_ofW HT_.out HW_.out (by kernel_rfl)) (fun _ _ _ h => h) (Or.inl ⟨by rfl, ?_⟩) hHeld ?_ ?_
       rotate_left
       ·rintro w' ⟨s0, s1, s2⟩
        go_simp
        with_reducible rfl
       rotate_left
       ·exact ap
       refine one_ (i := 1) (N := some 13) #[true, true, false, false, false, false, false, false, false, false, false, false, false, false, false, false, false] rfl rfl (one_of HT_.out (by kernel_rfl)) (by decide) (fun K hK => ?_)
       refine goes_ Tryd.func74 (by kernel_rfl) rfl #[.agg #[.int .i64 ((rd_T25 l0 x7_1).f0), .int .i64 ((rd_T25 l0 x7_1).f1), .string ((rd_T25 l0 x7_1).f2)]] (by rfl) rfl rfl ar ?_
       with_reducible refine (normal_empty.calls ((rd_T25 l0 x7_1).f0) ((rd_T25 l0 x7_1).f1) ((rd_T25 l0 x7_1).f2) true _ A5.out).mono ?_
       rintro e w11 ⟨rfl, hb⟩
       refine ⟨_, rfl, ?_⟩
       have n0_ := am (blk_below (g := gb308) (o := .cells #[.int .i64 ((rd_T25 l0 x7_1).f0), .int .i64 ((rd_T25 l0 x7_1).f1), .string ((rd_T25 l0 x7_1).f2)] 25 (0, 0)) (by refine bk ?_; exact BK308.out) hb)
       have n1_ := am (below_step bl hb)
       clear BK308
       clear HB
       have BK308 := n0_
       have HB := n1_
       clear n0_ n1_
       (try clear hb)
       (try clear hb2)
       (try clear hk)
       (try clear hi)
       refine hK.out _ _ ⟨(blk_cell BK308.out 0).trans rfl, (blk_cell BK308.out 1).trans rfl, (blk_cell BK308.out 2).trans rfl⟩ (fun hHeld => ?_)
       clear hK K
       refine norm_ (a' := ?_) ?_ ?_
       rotate_left
       ·show Act.put _ (some 13) _ = _
        simp only [Act.put, List.setIfInBounds_toArray, List.set_cons_zero, List.set_cons_succ, i64_w, i32_w]
        rfl
       refine pure_ (i := 2) (N := some 14) #[true, true, true, false, false, false, false, false, false, false, false, false, false, false, false, false, false] rfl rfl (aT HT_.out) (fun _ _ _ h => h) (Or.inl ⟨rfl, rn⟩) ap ?_
       refine pure_ (i := 3) (N := some 15) (v := undef) (a' := ?_) #[true, true, true, true, false, false, false, false, false, false, false, false, false, false, false, false, false] rfl rfl (aT HT_.out) (fun _ _ _ h => h) (Or.inr ⟨by rfl, rfl⟩) ?_ ?_
       rotate_left
       ·exact ap
       refine pure_ (i := 4) (N := some 16) (v := undef) (a' := ?_) #[true, true, true, true, true, false, false, false, false, false, false, false, false, false, false, false, false] rfl rfl (aT HT_.out) (fun _ _ _ h => h) (Or.inr ⟨by rfl, rfl⟩) ?_ ?_
       rotate_left
       ·exact ap
       refine pure_ (i := 5) (N := some 17) (v := undef) (a' := ?_) #[true, true, true, true, true, true, false, false, false, false, false, false, false, false, false, false, false] rfl rfl (aT HT_.out) (fun _ _ _ h => h) (Or.inr ⟨by rfl, rfl⟩) ?_ ?_
       rotate_left
       ·exact ap
       refine pure_ (i := 6) (N := some 18) (v := undef) (a' := ?_) #[true, true, true, true, true, true, true, false, false, false, false, false, false, false, false, false, false] rfl rfl (aT HT_.out) (fun _ _ _ h => h) (Or.inr ⟨by rfl, rfl⟩) ?_ ?_
       rotate_left
       ·exact ap
       refine pure_ (i := 7) (N := some 19) (v := undef) (a' := ?_) #[true, true, true, true, true, true, true, true, false, false, false, false, false, false, false, false, false] rfl rfl (aT HT_.out) (fun _ _ _ h => h) (Or.inr ⟨by rfl, rfl⟩) ?_ ?_
       rotate_left
       ·exact ap
       refine pure_ (i := 8) (N := some 20) (v := undef) (a' := ?_) #[true, true, true, true, true, true, true, true, true, false, false, false, false, false, false, false, false] rfl rfl (aT HT_.out) (fun _ _ _ h => h) (Or.inr ⟨by rfl, rfl⟩) ?_ ?_
       rotate_left
       ·exact ap
       refine pure_ (i := 9) (N := some 21) (v := undef) (a' := ?_) #[true, true, true, true, true, true, true, true, true, true, false, false, false, false, false, false, false] rfl rfl (aT HT_.out) (fun _ _ _ h => h) (Or.inr ⟨by rfl, rfl⟩) ?_ ?_
       rotate_left
       ·exact ap
       refine pure_ (i := 10) (N := some 22) (v := undef) (a' := ?_) #[true, true, true, true, true, true, true, true, true, true, true, false, false, false, false, false, false] rfl rfl (aT HT_.out) (fun _ _ _ h => h) (Or.inr ⟨by rfl, rfl⟩) ?_ ?_
       rotate_left
       ·exact ap
       refine pure_ (i := 11) (N := some 23) (v := undef) (a' := ?_) #[true, true, true, true, true, true, true, true, true, true, true, true, false, false, false, false, false] rfl rfl (aT HT_.out) (fun _ _ _ h => h) (Or.inr ⟨by rfl, rfl⟩) ?_ ?_
       rotate_left
       ·exact ap
       refine pure_ (i := 12) (N := some 24) (v := undef) (a' := ?_) #[true, true, true, true, true, true, true, true, true, true, true, true, true, false, false, false, false] rfl rfl (aT HT_.out) (fun _ _ _ h => h) (Or.inr ⟨by rfl, rfl⟩) ?_ ?_
       rotate_left
       ·exact ap
       refine pure_ (i := 13) (N := some 25) (v := undef) (a' := ?_) #[true, true, true, true, true, true, true, true, true, true, true, true, true, true, false, false, false] rfl rfl (aT HT_.out) (fun _ _ _ h => h) (Or.inr ⟨by rfl, rfl⟩) ?_ ?_
       rotate_left
       ·exact ap
       refine pure_ (i := 14) (N := some 26) (v := undef) (a' := ?_) #[true, true, true, true, true, true, true, true, true, true, true, true, true, true, true, false, false] rfl rfl (aT HT_.out) (fun _ _ _ h => h) (Or.inr ⟨by rfl, rfl⟩) ?_ ?_
       rotate_left
       ·exact ap
       refine pure_ (i := 15) (N := some 27) (v := undef) (a' := ?_) #[true, true, true, true, true, true, true, true, true, true, true, true, true, true, true, true, false] rfl rfl (aT HT_.out) (fun _ _ _ h => h) (Or.inr ⟨by rfl, rfl⟩) ?_ ?_
       rotate_left
       ·exact ap
       refine pure_ (i := 16) (N := some 28) #[true, true, true, true, true, true, true, true, true, true, true, true, true, true, true, true, true] rfl rfl (aT HT_.out) (fun _ _ _ h => h) (Or.inl ⟨rfl, rn⟩) ap ?_
       refine done_ (done_of HT_.out (by kernel_rfl)) ?_
       try go_wp2
       go_ret
       exact ⟨by first | rfl | (simp [errW_none, errW_some] <;> rfl) | (simp [*, errW_none, errW_some] <;> rfl), bl⟩
      ·replace c6 := Bool.eq_false_iff.mpr c6
       subst c6
       have H1 : (if x7_1 > 0 then (if 0 ≤ (wrap64 (x7_1 - 1)) then (if (wrap64 (x7_1 - 1)) < (l0.length : Int) then (if ((rd_T25 l0 x7_1).f0) = ((rd_T25 l0 (wrap64 (x7_1 - 1))).f0) then (some false) else (normal_Is.l0 k1 l0 l0 (l0.length : Int) (wrap64 (x7_1 + 1)))) else (none)) else (none)) else (normal_Is.l0 k1 l0 l0 (l0.length : Int) (wrap64 (x7_1 + 1)))) = some r := by rw [if_neg (show ¬ (false = true) by decide)] at H; exact H
       clear H
       have H := H1
       clear H1
       by_cases c12 : x7_1 > 0
       ·rw [if_pos c12] at H
        have c12b0 : decide (0 < x7_1) = true := decide_eq_true c12
        clear c12
        obtain ⟨ji13, hji13⟩ : ∃ j_ : Int, (wrap64 (x7_1 - 1)) = j_ := ⟨_, rfl⟩
        replace H : (if 0 ≤ (ji13) then (if (ji13) < (l0.length : Int) then (if ((rd_T25 l0 x7_1).f0) = ((rd_T25 l0 (ji13)).f0) then (some false) else (normal_Is.l0 k1 l0 l0 (l0.length : Int) (wrap64 (x7_1 + 1)))) else (none)) else (none)) = some r := by first | (rw [hji13] at H; exact H) | (simp only [hji13] at H ⊢; exact H)
        (try rw [hji13] at A5)
        have hji13w : (IntKind.i64.wrap (x7_1 - 1)) = ji13 := (i64_w _).trans hji13
        by_cases c14 : 0 ≤ (ji13)
        ·rw [if_pos c14] at H
         have c14b0 : decide (0 ≤ (ji13)) = true := decide_eq_true c14
         clear c14
         by_cases c15 : (ji13) < (l0.length : Int)
         ·rw [if_pos c15] at H
          have c15b0 : decide ((ji13) < (l0.length : Int)) = true := decide_eq_true c15
          clear c15
          by_cases c16 : ((rd_T25 l0 x7_1).f0) = ((rd_T25 l0 (ji13)).f0)
          ·rw [if_pos c16] at H
           have c16b0 : (((rd_T25 l0 x7_1).f0) == ((rd_T25 l0 (ji13)).f0)) = true := beq_iff_eq.mpr c16
           have c16b1 : (((rd_T25 l0 x7_1).f0) != ((rd_T25 l0 (ji13)).f0)) = false := bne_eq_false_iff_eq.mpr c16
           clear c16
           obtain rfl := Option.some.inj H
           simp only [Option.some.injEq, Prod.mk.injEq] at H
           obtain ⟨rfl⟩ := H
           have p307 : 0 ≤ (x7_1 : Int) := of_decide_eq_true as0
           have q307 : x7_1 < (l0.length : Int) := of_decide_eq_true as0
           obtain ⟨ad307, e307, hx307_0, hx307_1, hx307_2⟩ := at_T25 HR0.out x7_1 p307 q307
           cases e307
           replace hx307_0 := (HB.out.cell (World.block_lt_of_cell? w _ hx307_0)).trans hx307_0
           replace hx307_1 := (HB.out.cell (World.block_lt_of_cell? w _ hx307_1)).trans hx307_1
           replace hx307_2 := (HB.out.cell (World.block_lt_of_cell? w _ hx307_2)).trans hx307_2
           replace p307 := eq_true p307
           replace q307 := eq_true q307
           try go_wp2_with (first | ((with_reducible refine gate_dst (N := 4) rfl ?_); refine box_event ?hg (N := 4) ?hd (cs := #[.int .i64 0, .int .i64 0, .string (⟨#[]⟩ : ByteArray)]) (t := 25) ?hr ?_; (case hd => rfl); (case hg => rfl); (case hr => first | (go_simp; done) | (go_simp; rfl)); intro gb308 hg w17 hbox hb; have n0_ := am (below_step bl hb); have n1_ := am (hbox); have n2_ := am ((gs : w.heap.size ≤ gb308)); have n3_ := am ((gs : w.heap.size ≤ gb308)); clear HB; have HB := n0_; have BK308 := n1_; have GW308 := n2_; have GE308 := n3_; clear n0_ n1_ n2_ n3_; clear hb hbox hg; have hcz18_0 : w17.cell? ⟨gb308, 0, none⟩ = some (.int .i64 0) := (blk_cell BK308.out 0).trans rfl; have hcz18_1 : w17.cell? ⟨gb308, 1, none⟩ = some (.int .i64 0) := (blk_cell BK308.out 1).trans rfl; have hcz18_2 : w17.cell? ⟨gb308, 2, none⟩ = some (.string (⟨#[]⟩ : ByteArray)) := (blk_cell BK308.out 2).trans rfl; have hfz18_0 := blk_frozen BK308.out 0; have hfz18_1 := blk_frozen BK308.out 1; have hfz18_2 := blk_frozen BK308.out 2))
           have n0_ : Aside0 ((((w17.setCell ⟨gb308, 0, none⟩ (.int .i64 ((rd_T25 l0 x7_1).f0))).setCell ⟨gb308, 1, none⟩ (.int .i64 ((rd_T25 l0 x7_1).f1))).setCell ⟨gb308, 2, none⟩ (.string ((rd_T25 l0 x7_1).f2))).heap[gb308]? = some (.cells #[.int .i64 ((rd_T25 l0 x7_1).f0), .int .i64 ((rd_T25 l0 x7_1).f1), .string ((rd_T25 l0 x7_1).f2)] 25 (0, 0))) := ⟨by refine bk ?_; refine blk_put (cs := #[.int .i64 ((rd_T25 l0 x7_1).f0), .int .i64 ((rd_T25 l0 x7_1).f1), .string (⟨#[]⟩ : ByteArray)]) ?_ 2 _ rfl; refine bk ?_; refine blk_put (cs := #[.int .i64 ((rd_T25 l0 x7_1).f0), .int .i64 0, .string (⟨#[]⟩ : ByteArray)]) ?_ 1 _ rfl; refine bk ?_; refine blk_put (cs := #[.int .i64 0, .int .i64 0, .string (⟨#[]⟩ : ByteArray)]) ?_ 0 _ rfl; refine bk ?_; exact BK308.out⟩
           have n1_ : Aside0 (Below w.heap.size w (((w17.setCell ⟨gb308, 0, none⟩ (.int .i64 ((rd_T25 l0 x7_1).f0))).setCell ⟨gb308, 1, none⟩ (.int .i64 ((rd_T25 l0 x7_1).f1))).setCell ⟨gb308, 2, none⟩ (.string ((rd_T25 l0 x7_1).f2)))) := ⟨bl⟩
           (try clear BK308)
           (try clear HB)
           generalize (((w17.setCell ⟨gb308, 0, none⟩ (.int .i64 ((rd_T25 l0 x7_1).f0))).setCell ⟨gb308, 1, none⟩ (.int .i64 ((rd_T25 l0 x7_1).f1))).setCell ⟨gb308, 2, none⟩ (.string ((rd_T25 l0 x7_1).f2))) = w19 at n0_ n1_ ⊢
           have BK308 := n0_
           have HB := n1_
           clear n0_ n1_
           have n0_ := am (blk_drew BK308.out)
           have n1_ := am (below_drew1 HB.out)
           clear BK308
           clear HB
           have BK308 := n0_
           have HB := n1_
           clear n0_ n1_
           have p310 : 0 ≤ ((ji13) : Int) := of_decide_eq_true as0
           have q310 : (ji13) < (l0.length : Int) := of_decide_eq_true as0
           obtain ⟨ad310, e310, hx310_0, hx310_1, hx310_2⟩ := at_T25 HR0.out (ji13) p310 q310
           have hw310_2 := hx310_2
           have hw310_1 := hx310_1
           have hw310_0 := hx310_0
           obtain rfl : ad307 = ad310 := (by injection e310)
           replace hx310_0 := (HB.out.cell (World.block_lt_of_cell? w _ hx310_0)).trans hx310_0
           replace hx310_1 := (HB.out.cell (World.block_lt_of_cell? w _ hx310_1)).trans hx310_1
           replace hx310_2 := (HB.out.cell (World.block_lt_of_cell? w _ hx310_2)).trans hx310_2
           replace p310 := eq_true p310
           replace q310 := eq_true q310
           refine start_ (n := 17) (S := fun w' => w'.cell? ⟨gb308, 0, none⟩ = some (.int .i64 ((rd_T25 l0 x7_1).f0)) ∧ w'.cell? ⟨gb308, 1, none⟩ = some (.int .i64 ((rd_T25 l0 x7_1).f1)) ∧ w'.cell? ⟨gb308, 2, none⟩ = some (.string ((rd_T25 l0 x7_1).f2)) ∧ w'.cell? (ad307.add (((ji13)).toNat * 3)) = some (.int .i64 ((rd_T25 l0 (ji13)).f0)) ∧ w'.cell? ⟨(ad307.add (((ji13)).toNat * 3)).block, (ad307.add (((ji13)).toNat * 3)).off + 1, none⟩ = some (.int .i64 ((rd_T25 l0 (ji13)).f1)) ∧ w'.cell? ⟨(ad307.add (((ji13)).toNat * 3)).block, (ad307.add (((ji13)).toNat * 3)).off + 2, none⟩ = some (.string ((rd_T25 l0 (ji13)).f2))) (ds := []) #[false, false, false, false, false, false, false, false, false, false, false, false, false, false, false, false, false] (by kernel_rfl) rfl rfl ⟨(blk_cell BK308.out 0).trans rfl, (blk_cell BK308.out 1).trans rfl, (blk_cell BK308.out 2).trans rfl, ((HB.out.cell (World.block_lt_of_cell? w _ hw310_0)).trans hw310_0), ((HB.out.cell (World.block_lt_of_cell? w _ hw310_1)).trans hw310_1), ((HB.out.cell (World.block_lt_of_cell? w _ hw310_2)).trans hw310_2)⟩ (fun hHeld => ?_); refine with_tabW normal_Is.tab4 normal_Is.bits4 (fun HT_ HW_ => ?_)
           generalize w19.drew = w20 at BK308 HB hx310_0 hx310_1 hx310_2 hHeld ⊢
           refine take_ (i := 0) (N := some 12) (v := ?_) (a' := ?_) #[true, false, false, false, false, false, false, false, false, false, false, false, false, false, false, false, false] rfl rfl (take_ofW HT_.out HW_.out (by kernel_rfl)) (fun _ _ _ h => h) (Or.inl ⟨by rfl, ?_⟩) hHeld ?_ ?_
           rotate_left
           ·rintro w' ⟨s0, s1, s2, s3, s4, s5⟩
            go_simp
            with_reducible rfl
           rotate_left
           ·exact ap
           refine one_ (i := 1) (N := some 13) #[true, true, false, false, false, false, false, false, false, false, false, false, false, false, false, false, false] rfl rfl (one_of HT_.out (by kernel_rfl)) (by decide) (fun K hK => ?_)
           refine goes_ Tryd.func74 (by kernel_rfl) rfl #[.agg #[.int .i64 ((rd_T25 l0 x7_1).f0), .int .i64 ((rd_T25 l0 x7_1).f1), .string ((rd_T25 l0 x7_1).f2)]] (by rfl) rfl rfl ar ?_
           with_reducible refine (normal_empty.calls ((rd_T25 l0 x7_1).f0) ((rd_T25 l0 x7_1).f1) ((rd_T25 l0 x7_1).f2) false _ A5.out).mono ?_
           rintro e w21 ⟨rfl, hb⟩
           refine ⟨_, rfl, ?_⟩
           have n0_ := am (blk_below (g := gb308) (o := .cells #[.int .i64 ((rd_T25 l0 x7_1).f0), .int .i64 ((rd_T25 l0 x7_1).f1), .string ((rd_T25 l0 x7_1).f2)] 25 (0, 0)) (by refine bk ?_; exact BK308.out) hb)
           have n1_ := am (below_step bl hb)
           clear BK308
           clear HB
           have BK308 := n0_
           have HB := n1_
           clear n0_ n1_
           (try clear hb)
           (try clear hb2)
           (try clear hk)
           (try clear hi)
           refine hK.out _ _ ⟨(blk_cell BK308.out 0).trans rfl, (blk_cell BK308.out 1).trans rfl, (blk_cell BK308.out 2).trans rfl, ((HB.out.cell (World.block_lt_of_cell? w _ hw310_0)).trans hw310_0), ((HB.out.cell (World.block_lt_of_cell? w _ hw310_1)).trans hw310_1), ((HB.out.cell (World.block_lt_of_cell? w _ hw310_2)).trans hw310_2)⟩ (fun hHeld => ?_)
           clear hK K
           refine norm_ (a' := ?_) ?_ ?_
           rotate_left
           ·show Act.put _ (some 13) _ = _
            simp only [Act.put, List.setIfInBounds_toArray, List.set_cons_zero, List.set_cons_succ, i64_w, i32_w]
            rfl
           refine pure_ (i := 2) (N := some 14) #[true, true, true, false, false, false, false, false, false, false, false, false, false, false, false, false, false] rfl rfl (aT HT_.out) (fun _ _ _ h => h) (Or.inl ⟨rfl, rn⟩) ap ?_
           refine pure_ (i := 3) (N := some 15) #[true, true, true, true, false, false, false, false, false, false, false, false, false, false, false, false, false] rfl rfl (aT HT_.out) (fun _ _ _ h => h) (Or.inl ⟨rfl, rn⟩) ap ?_
           refine pure_ (i := 4) (N := some 16) #[true, true, true, true, true, false, false, false, false, false, false, false, false, false, false, false, false] rfl rfl (aT HT_.out) (fun _ _ _ h => h) (Or.inl ⟨rfl, rn⟩) ap ?_
           refine pure_ (i := 5) (N := some 17) #[true, true, true, true, true, true, false, false, false, false, false, false, false, false, false, false, false] rfl rfl (aT HT_.out) (fun _ _ _ h => h) (Or.inl ⟨rfl, rn⟩) ap ?_
           refine pure_ (i := 6) (N := some 18) #[true, true, true, true, true, true, true, false, false, false, false, false, false, false, false, false, false] rfl rfl (aT HT_.out) (fun _ _ _ h => h) (Or.inl ⟨rfl, rn⟩) ap ?_
           refine pure_ (i := 8) (N := some 20) #[true, true, true, true, true, true, true, false, true, false, false, false, false, false, false, false, false] rfl rfl (aT HT_.out) (fun _ _ _ h => h) (Or.inl ⟨rfl, rn⟩) ap ?_
           refine pure_ (i := 9) (N := some 21) #[true, true, true, true, true, true, true, false, true, true, false, false, false, false, false, false, false] rfl rfl (aT HT_.out) (fun _ _ _ h => h) (Or.inl ⟨rfl, rn⟩) ap ?_
           refine pure_ (i := 10) (N := some 22) #[true, true, true, true, true, true, true, false, true, true, true, false, false, false, false, false, false] rfl rfl (aT HT_.out) (fun _ _ _ h => h) (Or.inl ⟨rfl, rn⟩) ap ?_
           refine pure_ (i := 11) (N := some 23) #[true, true, true, true, true, true, true, false, true, true, true, true, false, false, false, false, false] rfl rfl (aT HT_.out) (fun _ _ _ h => h) (Or.inl ⟨rfl, rn⟩) ap ?_
           refine pure_ (i := 12) (N := some 24) #[true, true, true, true, true, true, true, false, true, true, true, true, true, false, false, false, false] rfl rfl (aT HT_.out) (fun _ _ _ h => h) (Or.inl ⟨rfl, rn⟩) ap ?_
           refine take_ (i := 7) (N := some 19) (v := ?_) (a' := ?_) #[true, true, true, true, true, true, true, true, true, true, true, true, true, false, false, false, false] rfl rfl (take_ofW HT_.out HW_.out (by kernel_rfl)) (fun _ _ _ h => h) (Or.inl ⟨by rfl, ?_⟩) hHeld ?_ ?_
           rotate_left
           ·rintro w' ⟨s0, s1, s2, s3, s4, s5⟩
            go_simp
            with_reducible rfl
           rotate_left
           ·exact ap
           refine take_ (i := 13) (N := some 25) (v := ?_) (a' := ?_) #[true, true, true, true, true, true, true, true, true, true, true, true, true, true, false, false, false] rfl rfl (take_ofW HT_.out HW_.out (by kernel_rfl)) (fun _ _ _ h => h) (Or.inl ⟨by rfl, ?_⟩) hHeld ?_ ?_
           rotate_left
           ·rintro w' ⟨s0, s1, s2, s3, s4, s5⟩
            go_simp
            with_reducible rfl
           rotate_left
           ·exact ap
           refine pure_ (i := 14) (N := some 26) #[true, true, true, true, true, true, true, true, true, true, true, true, true, true, true, false, false] rfl rfl (aT HT_.out) (fun _ _ _ h => h) (Or.inl ⟨rfl, rn⟩) ap ?_
           refine pure_ (i := 15) (N := some 27) #[true, true, true, true, true, true, true, true, true, true, true, true, true, true, true, true, false] rfl rfl (aT HT_.out) (fun _ _ _ h => h) (Or.inl ⟨rfl, rn⟩) ap ?_
           refine pure_ (i := 16) (N := some 28) #[true, true, true, true, true, true, true, true, true, true, true, true, true, true, true, true, true] rfl rfl (aT HT_.out) (fun _ _ _ h => h) (Or.inl ⟨rfl, rn⟩) ap ?_
           refine done_ (done_of HT_.out (by kernel_rfl)) ?_
           try go_wp2
           go_ret
           exact ⟨by first | rfl | (simp [errW_none, errW_some] <;> rfl) | (simp only [← hji13]; first | rfl | (simp [errW_none, errW_some] <;> rfl)) | (simp [*, errW_none, errW_some] <;> rfl), bl⟩
          ·rw [if_neg c16] at H
           have c16b0 : (((rd_T25 l0 x7_1).f0) == ((rd_T25 l0 (ji13)).f0)) = false := beq_eq_false_iff_ne.mpr c16
           have c16b1 : (((rd_T25 l0 x7_1).f0) != ((rd_T25 l0 (ji13)).f0)) = true := bne_iff_ne.mpr c16
           have H' := am H
           clear H
           have p307 : 0 ≤ (x7_1 : Int) := of_decide_eq_true as0
           have q307 : x7_1 < (l0.length : Int) := of_decide_eq_true as0
           obtain ⟨ad307, e307, hx307_0, hx307_1, hx307_2⟩ := at_T25 HR0.out x7_1 p307 q307
           cases e307
           replace hx307_0 := (HB.out.cell (World.block_lt_of_cell? w _ hx307_0)).trans hx307_0
           replace hx307_1 := (HB.out.cell (World.block_lt_of_cell? w _ hx307_1)).trans hx307_1
           replace hx307_2 := (HB.out.cell (World.block_lt_of_cell? w _ hx307_2)).trans hx307_2
           replace p307 := eq_true p307
           replace q307 := eq_true q307
           try go_wp2_with (first | ((with_reducible refine gate_dst (N := 4) rfl ?_); refine box_event ?hg (N := 4) ?hd (cs := #[.int .i64 0, .int .i64 0, .string (⟨#[]⟩ : ByteArray)]) (t := 25) ?hr ?_; (case hd => rfl); (case hg => rfl); (case hr => first | (go_simp; done) | (go_simp; rfl)); intro gb308 hg w22 hbox hb; have n0_ := am (below_step bl hb); have n1_ := am (hbox); have n2_ := am ((gs : w.heap.size ≤ gb308)); have n3_ := am ((gs : w.heap.size ≤ gb308)); clear HB; have HB := n0_; have BK308 := n1_; have GW308 := n2_; have GE308 := n3_; clear n0_ n1_ n2_ n3_; clear hb hbox hg; have hcz23_0 : w22.cell? ⟨gb308, 0, none⟩ = some (.int .i64 0) := (blk_cell BK308.out 0).trans rfl; have hcz23_1 : w22.cell? ⟨gb308, 1, none⟩ = some (.int .i64 0) := (blk_cell BK308.out 1).trans rfl; have hcz23_2 : w22.cell? ⟨gb308, 2, none⟩ = some (.string (⟨#[]⟩ : ByteArray)) := (blk_cell BK308.out 2).trans rfl; have hfz23_0 := blk_frozen BK308.out 0; have hfz23_1 := blk_frozen BK308.out 1; have hfz23_2 := blk_frozen BK308.out 2))
           have n0_ : Aside0 ((((w22.setCell ⟨gb308, 0, none⟩ (.int .i64 ((rd_T25 l0 x7_1).f0))).setCell ⟨gb308, 1, none⟩ (.int .i64 ((rd_T25 l0 x7_1).f1))).setCell ⟨gb308, 2, none⟩ (.string ((rd_T25 l0 x7_1).f2))).heap[gb308]? = some (.cells #[.int .i64 ((rd_T25 l0 x7_1).f0), .int .i64 ((rd_T25 l0 x7_1).f1), .string ((rd_T25 l0 x7_1).f2)] 25 (0, 0))) := ⟨by refine bk ?_; refine blk_put (cs := #[.int .i64 ((rd_T25 l0 x7_1).f0), .int .i64 ((rd_T25 l0 x7_1).f1), .string (⟨#[]⟩ : ByteArray)]) ?_ 2 _ rfl; refine bk ?_; refine blk_put (cs := #[.int .i64 ((rd_T25 l0 x7_1).f0), .int .i64 0, .string (⟨#[]⟩ : ByteArray)]) ?_ 1 _ rfl; refine bk ?_; refine blk_put (cs := #[.int .i64 0, .int .i64 0, .string (⟨#[]⟩ : ByteArray)]) ?_ 0 _ rfl; refine bk ?_; exact BK308.out⟩
           have n1_ : Aside0 (Below w.heap.size w (((w22.setCell ⟨gb308, 0, none⟩ (.int .i64 ((rd_T25 l0 x7_1).f0))).setCell ⟨gb308, 1, none⟩ (.int .i64 ((rd_T25 l0 x7_1).f1))).setCell ⟨gb308, 2, none⟩ (.string ((rd_T25 l0 x7_1).f2)))) := ⟨bl⟩
           (try clear BK308)
           (try clear HB)
           generalize (((w22.setCell ⟨gb308, 0, none⟩ (.int .i64 ((rd_T25 l0 x7_1).f0))).setCell ⟨gb308, 1, none⟩ (.int .i64 ((rd_T25 l0 x7_1).f1))).setCell ⟨gb308, 2, none⟩ (.string ((rd_T25 l0 x7_1).f2))) = w24 at n0_ n1_ ⊢
           have BK308 := n0_
           have HB := n1_
           clear n0_ n1_
           have n0_ := am (blk_drew BK308.out)
           have n1_ := am (below_drew1 HB.out)
           clear BK308
           clear HB
           have BK308 := n0_
           have HB := n1_
           clear n0_ n1_
           have p310 : 0 ≤ ((ji13) : Int) := of_decide_eq_true as0
           have q310 : (ji13) < (l0.length : Int) := of_decide_eq_true as0
           obtain ⟨ad310, e310, hx310_0, hx310_1, hx310_2⟩ := at_T25 HR0.out (ji13) p310 q310
           have hw310_2 := hx310_2
           have hw310_1 := hx310_1
           have hw310_0 := hx310_0
           obtain rfl : ad307 = ad310 := (by injection e310)
           replace hx310_0 := (HB.out.cell (World.block_lt_of_cell? w _ hx310_0)).trans hx310_0
           replace hx310_1 := (HB.out.cell (World.block_lt_of_cell? w _ hx310_1)).trans hx310_1
           replace hx310_2 := (HB.out.cell (World.block_lt_of_cell? w _ hx310_2)).trans hx310_2
           replace p310 := eq_true p310
           replace q310 := eq_true q310
           refine start_ (n := 17) (S := fun w' => w'.cell? ⟨gb308, 0, none⟩ = some (.int .i64 ((rd_T25 l0 x7_1).f0)) ∧ w'.cell? ⟨gb308, 1, none⟩ = some (.int .i64 ((rd_T25 l0 x7_1).f1)) ∧ w'.cell? ⟨gb308, 2, none⟩ = some (.string ((rd_T25 l0 x7_1).f2)) ∧ w'.cell? (ad307.add (((ji13)).toNat * 3)) = some (.int .i64 ((rd_T25 l0 (ji13)).f0)) ∧ w'.cell? ⟨(ad307.add (((ji13)).toNat * 3)).block, (ad307.add (((ji13)).toNat * 3)).off + 1, none⟩ = some (.int .i64 ((rd_T25 l0 (ji13)).f1)) ∧ w'.cell? ⟨(ad307.add (((ji13)).toNat * 3)).block, (ad307.add (((ji13)).toNat * 3)).off + 2, none⟩ = some (.string ((rd_T25 l0 (ji13)).f2))) (ds := []) #[false, false, false, false, false, false, false, false, false, false, false, false, false, false, false, false, false] (by kernel_rfl) rfl rfl ⟨(blk_cell BK308.out 0).trans rfl, (blk_cell BK308.out 1).trans rfl, (blk_cell BK308.out 2).trans rfl, ((HB.out.cell (World.block_lt_of_cell? w _ hw310_0)).trans hw310_0), ((HB.out.cell (World.block_lt_of_cell? w _ hw310_1)).trans hw310_1), ((HB.out.cell (World.block_lt_of_cell? w _ hw310_2)).trans hw310_2)⟩ (fun hHeld => ?_); refine with_tabW normal_Is.tab4 normal_Is.bits4 (fun HT_ HW_ => ?_)
           generalize w24.drew = w25 at BK308 HB hx310_0 hx310_1 hx310_2 hHeld ⊢
           refine take_ (i := 0) (N := some 12) (v := ?_) (a' := ?_) #[true, false, false, false, false, false, false, false, false, false, false, false, false, false, false, false, false] rfl rfl (take_ofW HT_.out HW_.out (by kernel_rfl)) (fun _ _ _ h => h) (Or.inl ⟨by rfl, ?_⟩) hHeld ?_ ?_
           rotate_left
           ·rintro w' ⟨s0, s1, s2, s3, s4, s5⟩
            go_simp
            with_reducible rfl
           rotate_left
           ·exact ap
           refine one_ (i := 1) (N := some 13) #[true, true, false, false, false, false, false, false, false, false, false, false, false, false, false, false, false] rfl rfl (one_of HT_.out (by kernel_rfl)) (by decide) (fun K hK => ?_)
           refine goes_ Tryd.func74 (by kernel_rfl) rfl #[.agg #[.int .i64 ((rd_T25 l0 x7_1).f0), .int .i64 ((rd_T25 l0 x7_1).f1), .string ((rd_T25 l0 x7_1).f2)]] (by rfl) rfl rfl ar ?_
           with_reducible refine (normal_empty.calls ((rd_T25 l0 x7_1).f0) ((rd_T25 l0 x7_1).f1) ((rd_T25 l0 x7_1).f2) false _ A5.out).mono ?_
           rintro e w26 ⟨rfl, hb⟩
           refine ⟨_, rfl, ?_⟩
           have n0_ := am (blk_below (g := gb308) (o := .cells #[.int .i64 ((rd_T25 l0 x7_1).f0), .int .i64 ((rd_T25 l0 x7_1).f1), .string ((rd_T25 l0 x7_1).f2)] 25 (0, 0)) (by refine bk ?_; exact BK308.out) hb)
           have n1_ := am (below_step bl hb)
           clear BK308
           clear HB
           have BK308 := n0_
           have HB := n1_
           clear n0_ n1_
           (try clear hb)
           (try clear hb2)
           (try clear hk)
           (try clear hi)
           refine hK.out _ _ ⟨(blk_cell BK308.out 0).trans rfl, (blk_cell BK308.out 1).trans rfl, (blk_cell BK308.out 2).trans rfl, ((HB.out.cell (World.block_lt_of_cell? w _ hw310_0)).trans hw310_0), ((HB.out.cell (World.block_lt_of_cell? w _ hw310_1)).trans hw310_1), ((HB.out.cell (World.block_lt_of_cell? w _ hw310_2)).trans hw310_2)⟩ (fun hHeld => ?_)
           clear hK K
           refine norm_ (a' := ?_) ?_ ?_
           rotate_left
           ·show Act.put _ (some 13) _ = _
            simp only [Act.put, List.setIfInBounds_toArray, List.set_cons_zero, List.set_cons_succ, i64_w, i32_w]
            rfl
           refine pure_ (i := 2) (N := some 14) #[true, true, true, false, false, false, false, false, false, false, false, false, false, false, false, false, false] rfl rfl (aT HT_.out) (fun _ _ _ h => h) (Or.inl ⟨rfl, rn⟩) ap ?_
           refine pure_ (i := 3) (N := some 15) #[true, true, true, true, false, false, false, false, false, false, false, false, false, false, false, false, false] rfl rfl (aT HT_.out) (fun _ _ _ h => h) (Or.inl ⟨rfl, rn⟩) ap ?_
           refine pure_ (i := 4) (N := some 16) #[true, true, true, true, true, false, false, false, false, false, false, false, false, false, false, false, false] rfl rfl (aT HT_.out) (fun _ _ _ h => h) (Or.inl ⟨rfl, rn⟩) ap ?_
           refine pure_ (i := 5) (N := some 17) #[true, true, true, true, true, true, false, false, false, false, false, false, false, false, false, false, false] rfl rfl (aT HT_.out) (fun _ _ _ h => h) (Or.inl ⟨rfl, rn⟩) ap ?_
           refine pure_ (i := 6) (N := some 18) #[true, true, true, true, true, true, true, false, false, false, false, false, false, false, false, false, false] rfl rfl (aT HT_.out) (fun _ _ _ h => h) (Or.inl ⟨rfl, rn⟩) ap ?_
           refine pure_ (i := 8) (N := some 20) #[true, true, true, true, true, true, true, false, true, false, false, false, false, false, false, false, false] rfl rfl (aT HT_.out) (fun _ _ _ h => h) (Or.inl ⟨rfl, rn⟩) ap ?_
           refine pure_ (i := 9) (N := some 21) #[true, true, true, true, true, true, true, false, true, true, false, false, false, false, false, false, false] rfl rfl (aT HT_.out) (fun _ _ _ h => h) (Or.inl ⟨rfl, rn⟩) ap ?_
           refine pure_ (i := 10) (N := some 22) #[true, true, true, true, true, true, true, false, true, true, true, false, false, false, false, false, false] rfl rfl (aT HT_.out) (fun _ _ _ h => h) (Or.inl ⟨rfl, rn⟩) ap ?_
           refine pure_ (i := 11) (N := some 23) #[true, true, true, true, true, true, true, false, true, true, true, true, false, false, false, false, false] rfl rfl (aT HT_.out) (fun _ _ _ h => h) (Or.inl ⟨rfl, rn⟩) ap ?_
           refine pure_ (i := 12) (N := some 24) #[true, true, true, true, true, true, true, false, true, true, true, true, true, false, false, false, false] rfl rfl (aT HT_.out) (fun _ _ _ h => h) (Or.inl ⟨rfl, rn⟩) ap ?_
           refine take_ (i := 7) (N := some 19) (v := ?_) (a' := ?_) #[true, true, true, true, true, true, true, true, true, true, true, true, true, false, false, false, false] rfl rfl (take_ofW HT_.out HW_.out (by kernel_rfl)) (fun _ _ _ h => h) (Or.inl ⟨by rfl, ?_⟩) hHeld ?_ ?_
           rotate_left
           ·rintro w' ⟨s0, s1, s2, s3, s4, s5⟩
            go_simp
            with_reducible rfl
           rotate_left
           ·exact ap
           refine take_ (i := 13) (N := some 25) (v := ?_) (a' := ?_) #[true, true, true, true, true, true, true, true, true, true, true, true, true, true, false, false, false] rfl rfl (take_ofW HT_.out HW_.out (by kernel_rfl)) (fun _ _ _ h => h) (Or.inl ⟨by rfl, ?_⟩) hHeld ?_ ?_
           rotate_left
           ·rintro w' ⟨s0, s1, s2, s3, s4, s5⟩
            go_simp
            with_reducible rfl
           rotate_left
           ·exact ap
           refine pure_ (i := 14) (N := some 26) #[true, true, true, true, true, true, true, true, true, true, true, true, true, true, true, false, false] rfl rfl (aT HT_.out) (fun _ _ _ h => h) (Or.inl ⟨rfl, rn⟩) ap ?_
           refine pure_ (i := 15) (N := some 27) #[true, true, true, true, true, true, true, true, true, true, true, true, true, true, true, true, false] rfl rfl (aT HT_.out) (fun _ _ _ h => h) (Or.inl ⟨rfl, rn⟩) ap ?_
           refine pure_ (i := 16) (N := some 28) #[true, true, true, true, true, true, true, true, true, true, true, true, true, true, true, true, true] rfl rfl (aT HT_.out) (fun _ _ _ h => h) (Or.inl ⟨rfl, rn⟩) ap ?_
           refine done_ (done_of HT_.out (by kernel_rfl)) ?_
           try go_wp2
           go_roundg k1
           case measure => have := HK1.out; omega
           case rel => exact ⟨(wrap64 (x7_1 + 1)), pj, H', ⟨by have := HK1.out; omega⟩, ⟨bl⟩⟩
         ·rw [if_neg c15] at H
          exact absurd H (by simp)
        ·rw [if_neg c14] at H
         exact absurd H (by simp)
       ·rw [if_neg c12] at H
        have c12b0 : decide (0 < x7_1) = false := decide_eq_false c12
        clear c12
        have H' := am H
        clear H
        have p307 : 0 ≤ (x7_1 : Int) := of_decide_eq_true as0
        have q307 : x7_1 < (l0.length : Int) := of_decide_eq_true as0
        obtain ⟨ad307, e307, hx307_0, hx307_1, hx307_2⟩ := at_T25 HR0.out x7_1 p307 q307
        cases e307
        replace hx307_0 := (HB.out.cell (World.block_lt_of_cell? w _ hx307_0)).trans hx307_0
        replace hx307_1 := (HB.out.cell (World.block_lt_of_cell? w _ hx307_1)).trans hx307_1
        replace hx307_2 := (HB.out.cell (World.block_lt_of_cell? w _ hx307_2)).trans hx307_2
        replace p307 := eq_true p307
        replace q307 := eq_true q307
        try go_wp2_with (first | ((with_reducible refine gate_dst (N := 4) rfl ?_); refine box_event ?hg (N := 4) ?hd (cs := #[.int .i64 0, .int .i64 0, .string (⟨#[]⟩ : ByteArray)]) (t := 25) ?hr ?_; (case hd => rfl); (case hg => rfl); (case hr => first | (go_simp; done) | (go_simp; rfl)); intro gb308 hg w27 hbox hb; have n0_ := am (below_step bl hb); have n1_ := am (hbox); have n2_ := am ((gs : w.heap.size ≤ gb308)); have n3_ := am ((gs : w.heap.size ≤ gb308)); clear HB; have HB := n0_; have BK308 := n1_; have GW308 := n2_; have GE308 := n3_; clear n0_ n1_ n2_ n3_; clear hb hbox hg; have hcz28_0 : w27.cell? ⟨gb308, 0, none⟩ = some (.int .i64 0) := (blk_cell BK308.out 0).trans rfl; have hcz28_1 : w27.cell? ⟨gb308, 1, none⟩ = some (.int .i64 0) := (blk_cell BK308.out 1).trans rfl; have hcz28_2 : w27.cell? ⟨gb308, 2, none⟩ = some (.string (⟨#[]⟩ : ByteArray)) := (blk_cell BK308.out 2).trans rfl; have hfz28_0 := blk_frozen BK308.out 0; have hfz28_1 := blk_frozen BK308.out 1; have hfz28_2 := blk_frozen BK308.out 2))
        have n0_ : Aside0 ((((w27.setCell ⟨gb308, 0, none⟩ (.int .i64 ((rd_T25 l0 x7_1).f0))).setCell ⟨gb308, 1, none⟩ (.int .i64 ((rd_T25 l0 x7_1).f1))).setCell ⟨gb308, 2, none⟩ (.string ((rd_T25 l0 x7_1).f2))).heap[gb308]? = some (.cells #[.int .i64 ((rd_T25 l0 x7_1).f0), .int .i64 ((rd_T25 l0 x7_1).f1), .string ((rd_T25 l0 x7_1).f2)] 25 (0, 0))) := ⟨by refine bk ?_; refine blk_put (cs := #[.int .i64 ((rd_T25 l0 x7_1).f0), .int .i64 ((rd_T25 l0 x7_1).f1), .string (⟨#[]⟩ : ByteArray)]) ?_ 2 _ rfl; refine bk ?_; refine blk_put (cs := #[.int .i64 ((rd_T25 l0 x7_1).f0), .int .i64 0, .string (⟨#[]⟩ : ByteArray)]) ?_ 1 _ rfl; refine bk ?_; refine blk_put (cs := #[.int .i64 0, .int .i64 0, .string (⟨#[]⟩ : ByteArray)]) ?_ 0 _ rfl; refine bk ?_; exact BK308.out⟩
        have n1_ : Aside0 (Below w.heap.size w (((w27.setCell ⟨gb308, 0, none⟩ (.int .i64 ((rd_T25 l0 x7_1).f0))).setCell ⟨gb308, 1, none⟩ (.int .i64 ((rd_T25 l0 x7_1).f1))).setCell ⟨gb308, 2, none⟩ (.string ((rd_T25 l0 x7_1).f2)))) := ⟨bl⟩
        (try clear BK308)
        (try clear HB)
        generalize (((w27.setCell ⟨gb308, 0, none⟩ (.int .i64 ((rd_T25 l0 x7_1).f0))).setCell ⟨gb308, 1, none⟩ (.int .i64 ((rd_T25 l0 x7_1).f1))).setCell ⟨gb308, 2, none⟩ (.string ((rd_T25 l0 x7_1).f2))) = w29 at n0_ n1_ ⊢
        have BK308 := n0_
        have HB := n1_
        clear n0_ n1_
        have n0_ := am (blk_drew BK308.out)
        have n1_ := am (below_drew1 HB.out)
        clear BK308
        clear HB
        have BK308 := n0_
        have HB := n1_
        clear n0_ n1_
        refine start_ (n := 17) (S := fun w' => w'.cell? ⟨gb308, 0, none⟩ = some (.int .i64 ((rd_T25 l0 x7_1).f0)) ∧ w'.cell? ⟨gb308, 1, none⟩ = some (.int .i64 ((rd_T25 l0 x7_1).f1)) ∧ w'.cell? ⟨gb308, 2, none⟩ = some (.string ((rd_T25 l0 x7_1).f2))) (ds := []) #[false, false, false, false, false, false, false, false, false, false, false, false, false, false, false, false, false] (by kernel_rfl) rfl rfl ⟨(blk_cell BK308.out 0).trans rfl, (blk_cell BK308.out 1).trans rfl, (blk_cell BK308.out 2).trans rfl⟩ (fun hHeld => ?_); refine with_tabW normal_Is.tab4 normal_Is.bits4 (fun HT_ HW_ => ?_)
        generalize w29.drew = w30 at BK308 HB hHeld ⊢
        refine take_ (i := 0) (N := some 12) (v := ?_) (a' := ?_) #[true, false, false, false, false, false, false, false, false, false, false, false, false, false, false, false, false] rfl rfl (take_ofW HT_.out HW_.out (by kernel_rfl)) (fun _ _ _ h => h) (Or.inl ⟨by rfl, ?_⟩) hHeld ?_ ?_
        rotate_left
        ·rintro w' ⟨s0, s1, s2⟩
         go_simp
         with_reducible rfl
        rotate_left
        ·exact ap
        refine one_ (i := 1) (N := some 13) #[true, true, false, false, false, false, false, false, false, false, false, false, false, false, false, false, false] rfl rfl (one_of HT_.out (by kernel_rfl)) (by decide) (fun K hK => ?_)
        refine goes_ Tryd.func74 (by kernel_rfl) rfl #[.agg #[.int .i64 ((rd_T25 l0 x7_1).f0), .int .i64 ((rd_T25 l0 x7_1).f1), .string ((rd_T25 l0 x7_1).f2)]] (by rfl) rfl rfl ar ?_
        with_reducible refine (normal_empty.calls ((rd_T25 l0 x7_1).f0) ((rd_T25 l0 x7_1).f1) ((rd_T25 l0 x7_1).f2) false _ A5.out).mono ?_
        rintro e w31 ⟨rfl, hb⟩
        refine ⟨_, rfl, ?_⟩
        have n0_ := am (blk_below (g := gb308) (o := .cells #[.int .i64 ((rd_T25 l0 x7_1).f0), .int .i64 ((rd_T25 l0 x7_1).f1), .string ((rd_T25 l0 x7_1).f2)] 25 (0, 0)) (by refine bk ?_; exact BK308.out) hb)
        have n1_ := am (below_step bl hb)
        clear BK308
        clear HB
        have BK308 := n0_
        have HB := n1_
        clear n0_ n1_
        (try clear hb)
        (try clear hb2)
        (try clear hk)
        (try clear hi)
        refine hK.out _ _ ⟨(blk_cell BK308.out 0).trans rfl, (blk_cell BK308.out 1).trans rfl, (blk_cell BK308.out 2).trans rfl⟩ (fun hHeld => ?_)
        clear hK K
        refine norm_ (a' := ?_) ?_ ?_
        rotate_left
        ·show Act.put _ (some 13) _ = _
         simp only [Act.put, List.setIfInBounds_toArray, List.set_cons_zero, List.set_cons_succ, i64_w, i32_w]
         rfl
        refine pure_ (i := 2) (N := some 14) #[true, true, true, false, false, false, false, false, false, false, false, false, false, false, false, false, false] rfl rfl (aT HT_.out) (fun _ _ _ h => h) (Or.inl ⟨rfl, rn⟩) ap ?_
        refine pure_ (i := 3) (N := some 15) #[true, true, true, true, false, false, false, false, false, false, false, false, false, false, false, false, false] rfl rfl (aT HT_.out) (fun _ _ _ h => h) (Or.inl ⟨rfl, rn⟩) ap ?_
        refine pure_ (i := 4) (N := some 16) #[true, true, true, true, true, false, false, false, false, false, false, false, false, false, false, false, false] rfl rfl (aT HT_.out) (fun _ _ _ h => h) (Or.inl ⟨rfl, rn⟩) ap ?_
        refine pure_ (i := 5) (N := some 17) #[true, true, true, true, true, true, false, false, false, false, false, false, false, false, false, false, false] rfl rfl (aT HT_.out) (fun _ _ _ h => h) (Or.inl ⟨rfl, rn⟩) ap ?_
        refine pure_ (i := 6) (N := some 18) (v := undef) (a' := ?_) #[true, true, true, true, true, true, true, false, false, false, false, false, false, false, false, false, false] rfl rfl (aT HT_.out) (fun _ _ _ h => h) (Or.inr ⟨by rfl, rfl⟩) ?_ ?_
        rotate_left
        ·exact ap
        refine pure_ (i := 7) (N := some 19) (v := undef) (a' := ?_) #[true, true, true, true, true, true, true, true, false, false, false, false, false, false, false, false, false] rfl rfl (aT HT_.out) (fun _ _ _ h => h) (Or.inr ⟨by rfl, rfl⟩) ?_ ?_
        rotate_left
        ·exact ap
        refine pure_ (i := 8) (N := some 20) (v := undef) (a' := ?_) #[true, true, true, true, true, true, true, true, true, false, false, false, false, false, false, false, false] rfl rfl (aT HT_.out) (fun _ _ _ h => h) (Or.inr ⟨by rfl, rfl⟩) ?_ ?_
        rotate_left
        ·exact ap
        refine pure_ (i := 9) (N := some 21) (v := undef) (a' := ?_) #[true, true, true, true, true, true, true, true, true, true, false, false, false, false, false, false, false] rfl rfl (aT HT_.out) (fun _ _ _ h => h) (Or.inr ⟨by rfl, rfl⟩) ?_ ?_
        rotate_left
        ·exact ap
        refine pure_ (i := 10) (N := some 22) (v := undef) (a' := ?_) #[true, true, true, true, true, true, true, true, true, true, true, false, false, false, false, false, false] rfl rfl (aT HT_.out) (fun _ _ _ h => h) (Or.inr ⟨by rfl, rfl⟩) ?_ ?_
        rotate_left
        ·exact ap
        refine pure_ (i := 11) (N := some 23) (v := undef) (a' := ?_) #[true, true, true, true, true, true, true, true, true, true, true, true, false, false, false, false, false] rfl rfl (aT HT_.out) (fun _ _ _ h => h) (Or.inr ⟨by rfl, rfl⟩) ?_ ?_
        rotate_left
        ·exact ap
        refine pure_ (i := 12) (N := some 24) (v := undef) (a' := ?_) #[true, true, true, true, true, true, true, true, true, true, true, true, true, false, false, false, false] rfl rfl (aT HT_.out) (fun _ _ _ h => h) (Or.inr ⟨by rfl, rfl⟩) ?_ ?_
        rotate_left
        ·exact ap
        refine pure_ (i := 13) (N := some 25) (v := undef) (a' := ?_) #[true, true, true, true, true, true, true, true, true, true, true, true, true, true, false, false, false] rfl rfl (aT HT_.out) (fun _ _ _ h => h) (Or.inr ⟨by rfl, rfl⟩) ?_ ?_
        rotate_left
        ·exact ap
        refine pure_ (i := 14) (N := some 26) (v := undef) (a' := ?_) #[true, true, true, true, true, true, true, true, true, true, true, true, true, true, true, false, false] rfl rfl (aT HT_.out) (fun _ _ _ h => h) (Or.inr ⟨by rfl, rfl⟩) ?_ ?_
        rotate_left
        ·exact ap
        refine pure_ (i := 15) (N := some 27) #[true, true, true, true, true, true, true, true, true, true, true, true, true, true, true, true, false] rfl rfl (aT HT_.out) (fun _ _ _ h => h) (Or.inl ⟨rfl, rn⟩) ap ?_
        refine pure_ (i := 16) (N := some 28) #[true, true, true, true, true, true, true, true, true, true, true, true, true, true, true, true, true] rfl rfl (aT HT_.out) (fun _ _ _ h => h) (Or.inl ⟨rfl, rn⟩) ap ?_
        refine done_ (done_of HT_.out (by kernel_rfl)) ?_
        try go_wp2
        go_roundg k1
        case measure => have := HK1.out; omega
        case rel => exact ⟨(wrap64 (x7_1 + 1)), pj, H', ⟨by have := HK1.out; omega⟩, ⟨bl⟩⟩
     ·rw [if_neg c4] at H
      exact absurd H (by simp)
    ·rw [if_neg c3] at H
     exact absurd H (by simp)
   ·rw [if_neg c2] at H
    have c2b0 : decide (x7_1 < (l0.length : Int)) = false := decide_eq_false c2
    clear c2
    obtain rfl := Option.some.inj H
    simp only [Option.some.injEq, Prod.mk.injEq] at H
    obtain ⟨rfl⟩ := H
    go_wp2
    go_ret
    exact ⟨by first | rfl | (simp [errW_none, errW_some] <;> rfl) | (simp [*, errW_none, errW_some] <;> rfl), bl⟩
end Go.Proofs.YtegjegihcebimaaDoor.P
end
