-- WRITTEN BY A PROGRAM OF THIS SESSION (wip/pp in its repo), made after the kit's print
import Derived.Test.YtolljobehfmffaaDoorPx0
namespace Go.Proofs.YtolljobehfmffaaDoor.P
open Go.RowKit Go.Proofs.YtolljobehfmffaaDoorW.PrintWords Go.Proofs.YtolljobehfmffaaDoorW.PrintLast Go.Proofs.YtolljobehfmffaaDoorW.PrintMore
attribute [local go_sem] max2_int min2_int max_two min_two max_three min_three max_four min_four   -- for this text's walks alone
set_option linter.unusedVariables false
set_option linter.unusedSimpArgs false

/-! ### number_Put: function 50 -/
def number_Put.l : Nat → Int → List Int → List Int
  | 0, n, out => out ++ [n % 256]
  | k + 1, n, out => if n ≥ 128 then number_Put.l k (n / 128) (out ++ [(Go.bits .or .i64 n 128) % 256]) else out ++ [n % 256]
def number_Put.f (a0 : Int) : Option (List Int × Int) := if a0 < 0 then some ([], 2) else if a0 > 268435455 then some ([], 2) else some (number_Put.l 3 a0 [], 0)

theorem number_Put.part (k : Nat) (m : Int) (h0 : 0 ≤ m) (h1 : m < 128 ^ (k + 1)) (h : 128 ≤ m) : ∃ j, k = j + 1 ∧ m / 128 < 128 ^ (j + 1) := by
  cases k with
  | zero => simp at h1; omega
  | succ j =>
    refine ⟨j, rfl, ?_⟩
    rw [Int.pow_succ] at h1
    omega
def number_Put.J (w : World) (r1 : List Int) (k : Nat) (m : Int) (xs : List Int) (w' : World) (v : Value) : Prop :=
  0 ≤ m ∧ m < 128 ^ (k + 1) ∧ number_Put.l k m xs = r1 ∧ xs.length + k = 3 ∧ Kd.R (Kd.int .u8) 5 w' w.heap.size (fun _ => True) v xs ∧ Below w.heap.size w w'
def number_Put.m (a : Act) : Nat := match a.tmps.getD 0 undef with | .int _ n => n.toNat | _ => 0

set_option maxHeartbeats 8000000 in
set_option maxRecDepth 100000 in
theorem number_Put.calls (a0 : Int) (r1 : List Int) (r2 : Int) (w : World) (h : number_Put.f a0 = some (r1, r2)) :
    Calls Tryd.prog 50 #[.int .i64 a0] w fun e w' => ∃ v0_ : Value, e = .returned (.tuple #[v0_, .int .i64 r2]) ∧ Kd.R (Kd.int .u8) 5 w' w.heap.size (fun _ => True) v0_ r1 ∧ Below w.heap.size w w' := by
  have HB := Aside0.mk (Below.refl w.heap.size w)
  unfold number_Put.f at h
  have H := Aside0.mk h
  clear h
  by_cases c1 : a0 < 0
  · have c1b : decide (a0 < 0) = true := decide_eq_true c1
    have H := H.out
    rw [if_pos c1] at H
    simp only [Option.some.injEq, Prod.mk.injEq] at H
    obtain ⟨rfl, rfl⟩ := H
    go_enter Tryd.func50, Tryd.ntmps50
    go_wp2
    go_step3
    go_wp2
    rw [Exit.noGoto_ret]
    go_ret2
    exact ⟨_, rfl, Kd.R_nil _ _ _ _ _, Below.refl _ _⟩
  · have c1b : decide (a0 < 0) = false := decide_eq_false c1
    by_cases c2 : a0 > 268435455
    · have c2b : decide (268435455 < a0) = true := decide_eq_true c2
      have H := H.out
      rw [if_neg c1, if_pos c2] at H
      simp only [Option.some.injEq, Prod.mk.injEq] at H
      obtain ⟨rfl, rfl⟩ := H
      go_enter Tryd.func50, Tryd.ntmps50
      go_wp2
      go_step3
      go_wp2
      rw [Exit.noGoto_ret]
      go_ret2
      exact ⟨_, rfl, Kd.R_nil _ _ _ _ _, Below.refl _ _⟩
    · have c2b : decide (268435455 < a0) = false := decide_eq_false c2
      have H := H.out
      rw [if_neg c1, if_neg c2] at H
      simp only [Option.some.injEq, Prod.mk.injEq] at H
      obtain ⟨H1, rfl⟩ := H
      have H := Aside0.mk H1
      clear H1
      have HJ := Aside0.mk (show number_Put.J w r1 3 a0 [] w (.slice none 0 0) from ⟨by omega, by omega, H.out, rfl, Kd.R_nil _ _ _ _ _, Below.refl _ _⟩)
      clear H
      go_enter Tryd.func50, Tryd.ntmps50
      go_wp2
      refine wp_scope_jumps 0 (fun a' w' => ∃ (k : Nat) (m : Int) (xs : List Int) (v4 u5 u6 u7 u8 u9 u10 u11 u12 u13 u14 u15 u16 u17 u18 u19 u20 u21 u22 u23 u24 u25 : Value), a' = { tmps := #[.int .i64 m, undef, .slice none 0 0, .int .i64 0, v4, u5, u6, u7, u8, u9, u10, u11, u12, u13, u14, u15, u16, u17, u18, u19, u20, u21, u22, u23, u24, u25], defers := [] } ∧ Aside0 (number_Put.J w r1 k m xs w' v4)) (fun a' _ => number_Put.m a') rfl ?_ ?_
      · go_wp2
        go_step3
        obtain ⟨j0, j1, j2, j3, j4, j5⟩ := HJ.out
        clear HJ
        have HB := Aside0.mk j5; have HO := Aside0.mk j4; have H2 := Aside0.mk j2; have HN := Aside0.mk j3
        have HL : Aside0 (([] : List Int).length < 100) := ⟨by have := HN.out; omega⟩
        clear j5 j4 j2 j3
        by_cases c : 128 ≤ a0
        · have cb : decide (128 ≤ a0) = true := decide_eq_true c
          obtain ⟨j, hk, hlt⟩ := number_Put.part 3 a0 j0 j1 c
          have HK := Aside0.mk hk; have HLT := Aside0.mk hlt; clear hk hlt
          have JN : Aside0 (number_Put.l j (a0 / 128) (([] : List Int) ++ [(Go.bits .or .i64 a0 128) % 256]) = r1) := ⟨by have h2 := H2.out; rw [HK.out, number_Put.l, if_pos c] at h2; exact h2⟩
          go_wp2_with (first | ((with_reducible refine gate_builtin (b := .append) (xs := #[.tmp 13, .tmp 17]) rfl ?_); at_builtin; refine Kd.R_append (Kd.int .u8) (w0 := w) w.heap.size rfl (.tmp 13) (.tmp 17) 32 5 (.int .u8 0) 1 rfl Tryd.underlying32 info5 rfl (by decide) (by omega) (.slice none 0 0) [] ((Go.bits .or .i64 a0 128) % 256) [.int .u8 ((Go.bits .or .i64 a0 128) % 256)] (fun _ => True) (fun _ => False) rfl rfl ?aP (fun _ hk => hk.elim) ?aF ?aO ?aB ?aS ?aL ?_; (case aP => exact rfl); (case aB => exact (by repeat (first | (with_reducible first | exact HB.out | apply below_alloc | apply pw_below_drewN | apply below_drew1) | exact HB.out))); (case aF => exact (fun _ _ => trivial)); (case aO => exact (by (with_reducible repeat (first | apply Kd.R_alloc | apply Kd.R_drewN | apply Kd.R_drew)); exact HO.out)); (case aS => exact (below_size (by repeat (first | (with_reducible first | exact HB.out | apply below_alloc | apply pw_below_drewN | apply below_drew1) | exact HB.out)))); (case aL => have := HL.out; omega); intro v100 w100 ho hb hg hat; have HB1 := Aside0.mk hb; have HO1 := Aside0.mk ho; clear ho hb hg hat))
          go_step3
          have HJ2 := Aside0.mk (show number_Put.J w r1 j (a0 / 128) (([] : List Int) ++ [(Go.bits .or .i64 a0 128) % 256]) w100 v100 from ⟨by omega, HLT.out, JN.out, by have := HN.out; have := HK.out; simp only [List.length_append, List.length_cons, List.length_nil] at *; omega, HO1.out, HB1.out⟩)
          refine ⟨rfl, j, _, _, _, _, _, _, _, _, _, _, _, _, _, _, _, _, _, _, _, _, _, _, _, _, rfl, HJ2⟩
        · have cb : decide (128 ≤ a0) = false := decide_eq_false c
          have JN : Aside0 (([] : List Int) ++ [a0] = r1) := ⟨by rw [show (([] : List Int) ++ [a0]) = ([] ++ [a0 % 256]) from by rw [show a0 % 256 = a0 from by omega]]; have h2 := H2.out; cases hk : (3 : Nat) with | zero => (rw [hk] at h2; exact h2) | succ _ => (rw [hk, number_Put.l, if_neg c] at h2; exact h2)⟩
          go_wp2_with (first | ((with_reducible refine gate_builtin (b := .append) (xs := #[.tmp 21, .tmp 24]) rfl ?_); at_builtin; refine Kd.R_append (Kd.int .u8) (w0 := w) w.heap.size rfl (.tmp 21) (.tmp 24) 32 5 (.int .u8 0) 1 rfl Tryd.underlying32 info5 rfl (by decide) (by omega) (.slice none 0 0) [] (a0) [.int .u8 (a0)] (fun _ => True) (fun _ => False) rfl rfl ?aP (fun _ hk => hk.elim) ?aF ?aO ?aB ?aS ?aL ?_; (case aP => exact rfl); (case aB => exact (by repeat (first | (with_reducible first | exact HB.out | apply below_alloc | apply pw_below_drewN | apply below_drew1) | exact HB.out))); (case aF => exact (fun _ _ => trivial)); (case aO => exact (by (with_reducible repeat (first | apply Kd.R_alloc | apply Kd.R_drewN | apply Kd.R_drew)); exact HO.out)); (case aS => exact (below_size (by repeat (first | (with_reducible first | exact HB.out | apply below_alloc | apply pw_below_drewN | apply below_drew1) | exact HB.out)))); (case aL => have := HL.out; omega); intro v100 w100 ho hb hg hat; have HB1 := Aside0.mk hb; have HO1 := Aside0.mk ho; clear ho hb hg hat))
          try simp only [Exit.jump]
          go_ret2
          exact ⟨_, rfl, by rw [← JN.out]; exact HO1.out, HB1.out⟩
      · rintro a' w' ⟨k, m, xs, v4, u5, u6, u7, u8, u9, u10, u11, u12, u13, u14, u15, u16, u17, u18, u19, u20, u21, u22, u23, u24, u25, rfl, HJ⟩
        obtain ⟨j0, j1, j2, j3, j4, j5⟩ := HJ.out
        clear HJ
        have HB := Aside0.mk j5; have HO := Aside0.mk j4; have H2 := Aside0.mk j2; have HN := Aside0.mk j3
        have HL : Aside0 ((xs : List Int).length < 100) := ⟨by have := HN.out; omega⟩
        clear j5 j4 j2 j3
        by_cases c : 128 ≤ m
        · have cb : decide (128 ≤ m) = true := decide_eq_true c
          obtain ⟨j, hk, hlt⟩ := number_Put.part k m j0 j1 c
          have HK := Aside0.mk hk; have HLT := Aside0.mk hlt; clear hk hlt
          have JN : Aside0 (number_Put.l j (m / 128) ((xs : List Int) ++ [(Go.bits .or .i64 m 128) % 256]) = r1) := ⟨by have h2 := H2.out; rw [HK.out, number_Put.l, if_pos c] at h2; exact h2⟩
          go_wp2_with (first | ((with_reducible refine gate_builtin (b := .append) (xs := #[.tmp 13, .tmp 17]) rfl ?_); at_builtin; refine Kd.R_append (Kd.int .u8) (w0 := w) w.heap.size rfl (.tmp 13) (.tmp 17) 32 5 (.int .u8 0) 1 rfl Tryd.underlying32 info5 rfl (by decide) (by omega) v4 xs ((Go.bits .or .i64 m 128) % 256) [.int .u8 ((Go.bits .or .i64 m 128) % 256)] (fun _ => True) (fun _ => False) rfl rfl ?aP (fun _ hk => hk.elim) ?aF ?aO ?aB ?aS ?aL ?_; (case aP => exact rfl); (case aB => exact (by repeat (first | (with_reducible first | exact HB.out | apply below_alloc | apply pw_below_drewN | apply below_drew1) | exact HB.out))); (case aF => exact (fun _ _ => trivial)); (case aO => exact (by (with_reducible repeat (first | apply Kd.R_alloc | apply Kd.R_drewN | apply Kd.R_drew)); exact HO.out)); (case aS => exact (below_size (by repeat (first | (with_reducible first | exact HB.out | apply below_alloc | apply pw_below_drewN | apply below_drew1) | exact HB.out)))); (case aL => have := HL.out; omega); intro v100 w100 ho hb hg hat; have HB1 := Aside0.mk hb; have HO1 := Aside0.mk ho; clear ho hb hg hat))
          go_step3
          have HJ2 := Aside0.mk (show number_Put.J w r1 j (m / 128) ((xs : List Int) ++ [(Go.bits .or .i64 m 128) % 256]) w100 v100 from ⟨by omega, HLT.out, JN.out, by have := HN.out; have := HK.out; simp only [List.length_append, List.length_cons, List.length_nil] at *; omega, HO1.out, HB1.out⟩)
          refine ⟨rfl, ⟨j, _, _, _, _, _, _, _, _, _, _, _, _, _, _, _, _, _, _, _, _, _, _, _, _, rfl, HJ2⟩, by simp [number_Put.m]; omega⟩
        · have cb : decide (128 ≤ m) = false := decide_eq_false c
          have JN : Aside0 ((xs : List Int) ++ [m] = r1) := ⟨by rw [show ((xs : List Int) ++ [m]) = (xs ++ [m % 256]) from by rw [show m % 256 = m from by omega]]; have h2 := H2.out; cases hk : (k : Nat) with | zero => (rw [hk] at h2; exact h2) | succ _ => (rw [hk, number_Put.l, if_neg c] at h2; exact h2)⟩
          go_wp2_with (first | ((with_reducible refine gate_builtin (b := .append) (xs := #[.tmp 21, .tmp 24]) rfl ?_); at_builtin; refine Kd.R_append (Kd.int .u8) (w0 := w) w.heap.size rfl (.tmp 21) (.tmp 24) 32 5 (.int .u8 0) 1 rfl Tryd.underlying32 info5 rfl (by decide) (by omega) v4 xs (m) [.int .u8 (m)] (fun _ => True) (fun _ => False) rfl rfl ?aP (fun _ hk => hk.elim) ?aF ?aO ?aB ?aS ?aL ?_; (case aP => exact rfl); (case aB => exact (by repeat (first | (with_reducible first | exact HB.out | apply below_alloc | apply pw_below_drewN | apply below_drew1) | exact HB.out))); (case aF => exact (fun _ _ => trivial)); (case aO => exact (by (with_reducible repeat (first | apply Kd.R_alloc | apply Kd.R_drewN | apply Kd.R_drew)); exact HO.out)); (case aS => exact (below_size (by repeat (first | (with_reducible first | exact HB.out | apply below_alloc | apply pw_below_drewN | apply below_drew1) | exact HB.out)))); (case aL => have := HL.out; omega); intro v100 w100 ho hb hg hat; have HB1 := Aside0.mk hb; have HO1 := Aside0.mk ho; clear ho hb hg hat))
          try simp only [Exit.jump]
          go_ret2
          exact ⟨_, rfl, by rw [← JN.out]; exact HO1.out, HB1.out⟩

/-! ### snap_writer_number: function 42 -/
theorem number_Put.len_le : ∀ (k : Nat) (n : Int) (out : List Int), (number_Put.l k n out).length ≤ out.length + k + 1
  | 0, n, out => by simp [number_Put.l]
  | k + 1, n, out => by
    unfold number_Put.l
    split
    · have := number_Put.len_le k (n / 128) (out ++ [(Go.bits .or .i64 n 128) % 256])
      simp only [List.length_append, List.length_cons, List.length_nil] at this
      omega
    · rw [List.length_append, List.length_cons, List.length_nil]; omega
theorem number_Put.f_len {n : Int} {r1 : List Int} {r2 : Int} (h : number_Put.f n = some (r1, r2)) : r1.length ≤ 4 := by
  unfold number_Put.f at h
  split at h
  · cases h; simp
  · split at h
    · cases h; simp
    · cases h
      exact number_Put.len_le 3 n []
set_option maxHeartbeats 8000000 in
set_option maxRecDepth 100000 in
theorem snap_writer_number.calls (n : Int) (r1 : List Int) (r2 : Int) (xs : List Int) (base B : Nat) (v : Value) (w : World) (h : number_Put.f n = some (r1, r2)) (hr : r1.length ≤ 4)
    (hB : w.heap[B]? = some (.cells #[v] 64 (0, 0))) (hO : Kd.R (Kd.int .u8) 5 w base (fun _ => True) v xs) (hbase : base ≤ w.heap.size) (hBb : base ≤ B) (hl : xs.length ≤ 1000000) :
    Calls Tryd.prog 42 #[.pointer (some ⟨B, 0, none⟩), .int .i64 n] w fun e w' => e = .returned (.tuple #[]) ∧ ∃ v', w'.heap[B]? = some (.cells #[v'] 64 (0, 0)) ∧ Kd.R (Kd.int .u8) 5 w' base (fun _ => True) v' (xs ++ r1) ∧ Below base w w' := by
  obtain ⟨A0, c0, rfl⟩ := Kd.R_slice hO
  have H := Aside0.mk h; have HR := Aside0.mk hr; have HF := Aside0.mk hB; have HO := Aside0.mk hO; have HL := Aside0.mk hl; have HBB := Aside0.mk hBb; have HBS := Aside0.mk hbase
  clear h hr hB hO hl hBb hbase
  go_enter Tryd.func42, Tryd.ntmps42
  go_wp2_with (first | (go_at_call 50; go_loud ((with_reducible refine (number_Put.calls n r1 r2 _ H.out).mono ?_); rintro e w1 ⟨v1, rfl, ho, hb⟩; obtain ⟨A1, c1, rfl, hc1, hread⟩ := Kd.R_reads ho; have HO1 := Aside0.mk (Kd.R_elder' HO.out (Kd.R_base ho) hb); have HF1 := Aside0.mk (blk_below HF.out hb); have HN := Aside0.mk hread; have HB1 := Aside0.mk (hb.mono HBS.out); have HSZ := Aside0.mk hb.size; clear ho hb HO HF hread; have hcell : w1.cell? ⟨B, 0, none⟩ = some (.slice A0 xs.length c0) := (blk_cell HF1.out 0).trans rfl)) | ((with_reducible refine gate_builtin (b := .append) (xs := #[.tmp 15, .tmp 16]) rfl ?_); at_builtin; refine Kd.R_append_rows (Kd.int .u8) (w0 := w) base rfl (.tmp 15) (.tmp 16) 32 5 (.int .u8 0) 1 rfl Tryd.underlying32 info5 rfl (by decide) (by omega) (.slice A0 xs.length c0) xs r1 _ _ _ (fun k_ => True) (fun _ => False) rfl rfl ?aO ?aR (fun _ _ h => h) (fun _ h => h.elim) ?aF ?aB ?aS ?aL ?_; (case aR => exact HN.out); (case aB => exact HB1.out); (case aF => exact (fun _ _ => trivial)); (case aO => exact (Kd.R_mono HO1.out (fun _ _ => trivial))); (case aS => have := HSZ.out; have := HBS.out; omega); (case aL => have := HL.out; have := HR.out; omega); intro v2 w2 ho hb hg hat; obtain ⟨A2, c2, rfl⟩ := Kd.R_slice ho; have HF2 := Aside0.mk (blk_grown HF1.out hg (Kd.R_ne HO1.out HF1.out (by decide))); have HO2 := Aside0.mk ho; have HB2 := Aside0.mk hb; clear ho hb hg hat hcell HO1 HF1 HB1; have hcell : w2.cell? ⟨B, 0, none⟩ = some (.slice A0 xs.length c0) := (blk_cell HF2.out 0).trans rfl; have hfr : w2.frozen? ⟨B, 0, none⟩ = false := blk_frozen HF2.out 0))
  go_end0
  exact ⟨rfl, _, blk_put HF2.out 0 _ rfl, by have h_ := HO2.out; rw [List.length_append] at h_; exact Kd.R_set h_ HF2.out (by decide) 0 _, HB2.out.setCell HBB.out _⟩

/-! ### snap_PutRow: function 26 -/
def snap_PutRow.l : Int → List Int → List Int → List Int × Int
  | _, out, [] => (out, 0)
  | was, out, n :: l => if n ≤ was ∨ n > 268435455 then ([], 2) else snap_PutRow.l n (out ++ number_Put.l 3 (n - was - 1) []) l
def snap_PutRow.f (l0 : List Int) : Option (List Int × Int) := if l0.length = 0 ∨ l0.length > 65536 then some ([], 2) else some (snap_PutRow.l (-1) (number_Put.l 3 l0.length []) l0)
theorem snap_PutRow.next (l : List Int) (j : Nat) (h : j < l.length) : l.drop j = rd l (j : Int) :: l.drop (j + 1) := by
  rw [List.drop_eq_getElem_cons h]
  unfold rd
  rw [Int.toNat_natCast, List.getD_eq_getElem?_getD, List.getElem?_eq_getElem h]
  rfl
theorem snap_PutRow.less {n j : Nat} (h : j < n) (e : wrap64 ((j : Int) + 1) = ((j + 1 : Nat) : Int)) : n - (intOf (.int .i64 (wrap64 ((j : Int) + 1)))).toNat < n - (intOf (.int .i64 (j : Int))).toNat := by
  rw [e]
  show n - (((j + 1 : Nat) : Int)).toNat < n - ((j : Int)).toNat
  omega
/-- What holds at the loop's head, behind j numbers. -/
def snap_PutRow.J (w : World) (l0 r1 : List Int) (r2 : Int) (j : Nat) (was : Int) (wr : World) : Prop :=
  j ≤ l0.length ∧ -1 ≤ was ∧ was ≤ 268435455 ∧ ∃ (out : List Int) (v : Value), snap_PutRow.l was out (l0.drop j) = (r1, r2) ∧ wr.heap[w.heap.size]? = some (.cells #[v] 64 (0, 0)) ∧
    Kd.R (Kd.int .u8) 5 wr w.heap.size (fun _ => True) v out ∧ out.length ≤ 4 * (j + 1) ∧ Below w.heap.size w wr
set_option maxHeartbeats 8000000 in
set_option maxRecDepth 100000 in
theorem snap_PutRow.calls (A0 : Option Addr) (c0 : Nat) (l0 : List Int) (r1 : List Int) (r2 : Int) (w : World) (hr0 : Kd.C (Kd.int .i64) w A0 l0.length l0) (hc0 : l0.length ≤ c0) (h : snap_PutRow.f l0 = some (r1, r2)) :
    Calls Tryd.prog 26 #[.slice A0 l0.length c0] w fun e w' => ∃ v0_ : Value, e = .returned (.tuple #[v0_, .int .i64 r2]) ∧ Kd.R (Kd.int .u8) 5 w' w.heap.size (fun _ => True) v0_ r1 ∧ Below w.heap.size w w' := by
  unfold snap_PutRow.f at h
  by_cases c : l0.length = 0 ∨ l0.length > 65536
  · rw [if_pos c] at h
    simp only [Option.some.injEq, Prod.mk.injEq] at h
    obtain ⟨rfl, rfl⟩ := h
    by_cases c1 : l0.length = 0
    · have c2 : ((l0.length : Int) == 0) = true := beq_iff_eq.mpr (by omega)
      have c3 : decide (65536 < (l0.length : Int)) = false := decide_eq_false (by omega)
      have c4 : (l0.length == 0) = true := beq_iff_eq.mpr c1
      have c5 : decide (65536 < l0.length) = false := decide_eq_false (by omega)
      clear c c1
      go_enter Tryd.func26, Tryd.ntmps26
      go_wp2
      go_ret2
      exact ⟨_, rfl, Kd.R_nil _ _ _ _ _, Below.refl _ _⟩
    · have c2 : ((l0.length : Int) == 0) = false := beq_eq_false_iff_ne.mpr (by omega)
      have c3 : decide (65536 < (l0.length : Int)) = true := decide_eq_true (by omega)
      have c4 : (l0.length == 0) = false := beq_eq_false_iff_ne.mpr c1
      have c5 : decide (65536 < l0.length) = true := decide_eq_true (by omega)
      clear c c1
      go_enter Tryd.func26, Tryd.ntmps26
      go_wp2
      go_ret2
      exact ⟨_, rfl, Kd.R_nil _ _ _ _ _, Below.refl _ _⟩
  · rw [if_neg c] at h
    replace h := Option.some.inj h
    have c1 : ¬ l0.length = 0 := by omega
    have c2 : ((l0.length : Int) == 0) = false := beq_eq_false_iff_ne.mpr (by omega)
    have c3 : decide (65536 < (l0.length : Int)) = false := decide_eq_false (by omega)
    have c4 : (l0.length == 0) = false := beq_eq_false_iff_ne.mpr c1
    have c5 : decide (65536 < l0.length) = false := decide_eq_false (by omega)
    have HZ : Aside0 (l0.length ≤ 65536) := ⟨by omega⟩
    have H := Aside0.mk h
    have HR0 := Aside0.mk hr0; have HC0 := Aside0.mk hc0
    clear c c1 h hr0 hc0
    have HP : Aside0 (number_Put.f (l0.length : Int) = some (number_Put.l 3 (l0.length : Int) [], 0)) := ⟨by have := HZ.out; unfold number_Put.f; rw [if_neg (by omega), if_neg (by omega)]⟩
    have HL := Aside0.mk (number_Put.f_len HP.out)
    generalize number_Put.l 3 (l0.length : Int) [] = rl at *
    go_enter Tryd.func26, Tryd.ntmps26
    go_wp2_with (first | (go_at_call 42; (with_reducible refine (snap_writer_number.calls (l0.length : Int) rl 0 [] w.heap.size w.heap.size (.slice none 0 0) _ HP.out HL.out (heap_alloc_new w _) (Kd.R_nil _ _ _ _ _) (by simp) (Nat.le_refl _) (by simp)).mono ?_); rintro e w2 ⟨rfl, v2, hf, ho, hb⟩; have HB := Aside0.mk ((below_alloc (Below.refl w.heap.size w) _).trans hb); have HO := Aside0.mk ho; have HF := Aside0.mk hf; clear hb ho hf))
    go_loopw [6, 24] (fun v6 v24 wr => ∃ (j : Nat) (was : Int), v24 = .int .i64 j ∧ v6 = .int .i64 was ∧ Aside0 (snap_PutRow.J w l0 r1 r2 j was wr)) (fun _ v24 _ => l0.length - (intOf v24).toNat)
    case atStart => exact ⟨0, -1, rfl, rfl, ⟨⟨Nat.zero_le _, by omega, by omega, rl, v2, H.out, HF.out, HO.out, by have := HL.out; omega, HB.out⟩⟩⟩
    case round =>
      obtain ⟨j, was, rfl, rfl, HJ⟩ := hrel
      obtain ⟨j0, j1, j2, out, v, j3, j4, j5, j6, j7⟩ := HJ.out
      have HB := Aside0.mk j7; have HF := Aside0.mk j4; have HO := Aside0.mk j5; have H := Aside0.mk j3; have HN := Aside0.mk j6; have HW := Aside0.mk (And.intro j1 j2)
      have hcell : wr.cell? ⟨w.heap.size, 0, none⟩ = some v := (blk_cell HF.out 0).trans rfl
      clear j7 j4 j5 j3 j6 HJ
      by_cases hlt : j < l0.length
      · have H1 : Aside0 (snap_PutRow.l was out (rd l0 (j : Int) :: l0.drop (j + 1)) = (r1, r2)) := ⟨by rw [← snap_PutRow.next l0 j hlt]; exact H.out⟩
        have b0 : decide ((j : Int) < (l0.length : Int)) = true := decide_eq_true (by omega)
        have b1 : decide (j < l0.length) = true := decide_eq_true hlt
        have p0 : 0 ≤ (j : Int) := by omega
        have q0 : (j : Int) < (l0.length : Int) := by omega
        obtain ⟨ad, e0, hx⟩ := Kd.at_int HR0.out (j : Int) p0 q0
        cases e0
        rw [Int.toNat_natCast] at hx
        replace hx := (HB.out.cell (World.block_lt_of_cell? w _ hx)).trans hx
        replace p0 := eq_true p0
        replace q0 := eq_true q0
        clear H
        have HLT := Aside0.mk hlt
        generalize rd l0 (j : Int) = x at *
        by_cases g1 : x ≤ was
        · have g1b : decide (x ≤ was) = true := decide_eq_true g1
          have h1 := H1.out
          rw [snap_PutRow.l, if_pos (.inl g1)] at h1
          simp only [Prod.mk.injEq] at h1
          obtain ⟨rfl, rfl⟩ := h1
          clear g1 j1 j2 hlt
          go_wp2
          go_ret2
          exact ⟨_, rfl, Kd.R_nil _ _ _ _ _, HB.out⟩
        · have g1b : decide (x ≤ was) = false := decide_eq_false g1
          by_cases g2 : x > 268435455
          · have g2b : decide (268435455 < x) = true := decide_eq_true g2
            have h1 := H1.out
            rw [snap_PutRow.l, if_pos (.inr g2)] at h1
            simp only [Prod.mk.injEq] at h1
            obtain ⟨rfl, rfl⟩ := h1
            clear g1 g2 j1 j2 hlt
            go_wp2
            go_ret2
            exact ⟨_, rfl, Kd.R_nil _ _ _ _ _, HB.out⟩
          · have g2b : decide (268435455 < x) = false := decide_eq_false g2
            have h1 := H1.out
            rw [snap_PutRow.l, if_neg (by omega)] at h1
            have e1 : wrap64 (x - was) = x - was := by unfold wrap64; omega
            have e2 : wrap64 (x - was - 1) = x - was - 1 := by unfold wrap64; omega
            have HP2 : Aside0 (number_Put.f (x - was - 1) = some (number_Put.l 3 (x - was - 1) [], 0)) := ⟨by unfold number_Put.f; rw [if_neg (by omega), if_neg (by omega)]⟩
            have HL2 := Aside0.mk (number_Put.f_len HP2.out)
            have H2 := Aside0.mk h1
            generalize number_Put.l 3 (x - was - 1) [] = rn at *
            have HX : Aside0 (-1 ≤ x ∧ x ≤ 268435455) := ⟨by omega⟩
            have E3 : Aside0 (wrap64 ((j : Int) + 1) = ((j + 1 : Nat) : Int)) := ⟨by have := HZ.out; unfold wrap64; omega⟩
            clear g1 g2 j1 j2 hlt h1
            go_wp2_with (first | (go_at_call 42; (with_reducible refine (snap_writer_number.calls (x - was - 1) rn 0 out w.heap.size w.heap.size v _ HP2.out HL2.out HF.out HO.out HB.out.size (Nat.le_refl _) (by have := HN.out; have := HZ.out; omega)).mono ?_); rintro e w3 ⟨rfl, v3, hf, ho, hb⟩; have HB3 := Aside0.mk (HB.out.trans hb); have HO3 := Aside0.mk ho; have HF3 := Aside0.mk hf; clear hb ho hf))
            go_roundw
            case rel => exact ⟨j + 1, x, by rw [E3.out], rfl, ⟨⟨by have := HLT.out; omega, HX.out.1, HX.out.2, out ++ rn, v3, H2.out, HF3.out, HO3.out, by rw [List.length_append]; have := HN.out; have := HL2.out; omega, HB3.out⟩⟩⟩
            case measure => exact snap_PutRow.less HLT.out E3.out
      · have b0 : decide ((j : Int) < (l0.length : Int)) = false := decide_eq_false (by omega)
        have b1 : decide (j < l0.length) = false := decide_eq_false hlt
        have h1 := H.out
        rw [List.drop_of_length_le (by omega), snap_PutRow.l] at h1
        simp only [Prod.mk.injEq] at h1
        obtain ⟨rfl, rfl⟩ := h1
        clear hlt j0 j1 j2 H
        go_wp2
        go_ret2
        exact ⟨_, rfl, HO.out, HB.out⟩

end Go.Proofs.YtolljobehfmffaaDoor.P
