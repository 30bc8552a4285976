-- WRITTEN BY A PROGRAM OF THIS SESSION (wip/pp in its repo), made after the kit's print
import Derived.Test.YtegjegihcebimaaDoorPx0
import Derived.Test.YtegjegihcebimaaDoorPx2
import Derived.Test.YtegjegihcebimaaDoorPx7
import Derived.Test.YtegjegihcebimaaDoorPx9
namespace Go.Proofs.YtegjegihcebimaaDoor.P
open Go.RowKit Go.Proofs.YtegjegihcebimaaDoorW.PrintWords Go.Proofs.YtegjegihcebimaaDoorW.PrintLast Go.Proofs.YtegjegihcebimaaDoorW.PrintMore
attribute [local go_sem] max2_int min2_int max_two min_two max_three min_three max_four min_four   -- for this text's walks alone
set_option linter.unusedVariables false
set_option linter.unusedSimpArgs false

/-! ### apply_To: function 50 -/
section
variable {ops : Array Oper} {rest : List Oper} {o : Oper} {a : Act} {Q : Exit → Act → World → Prop} {W : World}
theorem runes_conv' (base : Nat) (hgd : o.guard = none) (x : Operand) (ho : o.op = .convert 9 87 x) (s : ByteArray) (hx : a.eval x = .string s) (hs : s.size ≤ 70368744177664) (hbase : base ≤ W.heap.size)
    (h : ∀ v w1, Kd.R (Kd.int .i32) 21 w1 base (fun k => W.heap.size ≤ k) v (runesS s) → Below W.heap.size W w1 → W.heap.size < w1.heap.size → wpList Tryd.prog ops Q rest (a.put o.dst v) w1) : wpList Tryd.prog ops Q (o :: rest) a W := by
  have hl : (runesS s).length ≤ s.size := runesP_len s s.size 0
  have hsz : (Conv.runesFrom s s.size 0 #[]).size = (runesS s).length := by rw [runesS_eq]; simp
  have hr := run_runes_of_string (P := Tryd.prog) W 9 87 21 s Tryd.underlying9 Tryd.underlying87 Tryd.underlying21 (by rw [hsz]; omega)
  rw [hsz] at hr
  have hge := grownCap_ge W (runesS s).length 0 21
  have hle := grownCap_le_maxLen W (runesS s).length 0 21 (by unfold maxLen; omega)
  generalize grownCap W (runesS s).length 0 21 = cap at hr hge hle
  rw [runesS_eq] at hr
  have hb : Below W.heap.size W (W.drew.alloc (.cells (((runesS s).map (Value.int .i32)).toArray ++ Array.replicate (cap - (runesS s).length) (.int .i32 0)) 21)) := below_alloc (below_drew (Below.refl _ _)) _
  refine wpList_plain hgd fun K hK => ?_
  unfold Oper.wp execOp
  simp only [ho, hx, Sem.run_bind, Sem.run_pure, Result.andThen_ok, hr]
  refine hK _ _ (h _ _ ?_ hb ?_)
  · refine Kd.R_of_own (h1 := fun _ => rfl) ?_ (fun k hk => ?_)
    · refine ⟨by rw [encs_length]; omega, .inr ⟨W.heap.size, cap, _, rfl, hbase, heap_alloc_new _ _, by omega, hle, ?_, ?_⟩⟩
      · simp; omega
      · simp [encs]
    · simp [Value.ownBlock] at hk; omega
  · show W.heap.size < (W.heap.push _).size
    rw [Array.size_push]; omega
end
def apply_To.l : List S25 → List Int → List Int → Option (List Int)
  | [], _, out => some out
  | x :: l, rest, out => if 0 ≤ x.f1 ∧ x.f1 ≤ (rest.length : Int) ∧ out.length < 1000000000 ∧ x.f2.size < 1000000000 ∧ rest.length < 1000000000 then (if x.f0 = 2 then apply_To.l l (rest.drop x.f1.toNat) (out ++ runesS x.f2) else if x.f0 = 1 then apply_To.l l (rest.drop x.f1.toNat) (out ++ rest.take x.f1.toNat) else apply_To.l l (rest.drop x.f1.toNat) out) else none
def apply_To.f (k : Nat) (l0 : List S25) (a1 : ByteArray) : Option (ByteArray × Int) :=
  (op_May.f k l0).bind fun e => if e = 0 then (points_Count.f a1).bind fun n => (if n < 0 then some ((⟨#[]⟩ : ByteArray), 3) else (op_In.f l0).bind fun m => (if n = m then (if a1.size ≤ 70368744177664 ∧ l0.length < 1000000000 then (apply_To.l l0 (runesS a1) []).bind fun o => some (runesBytes o, 0) else none) else some ((⟨#[]⟩ : ByteArray), 5))) else some ((⟨#[]⟩ : ByteArray), e)
theorem apply_To.mono (l0 : List S25) (a1 : ByteArray) (k : Nat) : LeO (apply_To.f k l0 a1) (apply_To.f (k + 1) l0 a1) := by
  unfold apply_To.f
  exact LeO.bind (op_May.mono _ _) fun e => LeO.ite (LeO.refl _) (LeO.refl _)
/-- What is left of a text, and what is made of it. -/
def AT (w0 W : World) (B : Nat) (vr vo : Value) (rest out : List Int) : Prop :=
  Kd.Q (Kd.int .i32) 21 W w0.heap.size (fun k => k = B) vr rest ∧ Kd.R (Kd.int .i32) 21 W w0.heap.size (fun k => k ≠ B) vo out ∧ Below w0.heap.size w0 W ∧ B < W.heap.size
theorem AT_below {w0 W W1 : World} {B : Nat} {vr vo : Value} {rest out : List Int} (h : AT w0 W B vr vo rest out) (hb : Below W.heap.size W W1) : AT w0 W1 B vr vo rest out :=
  ⟨Kd.Q_below h.1 hb, Kd.R_below h.2.1 hb, below_then h.2.2.1 h.2.2.1.size hb, Nat.lt_of_lt_of_le h.2.2.2 hb.size⟩
theorem AT_app {w0 W W1 : World} {B : Nat} {vr vo vo1 : Value} {rest out out1 : List Int} (h : AT w0 W B vr vo rest out) (hO : Kd.R (Kd.int .i32) 21 W1 w0.heap.size (fun k => k ≠ B) vo1 out1) (hB : Below w0.heap.size w0 W1) (hg : W.grownBy W1 vo.ownBlock) : AT w0 W1 B vr vo1 rest out1 :=
  ⟨Kd.Q_grown h.1 hg (fun k hk e => h.2.1.1 k e.symm hk), hO, hB, Nat.lt_of_lt_of_le h.2.2.2 hg.size⟩
theorem AT_cut {w0 W : World} {B n : Nat} {A : Option Addr} {c : Nat} {vo : Value} {rest out : List Int} (h : AT w0 W B (.slice A rest.length c) vo rest out) (hn : n ≤ rest.length) : ∃ (A3 : Option Addr) (c3 : Nat), (∀ W', (Instr.slice 87 (.slice A rest.length c) (some (.int .i64 (n : Int))) none none).run Tryd.prog W' = .ok (.slice A3 (rest.length - n) c3) W') ∧ AT w0 W B (.slice A3 (rest.length - n) c3) vo (rest.drop n) out := by
  obtain ⟨i0, hi0, _, hsz, _⟩ := info_parts info21
  have h1 := cut_from (P := Tryd.prog) 87 21 .i64 Tryd.underlying87 hi0 1 hsz A rest.length c (n : Int) (by omega) (by omega)
  rw [Int.toNat_natCast] at h1
  have h2 := Kd.Q_drop (k := n) h.1 hn
  exact ⟨_, _, h1, h2, h.2⟩
theorem apply_To.next (l : List S25) (j : Nat) (h : j < l.length) : l.drop j = rd_T25 l (j : Int) :: l.drop (j + 1) := op_sum.next l j h
theorem apply_To.room {a b : Nat} (h1 : a < 1000000000) (h2 : b < 1000000000) : (a + b) * 4 ≤ 140737488355328 := by omega
theorem apply_To.start {w0 w w1 : World} {v : Value} {s : List Int} (hO : Kd.R (Kd.int .i32) 21 w1 w0.heap.size (fun k => w.heap.size ≤ k) v s) (hB : Below w0.heap.size w0 w) (hb : Below w.heap.size w w1) (hlt : w.heap.size < w1.heap.size) : AT w0 w1 ((v.ownBlock).getD w.heap.size) v (.slice none 0 0) s [] := by
  refine ⟨Kd.Q_mono (Kd.Q_tight rfl (Kd.Q_of_R hO)) (fun k e => by rw [← e]; rfl), Kd.R_nil _ _ _ _ _, below_then hB hB.size hb, ?_⟩
  cases hv : v.ownBlock with
  | none => exact hlt
  | some b => exact Kd.Q_lt (Kd.Q_of_R hO) b hv
theorem apply_To.big {n : Nat} (h : n < 1000000000) : n ≤ 70368744177664 := by omega
theorem apply_To.fresh {w0 W : World} {B : Nat} {vr vo : Value} {rest out : List Int} (h : AT w0 W B vr vo rest out) : ∀ k, W.heap.size ≤ k → k ≠ B := by
  have := h.2.2.2
  intro k hk; omega
theorem apply_To.room2 {a : Nat} {s : ByteArray} (h1 : a < 1000000000) (h2 : s.size < 1000000000) : (a + (runesS s).length) * 4 ≤ 140737488355328 := by
  have := runesP_len s s.size 0
  unfold runesS
  omega
theorem apply_To.room3 {a n : Nat} {l : List Int} (h1 : a < 1000000000) (h2 : l.length < 1000000000) (h3 : n ≤ l.length) : (a + n) * 4 ≤ 140737488355328 := by omega
theorem fuse_Of.wrap' {j n : Nat} (h : j < n) (hn : n < 1000000000) : wrap64 ((j : Int) + 1) = ((j + 1 : Nat) : Int) := by unfold wrap64; omega
theorem apply_To.head {w0 W : World} {B n : Nat} {A : Option Addr} {c : Nat} {vo : Value} {rest out : List Int} (h : AT w0 W B (.slice A rest.length c) vo rest out) (hn : n ≤ rest.length) : Kd.C (Kd.int .i32) W A n (rest.take n) := by
  have h2 := Kd.Q_take (m := n) h.1 hn
  have h3 := Kd.Q_reads' h2
  have e : (rest.take n).length = n := by rw [List.length_take]; omega
  rw [e] at h3
  exact h3.2.2
theorem apply_To.same {w0 W : World} {B n : Nat} {A A3 A6 : Option Addr} {c c3 c6 : Nat} {vo : Value} {rest out : List Int}
    (h3 : ∀ W', (Instr.slice 87 (.slice A rest.length c) (some (.int .i64 (n : Int))) none none).run Tryd.prog W' = .ok (.slice A3 (rest.length - n) c3) W')
    (h6 : ∀ W', (Instr.slice 87 (.slice A rest.length c) (some (.int .i64 (n : Int))) none none).run Tryd.prog W' = .ok (.slice A6 (rest.length - n) c6) W')
    (h : AT w0 W B (.slice A6 (rest.length - n) c6) vo (rest.drop n) out) : AT w0 W B (.slice A3 (rest.length - n) c3) vo (rest.drop n) out := by
  have e := (h3 W).symm.trans (h6 W)
  injection e with e1 _
  injection e1 with e1 _ e2
  rw [e1, e2]; exact h
theorem apply_To.ne {w0 W : World} {B : Nat} {vr vo : Value} {rest out : List Int} (h : AT w0 W B vr vo rest out) : some W.heap.size ≠ vo.ownBlock := fun e => by
  have := Kd.Q_lt (Kd.Q_of_R h.2.1) _ e.symm
  omega
set_option maxHeartbeats 8000000 in
set_option maxRecDepth 100000 in
theorem apply_To.calls (k : Nat) (A0 : Option Addr) (c0 : Nat) (l0 : List S25) (a1 : ByteArray) (r1 : ByteArray) (r2 : Int) (w : World) (hr0 : Kd.C k25 w A0 l0.length l0) (hc0 : l0.length ≤ c0) (hT : Tabs w) (h : apply_To.f k l0 a1 = some (r1, r2)) :
    Calls Tryd.prog 50 #[.slice A0 l0.length c0, .string a1] w fun e w' => e = .returned (.tuple #[.string r1, .int .i64 r2]) ∧ Below w.heap.size w w' := by
  unfold apply_To.f at h
  obtain ⟨e0, he0, h⟩ := Option.bind_eq_some_iff.mp h
  have HR0 := Aside0.mk hr0; have HC0 := Aside0.mk hc0; have HT := Aside0.mk hT; have HE0 := Aside0.mk he0
  clear hr0 hc0 hT he0
  by_cases z0 : e0 = 0
  · rw [if_pos z0] at h
    subst z0
    obtain ⟨n, hn, h⟩ := Option.bind_eq_some_iff.mp h
    have HN := Aside0.mk hn
    clear hn
    by_cases z1 : n < 0
    · rw [if_pos z1] at h
      simp only [Option.some.injEq, Prod.mk.injEq] at h
      obtain ⟨rfl, rfl⟩ := h
      have z1b : decide (n < 0) = true := decide_eq_true z1
      clear z1
      go_enter Tryd.func50, Tryd.ntmps50
      go_wp2_with (first | (go_at_call 46; (with_reducible refine (op_May.calls k A0 c0 l0 0 _ HR0.out HC0.out HT.out HE0.out).mono ?_); rintro e w1 ⟨rfl, hb⟩; have HB1 := Aside0.mk hb; clear hb) | (go_at_call 10; (with_reducible refine (points_Count.calls a1 n _ (Tabs.below HT.out HB1.out) HN.out).mono ?_); rintro e w2 ⟨rfl, hb⟩; have HB2 := Aside0.mk (below_then HB1.out HB1.out.size hb); clear hb))
      go_ret2
      exact ⟨rfl, HB2.out⟩
    · rw [if_neg z1] at h
      have z1b : decide (n < 0) = false := decide_eq_false z1
      clear z1
      obtain ⟨m, hm, h⟩ := Option.bind_eq_some_iff.mp h
      have HM := Aside0.mk hm
      clear hm
      by_cases z2 : n = m
      · rw [if_pos z2] at h
        have z2b : (n != m) = false := bne_eq_false_iff_eq.mpr z2
        clear z2
        by_cases z3 : a1.size ≤ 70368744177664 ∧ l0.length < 1000000000
        · rw [if_pos z3] at h
          obtain ⟨o, ho, h⟩ := Option.bind_eq_some_iff.mp h
          simp only [Option.some.injEq, Prod.mk.injEq] at h
          obtain ⟨rfl, rfl⟩ := h
          have HZ3 := Aside0.mk z3; have H := Aside0.mk ho
          clear z3 ho
          go_enter Tryd.func50, Tryd.ntmps50
          go_wp2_with (first | (go_at_call 46; (with_reducible refine (op_May.calls k A0 c0 l0 0 _ HR0.out HC0.out HT.out HE0.out).mono ?_); rintro e w1 ⟨rfl, hb⟩; have HB1 := Aside0.mk hb; clear hb) | (go_at_call 10; (with_reducible refine (points_Count.calls a1 n _ (Tabs.below HT.out HB1.out) HN.out).mono ?_); rintro e w2 ⟨rfl, hb⟩; have HB2 := Aside0.mk (below_then HB1.out HB1.out.size hb); clear hb) | (go_at_call 20; (with_reducible refine (op_In.calls A0 c0 l0 m _ (Kd.C_below HR0.out HB2.out) HC0.out (Tabs.below HT.out HB2.out) HM.out).mono ?_); rintro e w3 ⟨rfl, hb⟩; have HB3 := Aside0.mk (below_then HB2.out HB2.out.size hb); clear hb) | ((with_reducible refine gate_dst (N := 28) rfl ?_); refine runes_conv' w.heap.size rfl (.tmp 27) rfl a1 rfl HZ3.out.1 HB3.out.size ?_; intro v4 w4 ho hb hlt; have HAT := Aside0.mk (apply_To.start ho HB3.out hb hlt); clear ho hb hlt))
          go_loopw [8, 9, 11, 31] (fun v8 v9 _ v31 wr => ∃ j : Nat, v31 = .int .i64 j ∧ j ≤ l0.length ∧ ∃ (B : Nat) (rest out : List Int), Aside0 (apply_To.l (l0.drop j) rest out = some o) ∧ Aside0 (AT w wr B v8 v9 rest out)) (fun _ _ _ v31 _ => l0.length - (intOf v31).toNat)
          case atStart => exact ⟨0, rfl, Nat.zero_le _, _, _, _, H, HAT⟩
          case round =>
            clear H HAT
            obtain ⟨j, rfl, hj, B, rst, out, HA, HAT⟩ := hrel
            obtain ⟨Ar, cr, rfl, hcr⟩ := Kd.Q_slice HAT.out.1
            obtain ⟨Ao, co, rfl, hco, _⟩ := Kd.R_reads HAT.out.2.1
            by_cases hlt : j < l0.length
            · have hltb : decide ((j : Int) < (l0.length : Int)) = true := decide_eq_true (by omega)
              have HL := Aside0.mk hlt
              have h := HA.out
              clear HA
              rw [apply_To.next l0 j hlt] at h
              obtain ⟨ad, rfl, hx0, hx1, hx2⟩ := at_T25 (Kd.C_below HR0.out HAT.out.2.2.1) (j : Int) (by omega) (by omega)
              rw [Int.toNat_natCast] at hx0 hx1 hx2
              have p1 : (0 ≤ (j : Int)) = True := eq_true (by omega)
              have p2 : ((j : Int) < (l0.length : Int)) = True := eq_true (by omega)
              have p3 : (j < l0.length) = True := eq_true hlt
              have ew := fuse_Of.wrap' hlt HZ3.out.2
              clear hlt hj
              generalize rd_T25 l0 (j : Int) = x at *
              rw [apply_To.l] at h
              by_cases g : 0 ≤ x.f1 ∧ x.f1 ≤ (rst.length : Int) ∧ out.length < 1000000000 ∧ x.f2.size < 1000000000 ∧ rst.length < 1000000000
              · rw [if_pos g] at h
                obtain ⟨f0, f1, f2⟩ := x
                dsimp only at g h hx0 hx1 hx2
                obtain ⟨nn, rfl⟩ := Int.eq_ofNat_of_zero_le g.1
                rw [Int.toNat_natCast] at h
                have hnn : nn ≤ rst.length := by omega
                obtain ⟨A3, c3, hcut3, hAT3⟩ := AT_cut HAT.out hnn
                have HG := Aside0.mk g; have HNN := Aside0.mk hnn
                clear g hAT3
                by_cases k2 : f0 = 2
                · subst k2
                  rw [if_pos rfl] at h
                  have HE := Aside0.mk h
                  clear h
                  go_wp2_with (first | ((with_reducible refine gate_dst (N := 42) rfl ?_); refine runes_conv' w.heap.size rfl (.tmp 41) rfl f2 rfl (apply_To.big HG.out.2.2.2.1) (below_alloc HAT.out.2.2.1 _).size ?_; intro v4 w4 ho hb hlt; obtain ⟨A4, c4, rfl, hc4, hC4⟩ := Kd.R_reads ho; have HC4 := Aside0.mk hC4; have HAT4 := Aside0.mk (AT_below (AT_below HAT.out (below_alloc (Below.refl _ _) _)) hb); have HXB := Aside0.mk (blk_below (heap_alloc_new wr _) hb); clear ho hb hlt hc4 hC4) | ((with_reducible refine gate_builtin (b := .append) (xs := #[.tmp 39, .tmp 42]) rfl ?_); at_builtin; refine Kd.R_append_rows (Kd.int .i32) (w0 := w) w.heap.size rfl (.tmp 39) (.tmp 42) 87 21 (.int .i32 0) 4 rfl Tryd.underlying87 info21 rfl (by decide) (by omega) (.slice Ao out.length co) out (runesS f2) _ _ _ (fun k_ => k_ ≠ B) (fun _ => False) rfl rfl ?aO ?aR (fun _ _ h => h) (fun _ h => h.elim) ?aF ?aB ?aS ?aL ?_; (case aR => exact HC4.out); (case aB => exact HAT4.out.2.2.1); (case aF => exact apply_To.fresh HAT4.out); (case aO => exact HAT4.out.2.1); (case aS => exact HAT4.out.2.2.1.size); (case aL => exact apply_To.room2 HG.out.2.2.1 HG.out.2.2.2.1); intro v5 w5 ho hb hg hat; have HAT5 := Aside0.mk (AT_app HAT4.out ho hb hg); obtain ⟨y0, y1, y2⟩ := compose_Of.cells (blk_grown HXB.out hg (apply_To.ne HAT.out)); clear ho hb hg hat))
                  go_round
                  case measure => exact op_sum.less HL.out ew
                  case rel =>
                    obtain ⟨A6, c6, hcut6, hAT6⟩ := AT_cut HAT5.out HNN.out
                    exact ⟨j + 1, by rw [ew], HL.out, B, rst.drop nn, _, HE, ⟨apply_To.same hcut3 hcut6 hAT6⟩⟩
                · rw [if_neg k2] at h
                  have k2b : (f0 == 2) = false := beq_eq_false_iff_ne.mpr k2
                  clear k2
                  by_cases k1 : f0 = 1
                  · subst k1
                    rw [if_pos rfl] at h
                    have HE := Aside0.mk h
                    clear h
                    obtain ⟨i0, hi0, _, hsz, _⟩ := info_parts info21
                    have hcut7 := cut_to (P := Tryd.prog) 87 21 .i64 Tryd.underlying87 hi0 Ar rst.length cr (nn : Int) (by omega) (by omega) hcr
                    rw [Int.toNat_natCast] at hcut7
                    clear hi0 hsz
                    have HCT := Aside0.mk (fun (o1 : Obj) => apply_To.head (AT_below HAT.out (below_alloc (Below.refl _ _) o1)) HNN.out)
                    go_wp2_with ((with_reducible refine gate_builtin (b := .append) (xs := #[.tmp 46, .tmp 50]) rfl ?_); at_builtin; refine Kd.R_append_rows (Kd.int .i32) (w0 := w) w.heap.size rfl (.tmp 46) (.tmp 50) 87 21 (.int .i32 0) 4 rfl Tryd.underlying87 info21 rfl (by decide) (by omega) (.slice Ao out.length co) out (rst.take nn) Ar nn cr (fun k_ => k_ ≠ B) (fun _ => False) rfl rfl ?aO ?aR (fun _ _ h => h) (fun _ h => h.elim) ?aF ?aB ?aS ?aL ?_; (case aR => exact HCT.out _); (case aB => exact (AT_below HAT.out (below_alloc (Below.refl _ _) _)).2.2.1); (case aF => exact apply_To.fresh (AT_below HAT.out (below_alloc (Below.refl _ _) _))); (case aO => exact (AT_below HAT.out (below_alloc (Below.refl _ _) _)).2.1); (case aS => exact (AT_below HAT.out (below_alloc (Below.refl _ _) _)).2.2.1.size); (case aL => exact apply_To.room3 HG.out.2.2.1 HG.out.2.2.2.2 HNN.out); intro v5 w5 ho hb hg hat; have HAT5 := Aside0.mk (AT_app (AT_below HAT.out (below_alloc (Below.refl _ _) _)) ho hb hg); obtain ⟨y0, y1, y2⟩ := compose_Of.cells (blk_grown (heap_alloc_new wr _) hg (apply_To.ne HAT.out)); clear ho hb hg hat)
                    go_round
                    case measure => exact op_sum.less HL.out ew
                    case rel =>
                      obtain ⟨A6, c6, hcut6, hAT6⟩ := AT_cut HAT5.out HNN.out
                      exact ⟨j + 1, by rw [ew], HL.out, B, rst.drop nn, _, HE, ⟨apply_To.same hcut3 hcut6 hAT6⟩⟩
                  · rw [if_neg k1] at h
                    have k1b : (f0 == 1) = false := beq_eq_false_iff_ne.mpr k1
                    clear k1
                    have HE := Aside0.mk h
                    clear h
                    go_wp2
                    go_round
                    case measure => exact op_sum.less HL.out ew
                    case rel =>
                      obtain ⟨A6, c6, hcut6, hAT6⟩ := AT_cut (AT_below HAT.out (below_alloc (Below.refl _ _) _)) HNN.out
                      exact ⟨j + 1, by rw [ew], HL.out, B, rst.drop nn, out, HE, ⟨apply_To.same hcut3 hcut6 hAT6⟩⟩
              · rw [if_neg g] at h; cases h
            · have hltb : decide ((j : Int) < (l0.length : Int)) = false := decide_eq_false (by omega)
              have h := HA.out
              clear HA
              rw [List.drop_of_length_le (by omega), apply_To.l] at h
              obtain rfl := Option.some.inj h
              have hcv := fun (m_ : Nat) => runes_str (Kd.Q_mono (Kd.Q_of_R HAT.out.2.1) (fun _ _ => trivial)) out.length (Nat.le_refl _) m_
              rw [List.take_length] at hcv
              have hcv0 := hcv 0
              have hcv1 : (convert 87 9 (.slice Ao out.length co)).run Tryd.prog wr = .ok (.string (runesBytes out)) wr := hcv 0
              go_wp2
              go_ret2
              exact ⟨rfl, by repeat (first | exact HAT.out.2.2.1 | apply pw_below_drewN)⟩
        · rw [if_neg z3] at h; cases h
      · rw [if_neg z2] at h
        simp only [Option.some.injEq, Prod.mk.injEq] at h
        obtain ⟨rfl, rfl⟩ := h
        have z2b : (n != m) = true := bne_iff_ne.mpr z2
        clear z2
        go_enter Tryd.func50, Tryd.ntmps50
        go_wp2_with (first | (go_at_call 46; (with_reducible refine (op_May.calls k A0 c0 l0 0 _ HR0.out HC0.out HT.out HE0.out).mono ?_); rintro e w1 ⟨rfl, hb⟩; have HB1 := Aside0.mk hb; clear hb) | (go_at_call 10; (with_reducible refine (points_Count.calls a1 n _ (Tabs.below HT.out HB1.out) HN.out).mono ?_); rintro e w2 ⟨rfl, hb⟩; have HB2 := Aside0.mk (below_then HB1.out HB1.out.size hb); clear hb) | (go_at_call 20; (with_reducible refine (op_In.calls A0 c0 l0 m _ (Kd.C_below HR0.out HB2.out) HC0.out (Tabs.below HT.out HB2.out) HM.out).mono ?_); rintro e w3 ⟨rfl, hb⟩; have HB3 := Aside0.mk (below_then HB2.out HB2.out.size hb); clear hb))
        go_ret2
        exact ⟨rfl, HB3.out⟩
  · rw [if_neg z0] at h
    simp only [Option.some.injEq, Prod.mk.injEq] at h
    obtain ⟨rfl, rfl⟩ := h
    have z0b : (e0 != 0) = true := bne_iff_ne.mpr z0
    clear z0
    go_enter Tryd.func50, Tryd.ntmps50
    go_wp2_with (go_at_call 46; (with_reducible refine (op_May.calls k A0 c0 l0 e0 _ HR0.out HC0.out HT.out HE0.out).mono ?_); rintro e w1 ⟨rfl, hb⟩; have HB1 := Aside0.mk hb; clear hb)
    go_ret2
    exact ⟨rfl, HB1.out⟩

end Go.Proofs.YtegjegihcebimaaDoor.P
