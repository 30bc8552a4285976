/- Part 5 of the proof of topLogs_holds: out of the texts that this session's programs wrote, what the theorem reaches. -/
import Derived.Test.YtegjegihcebimaaDoorZ2
import Derived.Test.YtegjegihcebimaaDoorZ3
import Derived.Test.YtegjegihcebimaaDoorZ4
section
namespace Go.Proofs.YtegjegihcebimaaDoor.P
open Go.RowKit Go.Proofs.YtegjegihcebimaaDoorW.PrintWords Go.Proofs.YtegjegihcebimaaDoorW.PrintLast Go.Proofs.YtegjegihcebimaaDoorW.PrintMore
attribute [local go_sem] max2_int min2_int max_two min_two max_three min_three max_four min_four
set_option linter.unusedVariables false
set_option linter.unusedSimpArgs false
def runesP (s : ByteArray) : Nat → Nat → List Int
 | 0, _ => []
 | b + 1, i => if i < s.size then ((Utf8.decode s i).1 : Int) :: runesP s b (i + (Utf8.decode s i).2) else []
def runesS (s : ByteArray) : List Int := runesP s s.size 0
theorem runesP_eq (s : ByteArray) : ∀ (b i : Nat) (acc : Array Value), Conv.runesFrom s b i acc = acc ++ ((runesP s b i).map (Value.int .i32)).toArray
 | 0, i, acc => by simp [Conv.runesFrom, runesP]
 | b + 1, i, acc => by
  unfold Conv.runesFrom runesP
  by_cases c : i < s.size
  ·rw [if_pos c, if_pos c]
   simp only []
   rw [runesP_eq s b]
   simp
  ·rw [if_neg c, if_neg c]; simp
theorem runesS_eq (s : ByteArray) : Conv.runesFrom s s.size 0 #[] = ((runesS s).map (Value.int .i32)).toArray := by
 rw [runesP_eq]; simp [runesS]
theorem runesP_len (s : ByteArray) : ∀ (b i : Nat), (runesP s b i).length ≤ b
 | 0, _ => by simp [runesP]
 | b + 1, i => by
  unfold runesP
  split
  ·have := runesP_len s b (i + (Utf8.decode s i).2)
   rw [List.length_cons]; omega
  ·simp
section
variable {ops : Array Oper} {rest : List Oper} {o : Oper} {a : Act} {Q : Exit → Act → World → Prop} {W : World}
theorem runes_conv (base : Nat) (hgd : o.guard = none) (x : Operand) (ho : o.op = .convert 9 87 x) (s : ByteArray) (hx : a.eval x = .string s) (hs : s.size ≤ 70368744177664) (hbase : base ≤ W.heap.size)
  (h : ∀ v w1, Kd.R (Kd.int .i32) 21 w1 base (fun k => W.heap.size ≤ k) v (runesS s) → Below W.heap.size W w1 → wpList Tryd.prog ops Q rest (a.put o.dst v) w1) : wpList Tryd.prog ops Q (o :: rest) a W := by
 have hl : (runesS s).length ≤ s.size := runesP_len s s.size 0
 have hsz : (Conv.runesFrom s s.size 0 #[]).size = (runesS s).length := by rw [runesS_eq]; simp
 have hr := run_runes_of_string (P := Tryd.prog) W 9 87 21 s Tryd.underlying9 Tryd.underlying87 Tryd.underlying21 (by rw [hsz]; omega)
 rw [hsz] at hr
 have hge := grownCap_ge W (runesS s).length 0 21
 have hle := grownCap_le_maxLen W (runesS s).length 0 21 (by unfold maxLen; omega)
 generalize grownCap W (runesS s).length 0 21 = cap at hr hge hle
 rw [runesS_eq] at hr
 have hb : Below W.heap.size W (W.drew.alloc (.cells (((runesS s).map (Value.int .i32)).toArray ++ Array.replicate (cap - (runesS s).length) (.int .i32 0)) 21)) := below_alloc (below_drew (Below.refl _ _)) _
 refine wpList_plain hgd fun K hK => ?_
 unfold Oper.wp execOp
 simp only [ho, hx, Sem.run_bind, Sem.run_pure, Result.andThen_ok, hr]
 refine hK _ _ (h _ _ ?_ hb)
 refine Kd.R_of_own (h1 := fun _ => rfl) ?_ (fun k hk => ?_)
 ·refine ⟨by rw [encs_length]; omega, .inr ⟨W.heap.size, cap, _, rfl, hbase, heap_alloc_new _ _, by omega, hle, ?_, ?_⟩⟩
  ·simp; omega
  ·simp [encs]
 ·simp [Value.ownBlock] at hk; omega
end
def RD (w0 W : World) (g B : Nat) (l : List S25) (t : List Int) : Prop :=
 w0.heap.size ≤ g ∧ ∃ (A : Option Addr) (c : Nat) (A' : Option Addr) (c' : Nat), W.heap[g]? = some (.cells #[.slice A l.length c, .slice A' t.length c'] 154 (0, 0)) ∧ l.length ≤ c ∧ t.length ≤ c' ∧
  Kd.Q k25 25 W w0.heap.size (fun k => k = B) (.slice A l.length c) l ∧ Kd.Q (Kd.int .i32) 21 W w0.heap.size (fun _ => True) (.slice A' t.length c') t
theorem RD_kept {w0 W W1 : World} {g B : Nat} {l : List S25} {t : List Int} {S : Nat → Prop} (h : RD w0 W g B l t) (hk : Kept W W1 S) (hg : ¬ S g) (hB : ¬ S B)
  (hS : ∀ k, S k → ∃ cells q, W.heap[k]? = some (.cells cells q (0, 0)) ∧ q ≠ 21) : RD w0 W1 g B l t := by
 obtain ⟨h0, A, c, A', c', hc, h1, h2, q1, q2⟩ := h
 refine ⟨h0, A, c, A', c', blk_kept hc hk hg, h1, h2, Kd.Q_kept q1 hk (fun k e => by rw [e]; exact hB), ?_⟩
 refine Kd.Q_mono (Kd.Q_kept (Kd.Q_bound q2) hk ?_) (fun _ _ => trivial)
 intro k ⟨_, _, _, q, hq, cells, e⟩ hs
 obtain ⟨cells', q', e', hne⟩ := hS k hs
 rw [e] at e'
 injection e' with e'
 injection e' with _ e'
 have : q = 21 := by simpa [Kd.int, Kd.scalar] using hq
 exact hne (by rw [← e', this])
theorem RD_lt {w0 W : World} {g B : Nat} {l : List S25} {t : List Int} (h : RD w0 W g B l t) : g < W.heap.size := by
 obtain ⟨_, A, c, A', c', hc, _⟩ := h
 exact blk_lt hc
def loadT : List S25 → List Int
 | [] => []
 | x :: _ => runesS x.f2
set_option maxHeartbeats 8000000 in
set_option maxRecDepth 100000 in
theorem compose_Of.load (w0 w : World) (g B : Nat) (l : List S25) (t : List Int) (hI : RD w0 w g B l t) (hB : Below w0.heap.size w0 w) (hs : normal_Of.t l ≤ 70368744177664) :
  Calls Tryd.prog 92 #[.pointer (some ⟨g, 0, none⟩)] w fun e w' => e = .returned (.tuple #[]) ∧ RD w0 w' g B l (loadT l) ∧ Below w0.heap.size w0 w' ∧ Kept w w' (fun k => k = g) := by
 obtain ⟨h0, A, c, A', c', hc, h1, h2, q1, q2⟩ := hI
 have HC := am hc; have HQ := am q1; have HB := am hB; have H0 := am h0; have H1 := am h1
 have k0 : w.cell? ⟨g, 0, none⟩ = some (.slice A l.length c) := (blk_cell hc 0).trans rfl
 have k1 : w.cell? ⟨g, 1, none⟩ = some (.slice A' t.length c') := (blk_cell hc 1).trans rfl
 have fz : w.frozen? ⟨g, 1, none⟩ = false := blk_frozen hc 1
 clear hc q2 hB h0 h2
 have hp1 := blk_put HC.out 1 (.slice none 0 0) rfl
 have hq2 := Kd.Q_set q1 HC.out (by decide) 1 (.slice none 0 0)
 have HP1 := am hp1
 have HQ2 := am hq2
 have HB1 := am (HB.out.setCell (p := ⟨g, 1, none⟩) H0.out (.slice none 0 0))
 clear hp1 q1
 cases l with
 | nil =>
  clear hq2
  go_enter Tryd.func92, Tryd.ntmps92
  go_wp2
  go_end0
  refine ⟨rfl, ⟨H0.out, A, c, none, 0, HP1.out, H1.out, Nat.le_refl _, HQ2.out, Kd.Q_nil _ _ _ _ _⟩, HB1.out, (Kept.refl w (fun k => k = g)).setCell (p := ⟨g, 1, none⟩) (.inl rfl) _⟩
 | cons x l =>
  obtain ⟨gB, oB, cap, hv, hb1, hb2, cells, hcl⟩ := Kd.Q_form hq2 (by simp)
  injection hv with e1 e2 e3
  subst e1; subst e3
  obtain ⟨ce, _, hM, hcc, _⟩ := Kd.Q_elem hq2 z25 0 (by omega) (by simp)
  obtain rfl := k25_openM hM
  have x2 : (w.setCell ⟨g, 1, none⟩ (.slice none 0 0)).cell? ⟨gB, oB + 2, none⟩ = some (.string x.f2) := hcc 2 _ rfl
  have f1 : (w.setCell ⟨g, 1, none⟩ (.slice none 0 0)).frozen? ⟨g, 1, none⟩ = false := blk_frozen HP1.out 1
  have p1 : (0 < l.length + 1) = True := eq_true (by omega)
  have hsx : x.f2.size ≤ 70368744177664 := by rw [normal_Of.t] at hs; omega
  have HSX := am hsx
  clear hs hsx hq2 hcc hM hcl hb1 hb2
  go_enter Tryd.func92, Tryd.ntmps92
  go_wp2_with ((with_reducible refine gate_dst (N := 19) rfl ?_); refine runes_conv w0.heap.size rfl (.tmp 18) rfl x.f2 rfl HSX.out HB1.out.size ?_; intro v1 w1 ho hb; obtain ⟨A1, c1, rfl, hc1, _⟩ := Kd.R_reads ho; have HC1 := am hc1; clear hc1; have HO1 := am ho; have HP2 := am (blk_below HP1.out hb); have HQ3 := am (Kd.Q_below HQ2.out hb); have HB2 := am (below_then HB1.out HB1.out.size hb); have HBB := am hb; clear ho hb; have f2 : w1.frozen? ⟨g, 1, none⟩ = false := blk_frozen HP2.out 1; have c2 : w1.cell? ⟨g, 1, none⟩ = some (.slice none 0 0) := (blk_cell HP2.out 1).trans rfl)
  go_end0
  have HP3 := blk_put HP2.out 1 (.slice A1 (runesS x.f2).length c1) rfl
  refine ⟨rfl, ⟨H0.out, _, c, A1, c1, HP3, H1.out, HC1.out, Kd.Q_set HQ3.out HP2.out (by decide) 1 _, Kd.Q_set (Kd.Q_mono (Kd.Q_of_R HO1.out) (fun _ _ => trivial)) HP2.out (by decide) 1 _⟩, HB2.out.setCell (p := ⟨g, 1, none⟩) H0.out _, ?_⟩
  exact (((Kept.refl w (fun k => k = g)).setCell (p := ⟨g, 1, none⟩) (.inl rfl) _).below HBB.out).setCell (p := ⟨g, 1, none⟩) (.inl rfl) _
theorem normal_Of.t_n (l : List S25) : normal_Of.t (normal_Of.n l) ≤ normal_Of.t l := by
 have h := (normal_Of.d_facts (normal_Of.keep l) (normal_Of.keep l).length (Nat.le_refl _)).2.2
 unfold normal_Of.d at h
 rw [List.take_length] at h
 have e : normal_Of.n l = (normal_Of.keep l).foldl normal_Of.step [] := rfl
 rw [e, h]
 exact normal_Of.t_keep l
theorem RD_new {w0 w1 : World} {A1 : Option Addr} {c1 : Nat} {q : List S25} {base : Nat} {ok : Nat → Prop} (d : Nat) (hO : Kd.R k25 25 w1 base ok (.slice A1 q.length c1) q) (hc : q.length ≤ c1) (hb : w0.heap.size ≤ base) (h0 : w0.heap.size ≤ w1.heap.size) :
  RD w0 (w1.alloc (.cells #[.slice A1 q.length c1, .slice none 0 0] 154)) w1.heap.size (((Value.slice A1 q.length c1).ownBlock).getD d) q [] :=
 ⟨h0, A1, c1, none, 0, heap_alloc_new w1 _, hc, Nat.le_refl _, Kd.Q_alloc (Kd.Q_mono (Kd.Q_lower (Kd.Q_tight rfl (Kd.Q_of_R hO)) hb) (fun k_ e_ => by rw [← e_]; rfl)) _, Kd.Q_nil _ _ _ _ _⟩
set_option maxHeartbeats 8000000 in
set_option maxRecDepth 100000 in
theorem compose_Of.reader (w0 w : World) (A0 : Option Addr) (c0 : Nat) (l0 : List S25) (hr0 : Kd.C k25 w A0 l0.length l0) (hc0 : l0.length ≤ c0) (hB : Below w0.heap.size w0 w) (hl : l0.length < 1000000000) (ht : normal_Of.t l0 ≤ 70368744177664) :
  Calls Tryd.prog 79 #[.slice A0 l0.length c0] w fun e w' => ∃ g B, e = .returned (.pointer (some ⟨g, 0, none⟩)) ∧ RD w0 w' g B (normal_Of.n l0) (loadT (normal_Of.n l0)) ∧ w.heap.size ≤ g ∧ w.heap.size ≤ B ∧ B < w'.heap.size ∧ Below w0.heap.size w0 w' ∧ Kept w w' (fun _ => False) := by
 have hf : normal_Of.f l0 = some (normal_Of.n l0) := by unfold normal_Of.f; rw [if_pos ⟨hl, by omega⟩]
 have HN := am (normal_Of.calls A0 c0 l0 _ w hr0 hc0 hf)
 have HB := am hB
 have HT : Aside0 (normal_Of.t (normal_Of.n l0) ≤ 70368744177664) := ⟨Nat.le_trans (normal_Of.t_n l0) ht⟩
 clear hr0 hc0 hB hl ht hf
 generalize normal_Of.n l0 = q at *
 go_enter Tryd.func79, Tryd.ntmps79
 go_wp2_with (first | (go_at_call 33; (with_reducible refine HN.out.mono ?_); rintro e w1 ⟨v1, rfl, ho, hb⟩; obtain ⟨A1, c1, rfl, hc1, _⟩ := Kd.R_reads ho; have HO1 := am ho; have HC1 := am hc1; have HB1 := am hb; clear ho hc1 hb) | (go_at_call 92; (with_reducible refine (compose_Of.load w0 _ w1.heap.size (((Value.slice A1 q.length c1).ownBlock).getD w.heap.size) q [] (RD_new w.heap.size HO1.out HC1.out HB.out.size (Nat.le_trans HB.out.size HB1.out.size)) (below_alloc (below_then HB.out HB.out.size HB1.out) _) HT.out).mono ?_); rintro e w2 ⟨rfl, hI, hb2, hk2⟩; have HI2 := am hI; have HB2 := am hb2; have HK2 := am hk2; clear hI hb2 hk2))
 go_ret
 have hle : w1.heap.size + 1 ≤ w2.heap.size := by have := HK2.out.1; simpa using this
 refine ⟨w1.heap.size, _, rfl, HI2.out, HB1.out.size, ?_, ?_, HB2.out, ?_⟩
 ·cases A1 with
  | none => exact Nat.le_refl _
  | some a1 => exact Kd.R_base HO1.out _ rfl
 ·cases A1 with
  | none => show w.heap.size < _; have := HB1.out.size; omega
  | some a1 =>
   have := Kd.Q_lt (Kd.Q_of_R HO1.out) _ rfl
   show a1.block < _; omega
 ·have h1 : Kept w (w1.alloc (.cells #[.slice A1 q.length c1, .slice none 0 0] 154)) (fun _ => False) := (Kept.of_below HB1.out _).alloc _
  exact h1.then_ HK2.out (fun k hk => .inr (by rw [hk]; exact HB1.out.size))
def kindT : List S25 → Int
 | [] => 0
 | x :: _ => x.f0
theorem RD_open {w0 w : World} {g B : Nat} {x : S25} {l : List S25} {t : List Int} (h : RD w0 w g B (x :: l) t) :
  ∃ (o c : Nat) (A' : Option Addr) (c' : Nat), w.heap[g]? = some (.cells #[.slice (some ⟨B, o, none⟩) (l.length + 1) c, .slice A' t.length c'] 154 (0, 0)) ∧ l.length + 1 ≤ c ∧ t.length ≤ c' ∧
   Kd.Q k25 25 w w0.heap.size (fun k => k = B) (.slice (some ⟨B, o, none⟩) (l.length + 1) c) (x :: l) ∧ Kd.Q (Kd.int .i32) 21 w w0.heap.size (fun _ => True) (.slice A' t.length c') t ∧
   w.cell? ⟨B, o, none⟩ = some (.int .i64 x.f0) ∧ w.cell? ⟨B, o + 1, none⟩ = some (.int .i64 x.f1) ∧ w.cell? ⟨B, o + 2, none⟩ = some (.string x.f2) ∧ w.frozen? ⟨B, o + 1, none⟩ = false ∧
   w0.heap.size ≤ B ∧ B < w.heap.size ∧ w0.heap.size ≤ g ∧ ∃ cells, w.heap[B]? = some (.cells cells 25 (0, 0)) := by
 obtain ⟨h0, A, c, A', c', hc, h1, h2, q1, q2⟩ := h
 obtain ⟨gB, oB, cap, hv, hb1, hb2, cells, hcl⟩ := Kd.Q_form q1 (by simp)
 injection hv with e1 e2 e3
 subst e1; subst e3
 obtain rfl : gB = B := q1.1 gB rfl
 obtain ⟨ce, _, hM, hcc, hfr⟩ := Kd.Q_elem q1 z25 0 (by omega) (by simp)
 obtain rfl := k25_openM hM
 exact ⟨oB, c, A', c', hc, h1, h2, q1, q2, hcc 0 _ rfl, hcc 1 _ rfl, hcc 2 _ rfl, hfr 1, hb1, hb2, h0, cells, hcl⟩
set_option maxHeartbeats 8000000 in
set_option maxRecDepth 100000 in
theorem compose_Of.kind (w0 w : World) (g B : Nat) (l : List S25) (t : List Int) (hI : RD w0 w g B l t) :
  Calls Tryd.prog 80 #[.pointer (some ⟨g, 0, none⟩)] w fun e w' => e = .returned (.int .i64 (kindT l)) ∧ w' = w := by
 cases l with
 | nil =>
  obtain ⟨h0, A, c, A', c', hc, h1, h2, q1, q2⟩ := hI
  have k0 : w.cell? ⟨g, 0, none⟩ = some (.slice A 0 c) := (blk_cell hc 0).trans rfl
  clear q1 q2 hc h0 h1 h2
  go_enter Tryd.func80, Tryd.ntmps80
  go_wp2
  go_ret
  exact ⟨rfl, rfl⟩
 | cons x l =>
  obtain ⟨o, c, A', c', hc, h1, h2, q1, q2, x0, x1, x2, f1, _⟩ := RD_open hI
  have k0 : w.cell? ⟨g, 0, none⟩ = some (.slice (some ⟨B, o, none⟩) (l.length + 1) c) := (blk_cell hc 0).trans rfl
  have p0 : (((l.length + 1 : Nat) : Int) == 0) = false := beq_eq_false_iff_ne.mpr (by omega)
  have p1 : (0 < l.length + 1) = True := eq_true (by omega)
  have p2 : (((l.length : Int) + 1) == 0) = false := beq_eq_false_iff_ne.mpr (by omega)
  clear q1 q2 hc h1 h2 hI
  go_enter Tryd.func80, Tryd.ntmps80
  go_wp2
  go_ret
  exact ⟨rfl, rfl⟩
set_option maxHeartbeats 8000000 in
set_option maxRecDepth 100000 in
theorem compose_Of.size (w0 w : World) (g B : Nat) (x : S25) (l : List S25) (t : List Int) (hI : RD w0 w g B (x :: l) t) :
  Calls Tryd.prog 82 #[.pointer (some ⟨g, 0, none⟩)] w fun e w' => e = .returned (.int .i64 (wrap64 (x.f1 + (t.length : Int)))) ∧ ∃ m, w' = w.drewN m := by
 obtain ⟨o, c, A', c', hc, h1, h2, q1, q2, x0, x1, x2, f1, _⟩ := RD_open hI
 have k0 : w.cell? ⟨g, 0, none⟩ = some (.slice (some ⟨B, o, none⟩) (l.length + 1) c) := (blk_cell hc 0).trans rfl
 have k1 : w.cell? ⟨g, 1, none⟩ = some (.slice A' t.length c') := (blk_cell hc 1).trans rfl
 have p1 : (0 < l.length + 1) = True := eq_true (by omega)
 clear q1 q2 hc h1 h2 hI
 go_enter Tryd.func82, Tryd.ntmps82
 go_wp2
 go_quiet (fail)
 go_wp2
 go_ret
 exact ⟨rfl, _, rfl⟩
theorem RD_drewN {w0 w : World} {g B : Nat} {l : List S25} {t : List Int} (h : RD w0 w g B l t) (m : Nat) : RD w0 (w.drewN m) g B l t :=
 RD_kept h ((Kept.refl w (fun _ => False)).drewN m) (fun h => h) (fun h => h) (fun _ h => h.elim)
theorem runes_str {w : World} {base : Nat} {A : Option Addr} {c : Nat} {t : List Int} (h : Kd.Q (Kd.int .i32) 21 w base (fun _ => True) (.slice A t.length c) t) (n : Nat) (hn : n ≤ t.length) (m : Nat) :
  (convert 87 9 (.slice A n c)).run Tryd.prog (w.drewN m) = .ok (.string (runesBytes (t.take n))) (w.drewN m) := by
 cases A with
 | none =>
  have hq := Kd.Q_reads' h
  rcases Nat.eq_zero_or_pos t.length with h0 | h0
  ·obtain rfl : t = [] := List.eq_nil_of_length_eq_zero h0
   rw [run_convert_runes_nil (w.drewN m) 87 9 21 n c Tryd.underlying87 Tryd.underlying21 Tryd.underlying9]
   simp [runesBytes]
  ·obtain ⟨ad, e, _⟩ := hq.2.2.2.2 h0
   cases e
 | some a =>
  refine run_convert_runes (w.drewN m) 87 9 21 a n c t hn Tryd.underlying87 Tryd.underlying21 Tryd.underlying9 ?_
  intro j hj
  obtain ⟨ad, e, hx⟩ := Kd.at_int (Kd.Q_reads' h).2.2 (j : Int) (by omega) (by omega)
  injection e with e
  subst e
  rw [Int.toNat_natCast] at hx
  have hr : rd t (j : Int) = t.getD j 0 := by unfold rd; rw [Int.toNat_natCast]
  rw [hr] at hx
  exact hx
theorem RD_text {w0 W : World} {g B c c' : Nat} {A A2 : Option Addr} {u : Value} {l : List S25} {t2 : List Int} (h0 : w0.heap.size ≤ g) (hc : W.heap[g]? = some (.cells #[.slice A l.length c, u] 154 (0, 0))) (h1 : l.length ≤ c) (h2 : t2.length ≤ c')
  (q1 : Kd.Q k25 25 W w0.heap.size (fun k => k = B) (.slice A l.length c) l) (q2 : Kd.Q (Kd.int .i32) 21 W w0.heap.size (fun _ => True) (.slice A2 t2.length c') t2) : RD w0 (W.setCell ⟨g, 1, none⟩ (.slice A2 t2.length c')) g B l t2 :=
 ⟨h0, A, c, A2, c', blk_put hc 1 _ rfl, h1, h2, Kd.Q_set q1 hc (by decide) 1 _, Kd.Q_set q2 hc (by decide) 1 _⟩
theorem RD_next {w0 W : World} {g B : Nat} {x : S25} {l : List S25} {t : List Int} {A3 : Option Addr} {c3 : Nat} (h : RD w0 W g B (x :: l) t) (h3 : l.length ≤ c3) (q3 : Kd.Q k25 25 W w0.heap.size (fun k => k = B) (.slice A3 l.length c3) l) : RD w0 (W.setCell ⟨g, 0, none⟩ (.slice A3 l.length c3)) g B l t := by
 obtain ⟨h0, A, c, A', c', hc, h1, h2, q1, q2⟩ := h
 exact ⟨h0, A3, c3, A', c', blk_put hc 0 _ rfl, h3, h2, Kd.Q_set q3 hc (by decide) 0 _, Kd.Q_set q2 hc (by decide) 0 _⟩
def TK (w0 w W : World) (g B : Nat) (l : List S25) (t : List Int) (s0 s1 : Int) (s2 : ByteArray) : Prop :=
 RD w0 W g B l t ∧ Below w0.heap.size w0 W ∧ Kept w W (fun k => k = g ∨ k = B) ∧ W.heap[w.heap.size + 1]? = some (.cells #[.int .i64 s0, .int .i64 s1, .string s2] 25 (0, 0)) ∧ W.heap[w.heap.size]? = some (.cells #[.int .i64 0, .int .i64 0, .string ⟨#[]⟩] 25 (0, 0))
theorem TK_drewN {w0 w W : World} {g B : Nat} {l : List S25} {t : List Int} {s0 s1 : Int} {s2 : ByteArray} (h : TK w0 w W g B l t s0 s1 s2) (m : Nat) : TK w0 w (W.drewN m) g B l t s0 s1 s2 :=
 ⟨RD_drewN h.1 m, pw_below_drewN h.2.1 m, h.2.2.1.drewN m, h.2.2.2.1, h.2.2.2.2⟩
theorem TK_step {w0 w W W' : World} {g B : Nat} {l l' : List S25} {t t' : List Int} {s0 s1 : Int} {s2 : ByteArray} (h : TK w0 w W g B l t s0 s1 s2) (hg : g < w.heap.size) (hI : RD w0 W' g B l' t') (hB : Below w0.heap.size w0 W') (hK : Kept W W' (fun k => k = g)) : TK w0 w W' g B l' t' s0 s1 s2 :=
 ⟨hI, hB, h.2.2.1.then_ hK (fun k hk => .inl (.inl hk)), blk_kept h.2.2.2.1 hK (by omega), blk_kept h.2.2.2.2 hK (by omega)⟩
theorem TK_end {w0 w W : World} {g B : Nat} {l : List S25} {t : List Int} {s0 s1 : Int} {s2 : ByteArray} (h : TK w0 w W g B l t s0 s1 s2) (hg : g < w.heap.size) (hB : B < w.heap.size ∨ B ≠ w.heap.size) (h0 : w0.heap.size ≤ w.heap.size) :
  let W' := ((W.setCell ⟨w.heap.size, 0, none⟩ (.int .i64 s0)).setCell ⟨w.heap.size, 1, none⟩ (.int .i64 s1)).setCell ⟨w.heap.size, 2, none⟩ (.string s2)
  W'.heap[w.heap.size]? = some (.cells #[.int .i64 s0, .int .i64 s1, .string s2] 25 (0, 0)) ∧ RD w0 W' g B l t ∧ Below w0.heap.size w0 W' ∧ Kept w W' (fun k => k = g ∨ k = B) := by
 obtain ⟨hI, hb, hK, _, h4⟩ := h
 have k : Kept W (((W.setCell ⟨w.heap.size, 0, none⟩ (.int .i64 s0)).setCell ⟨w.heap.size, 1, none⟩ (.int .i64 s1)).setCell ⟨w.heap.size, 2, none⟩ (.string s2)) (fun k => k = w.heap.size) :=
  (((Kept.refl W (fun k => k = w.heap.size)).setCell (p := ⟨w.heap.size, 0, none⟩) (.inl rfl) _).setCell (p := ⟨w.heap.size, 1, none⟩) (.inl rfl) _).setCell (p := ⟨w.heap.size, 2, none⟩) (.inl rfl) _
 refine ⟨blk_put (blk_put (blk_put h4 0 _ rfl) 1 _ rfl) 2 _ rfl, ?_, ((hb.setCell (p := ⟨w.heap.size, 0, none⟩) h0 _).setCell (p := ⟨w.heap.size, 1, none⟩) h0 _).setCell (p := ⟨w.heap.size, 2, none⟩) h0 _, hK.then_ k (fun j hj => .inr (by omega))⟩
 have hS : ∀ j, j = w.heap.size → ∃ cells q, W.heap[j]? = some (.cells cells q (0, 0)) ∧ q ≠ 21 := by
  intro j hj
  subst hj
  exact ⟨_, _, h4, by decide⟩
 exact RD_kept hI k (by omega) (by omega) hS
theorem TK_text {w0 w : World} {g B c : Nat} {A A' A2 : Option Addr} {c' : Nat} {l : List S25} {t : List Int} {n : Nat} {s : ByteArray} (hI : RD w0 w g B l t) (hc : w.heap[g]? = some (.cells #[.slice A l.length c, .slice A' t.length c'] 154 (0, 0))) (h1 : l.length ≤ c) (h2 : t.length ≤ c')
  (q1 : Kd.Q k25 25 w w0.heap.size (fun k => k = B) (.slice A l.length c) l) (q2 : Kd.Q (Kd.int .i32) 21 w w0.heap.size (fun _ => True) (.slice A' t.length c') t) (hB : Below w0.heap.size w0 w) (hn : n ≤ t.length)
  (hA2 : (if c' = n then A' else A'.map (·.add (n * 1))) = A2) :
  TK w0 w ((((w.alloc (.cells #[.int .i64 0, .int .i64 0, .string ⟨#[]⟩] 25)).alloc (.cells #[.int .i64 2, .int .i64 0, .string s] 25)).setCell ⟨g, 1, none⟩ (.slice A2 (t.length - n) (c' - n))).drew) g B l (t.drop n) 2 0 s := by
 have hg := RD_lt hI
 have hq := Kd.Q_drop (k := n) (Kd.Q_alloc (Kd.Q_alloc q2 (.cells #[.int .i64 0, .int .i64 0, .string ⟨#[]⟩] 25)) (.cells #[.int .i64 2, .int .i64 0, .string s] 25)) hn
 have hA3 : (if c' = n then A' else A'.map (·.add (n * (Kd.int .i32).sz))) = A2 := hA2
 rw [hA3] at hq
 have hl : (t.drop n).length = t.length - n := List.length_drop
 rw [← hl] at hq ⊢
 have hc2 := blk_below hc (below_alloc (below_alloc (Below.refl w.heap.size w) (.cells #[.int .i64 0, .int .i64 0, .string ⟨#[]⟩] 25)) (.cells #[.int .i64 2, .int .i64 0, .string s] 25))
 have hR := RD_text (l := l) hI.1 hc2 h1 (by rw [hl]; omega) (Kd.Q_alloc (Kd.Q_alloc q1 _) _) hq
 refine ⟨RD_drewN hR 1, pw_below_drewN ((below_alloc (below_alloc hB _) _).setCell (p := ⟨g, 1, none⟩) hI.1 _) 1, ((((Kept.refl w _).alloc _).alloc _).setCell (p := ⟨g, 1, none⟩) (.inl (.inl rfl)) _).drewN 1, ?_, ?_⟩
 ·refine (Below.heap_setCell _ _ _ _ (by show w.heap.size + 1 ≠ g; omega)).trans ?_
  exact heap_alloc2_new w _ _
 ·refine (Below.heap_setCell _ _ _ _ (by show w.heap.size ≠ g; omega)).trans ?_
  refine (heap_alloc_old _ _ ?_).trans (heap_alloc_new w _)
  show w.heap.size < (w.heap.push _).size
  rw [Array.size_push]; omega
theorem compose_Of.cut1 (c : Nat) (A : Option Addr) (l : List S25) (W : World) : (Instr.slice 27 (.slice A (l.length + 1) c) (some (.int .i64 1)) none none).run Tryd.prog W = .ok (.slice (if c = 1 then A else A.map (·.add 3)) l.length (c - 1)) W := by
 obtain ⟨i0, hi0, _, hsz, _⟩ := info_parts info25
 have h := cut_from (P := Tryd.prog) 27 25 .i64 Tryd.underlying27 hi0 3 hsz A (l.length + 1) c 1 (by omega) (by omega) W
 exact h
theorem compose_Of.q1 {w : World} {base B c : Nat} {A : Option Addr} {x : S25} {l : List S25} (h : Kd.Q k25 25 w base (fun k => k = B) (.slice A (l.length + 1) c) (x :: l)) : Kd.Q k25 25 w base (fun k => k = B) (.slice (if c = 1 then A else A.map (·.add 3)) l.length (c - 1)) l := by
 have h2 := Kd.Q_drop (k := 1) h (by simp)
 exact h2
theorem compose_Of.cutq {w : World} {base B c : Nat} {A : Option Addr} {x : S25} {l : List S25} (hc : l.length + 1 ≤ c) (h : Kd.Q k25 25 w base (fun k => k = B) (.slice A (l.length + 1) c) (x :: l)) :
  ∃ (A3 : Option Addr) (c3 : Nat), (∀ W, (Instr.slice 27 (.slice A (l.length + 1) c) (some (.int .i64 1)) none none).run Tryd.prog W = .ok (.slice A3 l.length c3) W) ∧ Kd.Q k25 25 w base (fun k => k = B) (.slice A3 l.length c3) l ∧ l.length ≤ c3 :=
 ⟨_, _, compose_Of.cut1 c A l, compose_Of.q1 h, by omega⟩
theorem compose_Of.le_tail {x : S25} {l : List S25} {n : Nat} (h : normal_Of.t (x :: l) ≤ n) : normal_Of.t l ≤ n := by rw [normal_Of.t] at h; omega
theorem compose_Of.cells {w : World} {g : Nat} {a b c : Value} {t : TypeId} (h : w.heap[g]? = some (.cells #[a, b, c] t (0, 0))) : w.cell? ⟨g, 0, none⟩ = some a ∧ w.cell? ⟨g, 1, none⟩ = some b ∧ w.cell? ⟨g, 2, none⟩ = some c :=
 ⟨(blk_cell h 0).trans rfl, (blk_cell h 1).trans rfl, (blk_cell h 2).trans rfl⟩
set_option maxHeartbeats 8000000 in
set_option maxRecDepth 100000 in
theorem compose_Of.takeText (w0 w : World) (g B : Nat) (x : S25) (l : List S25) (t : List Int) (n : Nat) (hI : RD w0 w g B (x :: l) t) (hB : Below w0.heap.size w0 w) (hk : x.f0 = 2) (hn : n ≤ t.length) (hs : normal_Of.t (x :: l) ≤ 70368744177664) :
  Calls Tryd.prog 81 #[.pointer (some ⟨g, 0, none⟩), .int .i64 n] w fun e w' => e = .returned (.agg #[.int .i64 2, .int .i64 0, .string (runesBytes (t.take n))]) ∧ RD w0 w' g B (if wrap64 (x.f1 + ((t.drop n).length : Int)) = 0 then l else x :: l) (if wrap64 (x.f1 + ((t.drop n).length : Int)) = 0 then loadT l else t.drop n) ∧ Below w0.heap.size w0 w' ∧ Kept w w' (fun k => k = g ∨ k = B) := by
 obtain ⟨o, c, A', c', hc, h1, h2, q1, q2, x0, x1, x2, f1, _, hBl, _⟩ := RD_open hI
 have k0 : w.cell? ⟨g, 0, none⟩ = some (.slice (some ⟨B, o, none⟩) (l.length + 1) c) := (blk_cell hc 0).trans rfl
 have k1 : w.cell? ⟨g, 1, none⟩ = some (.slice A' t.length c') := (blk_cell hc 1).trans rfl
 have fz : w.frozen? ⟨g, 1, none⟩ = false := blk_frozen hc 1
 have p1 : (0 < l.length + 1) = True := eq_true (by omega)
 have hcv := fun (o1 o2 : Obj) (m : Nat) => runes_str (Kd.Q_alloc (Kd.Q_alloc q2 o1) o2) n hn m
 have hcv1 := fun (o1 o2 : Obj) => (show (convert 87 9 (.slice A' n c')).run Tryd.prog (((w.alloc o1).alloc o2).drew) = .ok (.string (runesBytes (t.take n))) (((w.alloc o1).alloc o2).drew) from hcv o1 o2 1)
 have hcv2 := fun (o1 o2 : Obj) => (show (convert 87 9 (.slice A' n c')).run Tryd.prog (((w.alloc o1).alloc o2).drew.drew) = .ok (.string (runesBytes (t.take n))) (((w.alloc o1).alloc o2).drew.drew) from hcv o1 o2 2)
 obtain ⟨i0, hi0, _, hsz, _⟩ := info_parts info21
 have hcut := cut_from (P := Tryd.prog) 87 21 .i64 Tryd.underlying87 hi0 1 hsz A' t.length c' (n : Int) (by omega) (by omega)
 have hcut2 := cut_to (P := Tryd.prog) 87 21 .i64 Tryd.underlying87 hi0 A' t.length c' (n : Int) (by omega) (by omega) h2
 rw [Int.toNat_natCast] at hcut2
 obtain ⟨A2, hA2⟩ : ∃ A2, (if c' = ((n : Int)).toNat then A' else A'.map (·.add (((n : Int)).toNat * 1))) = A2 := ⟨_, rfl⟩
 rw [hA2, Int.toNat_natCast] at hcut
 have ha := fun (o1 : Obj) => blk_below hc (below_alloc (Below.refl w.heap.size w) o1)
 have hb := fun (o1 o2 : Obj) => blk_below hc (below_alloc (below_alloc (Below.refl w.heap.size w) o1) o2)
 have k0a : ∀ o1 : Obj, (w.alloc o1).cell? ⟨g, 0, none⟩ = some (.slice (some ⟨B, o, none⟩) (l.length + 1) c) := fun o1 => (blk_cell (ha o1) 0).trans rfl
 have k1b : ∀ o1 o2 : Obj, ((w.alloc o1).alloc o2).cell? ⟨g, 1, none⟩ = some (.slice A' t.length c') := fun o1 o2 => (blk_cell (hb o1 o2) 1).trans rfl
 have k0b : ∀ o1 o2 : Obj, ((w.alloc o1).alloc o2).cell? ⟨g, 0, none⟩ = some (.slice (some ⟨B, o, none⟩) (l.length + 1) c) := fun o1 o2 => (blk_cell (hb o1 o2) 0).trans rfl
 have fzb : ∀ o1 o2 : Obj, ((w.alloc o1).alloc o2).frozen? ⟨g, 1, none⟩ = false := fun o1 o2 => blk_frozen (hb o1 o2) 1
 have x0a : ∀ o1 : Obj, (w.alloc o1).cell? ⟨B, o, none⟩ = some (.int .i64 x.f0) := fun o1 => pw_cell_below (below_alloc (Below.refl _ _) o1) x0
 clear ha hb
 have HI := am hI; have HB := am hB; have HC := am hc; have HQ2 := am q2; have HQ1 := am q1; have H1 := am h1; have H2 := am h2; have HN := am hn; have HS := am hs; have HA2 := am hA2
 obtain ⟨k, f1', f2'⟩ := x
 dsimp only at hk
 subst hk
 clear q1 q2 hc h1 h2 hI hB hn hs hi0 hsz hA2
 obtain ⟨t2, ht2⟩ : ∃ t2, t.drop n = t2 := ⟨_, rfl⟩
 obtain ⟨str, hstr⟩ : ∃ str, runesBytes (t.take n) = str := ⟨_, rfl⟩
 simp only [hstr] at hcv hcv1 hcv2
 rw [ht2, hstr]
 dsimp only
 obtain ⟨l3, hl3⟩ : ∃ l3, (if wrap64 (f1' + (t2.length : Int)) = 0 then l else (⟨2, f1', f2'⟩ : S25) :: l) = l3 := ⟨_, rfl⟩
 obtain ⟨t3, ht3⟩ : ∃ t3, (if wrap64 (f1' + (t2.length : Int)) = 0 then loadT l else t2) = t3 := ⟨_, rfl⟩
 rw [hl3, ht3]
 have HT2 := am ht2; have HL3 := am hl3; have HT33 := am ht3
 clear ht2 hstr hl3 ht3
 go_enter Tryd.func81, Tryd.ntmps81
 go_wp2
 go_region
 have hT := TK_text (s := str) HI.out HC.out H1.out H2.out HQ1.out HQ2.out HB.out HN.out HA2.out
 rw [HT2.out] at hT
 have HT3 := am hT
 have HR3 := am hT.1
 have HGL := am (RD_lt HI.out)
 have HBL := am hBl
 clear hT hBl
 by_cases z : wrap64 (f1' + (t2.length : Int)) = 0
 ·have zb : (wrap64 (f1' + (t2.length : Int)) == 0) = true := beq_iff_eq.mpr z
  clear z
  go_wp2_with (first | (go_at_call 82; (with_reducible refine (compose_Of.size w0 _ g B (⟨2, f1', f2'⟩ : S25) l t2 HR3.out).mono ?_); rintro e w4 ⟨rfl, m, hm⟩; have HT4 := am (show TK w0 w w4 g B (⟨2, f1', f2'⟩ :: l) t2 2 0 str from by rw [hm]; exact TK_drewN HT3.out m); clear hm HT3 HR3; obtain ⟨o4, c4, A4, c4', hc4, h41, h42, q41, q42, _⟩ := RD_open HT4.out.1; have k4 : w4.cell? ⟨g, 0, none⟩ = some (.slice (some ⟨B, o4, none⟩) (l.length + 1) c4) := (blk_cell hc4 0).trans rfl; have fz4 : w4.frozen? ⟨g, 0, none⟩ = false := blk_frozen hc4 0; obtain ⟨A5, c5, hcut4, hq4, h43⟩ := compose_Of.cutq h41 q41; have HNX := am (RD_next HT4.out.1 h43 hq4); have HBX := am (HT4.out.2.1.setCell (p := ⟨g, 0, none⟩) HT4.out.1.1 (.slice A5 l.length c5)); clear hc4 h41 h42 h43 q41 q42 hq4) | (go_at_call 92; (with_reducible refine (compose_Of.load w0 _ g B l t2 HNX.out HBX.out (compose_Of.le_tail HS.out)).mono ?_); rintro e w5 ⟨rfl, hI5, hB5, hK5⟩; have HT5 := am (TK_step HT4.out HGL.out hI5 hB5 (((Kept.refl w4 (fun k => k = g)).setCell (p := ⟨g, 0, none⟩) (.inl rfl) _).then_ hK5 (fun k hk => .inl hk))); clear hI5 hB5 hK5 HT4 HNX HBX; obtain ⟨s50, s51, s52⟩ := compose_Of.cells HT5.out.2.2.2.1; obtain ⟨r50, r51, r52⟩ := compose_Of.cells HT5.out.2.2.2.2; have z50 : w5.frozen? ⟨w.heap.size, 0, none⟩ = false := blk_frozen HT5.out.2.2.2.2 0; have z51 : w5.frozen? ⟨w.heap.size, 1, none⟩ = false := blk_frozen HT5.out.2.2.2.2 1; have z52 : w5.frozen? ⟨w.heap.size, 2, none⟩ = false := blk_frozen HT5.out.2.2.2.2 2))
  have hl3 := HL3.out; have ht3 := HT33.out
  have hzz : wrap64 (f1' + (t2.length : Int)) = 0 := beq_iff_eq.mp zb
  rw [if_pos hzz] at hl3 ht3
  subst hl3; subst ht3
  obtain ⟨e1, e2, e3, e4⟩ := TK_end HT5.out HGL.out (.inl HBL.out) HB.out.size
  refine bodyPost_ret (results_cell_row rfl _ _ w.heap.size 25 #[.int .i64 2, .int .i64 0, .string str] (0, 0) _ rfl e1 Tryd.underlying25 rfl (by kernel_rfl)) rfl ?_
  exact ⟨rfl, e2, e3, e4⟩
 ·have zb : (wrap64 (f1' + (t2.length : Int)) == 0) = false := beq_eq_false_iff_ne.mpr z
  clear z
  go_wp2_with (go_at_call 82; (with_reducible refine (compose_Of.size w0 _ g B (⟨2, f1', f2'⟩ : S25) l t2 HR3.out).mono ?_); rintro e w4 ⟨rfl, m, hm⟩; have HT4 := am (show TK w0 w w4 g B (⟨2, f1', f2'⟩ :: l) t2 2 0 str from by rw [hm]; exact TK_drewN HT3.out m); clear hm HT3 HR3; obtain ⟨s50, s51, s52⟩ := compose_Of.cells HT4.out.2.2.2.1; obtain ⟨r50, r51, r52⟩ := compose_Of.cells HT4.out.2.2.2.2; have z50 : w4.frozen? ⟨w.heap.size, 0, none⟩ = false := blk_frozen HT4.out.2.2.2.2 0; have z51 : w4.frozen? ⟨w.heap.size, 1, none⟩ = false := blk_frozen HT4.out.2.2.2.2 1; have z52 : w4.frozen? ⟨w.heap.size, 2, none⟩ = false := blk_frozen HT4.out.2.2.2.2 2)
  have hl3 := HL3.out; have ht3 := HT33.out
  have hzz : ¬ wrap64 (f1' + (t2.length : Int)) = 0 := beq_eq_false_iff_ne.mp zb
  rw [if_neg hzz] at hl3 ht3
  subst hl3; subst ht3
  obtain ⟨e1, e2, e3, e4⟩ := TK_end HT4.out HGL.out (.inl HBL.out) HB.out.size
  refine bodyPost_ret (results_cell_row rfl _ _ w.heap.size 25 #[.int .i64 2, .int .i64 0, .string str] (0, 0) _ rfl e1 Tryd.underlying25 rfl (by kernel_rfl)) rfl ?_
  exact ⟨rfl, e2, e3, e4⟩
theorem compose_Of.froz {w W : World} {B : Nat} {t : TypeId} (h : ∃ cells, w.heap[B]? = some (.cells cells t (0, 0))) (hb : Below w.heap.size w W) (j : Nat) : W.frozen? ⟨B, j, none⟩ = false := by
 obtain ⟨cells, h⟩ := h
 exact blk_frozen (blk_below h hb) j
theorem TK_num {w0 w : World} {g B o c c' : Nat} {A' : Option Addr} {x : S25} {l : List S25} {t : List Int} {n : Int} (v1 : Int) (hI : RD w0 w g B (x :: l) t) (hB : Below w0.heap.size w0 w)
  (hc : w.heap[g]? = some (.cells #[.slice (some ⟨B, o, none⟩) (l.length + 1) c, .slice A' t.length c'] 154 (0, 0))) (h1 : l.length + 1 ≤ c) (h2 : t.length ≤ c')
  (q1 : Kd.Q k25 25 w w0.heap.size (fun k => k = B) (.slice (some ⟨B, o, none⟩) (l.length + 1) c) (x :: l)) (q2 : Kd.Q (Kd.int .i32) 21 w w0.heap.size (fun _ => True) (.slice A' t.length c') t)
  (hBc : ∃ cells, w.heap[B]? = some (.cells cells 25 (0, 0))) (hBb : w0.heap.size ≤ B) :
  TK w0 w ((((w.alloc (.cells #[.int .i64 0, .int .i64 0, .string ⟨#[]⟩] 25)).alloc (.cells #[.int .i64 x.f0, .int .i64 n, .string ⟨#[]⟩] 25)).setCell ⟨B, o + 1, none⟩ (.int .i64 v1))) g B (⟨x.f0, v1, x.f2⟩ :: l) t x.f0 n ⟨#[]⟩ := by
 have hg := RD_lt hI
 obtain ⟨cells, hcl⟩ := hBc
 have hBl := blk_lt hcl
 have hb := below_alloc (below_alloc (Below.refl w.heap.size w) (.cells #[.int .i64 0, .int .i64 0, .string ⟨#[]⟩] 25)) (.cells #[.int .i64 x.f0, .int .i64 n, .string ⟨#[]⟩] 25)
 have hc2 := blk_below hc hb
 have hcl2 := blk_below hcl hb
 have q1' := Kd.Q_below q1 hb
 have q2' := Kd.Q_below q2 hb
 have hne : g ≠ B := by
  intro e
  subst e
  rw [hc] at hcl
  injection hcl with hcl
  injection hcl with _ hcl
  exact absurd hcl (by decide)
 obtain ⟨ce, hce, hM, hcc, hfr⟩ := Kd.Q_elem q1' z25 0 (by omega) (by simp)
 obtain rfl := k25_openM hM
 obtain ⟨q3, hg3⟩ := Kd.Q_seg q1' 0 (by omega) (by simp) (seg := [.int .i64 v1]) (j := 1) hce hcc (show 2 ≤ 3 from by decide) (x' := (⟨x.f0, v1, x.f2⟩ : S25)) (k25_mkM _ _ _ (⟨x.f0, v1, x.f2⟩ : S25)) (fun _ hk => hk)
 refine ⟨⟨hI.1, some ⟨B, o, none⟩, c, A', c', ?_, h1, h2, q3, Kd.Q_set q2' hcl2 (by decide) (o + 1) _⟩, (below_alloc (below_alloc hB _) _).setCell (p := ⟨B, o + 1, none⟩) hBb _, (((Kept.refl w (fun k => k = g ∨ k = B)).alloc _).alloc _).setCell (p := ⟨B, o + 1, none⟩) (.inl (.inr rfl)) _, ?_, ?_⟩
 ·exact (Below.heap_setCell _ _ _ _ hne).trans hc2
 ·refine (Below.heap_setCell _ _ _ _ (by show w.heap.size + 1 ≠ B; omega)).trans ?_
  exact heap_alloc2_new w _ _
 ·refine (Below.heap_setCell _ _ _ _ (by show w.heap.size ≠ B; omega)).trans ?_
  refine (heap_alloc_old _ _ ?_).trans (heap_alloc_new w _)
  show w.heap.size < (w.heap.push _).size
  rw [Array.size_push]; omega
set_option maxHeartbeats 8000000 in
set_option maxRecDepth 100000 in
theorem compose_Of.takeN (w0 w : World) (g B : Nat) (x : S25) (l : List S25) (t : List Int) (n : Int) (hI : RD w0 w g B (x :: l) t) (hB : Below w0.heap.size w0 w) (hk : x.f0 ≠ 2) (hs : normal_Of.t (x :: l) ≤ 70368744177664) :
  Calls Tryd.prog 81 #[.pointer (some ⟨g, 0, none⟩), .int .i64 n] w fun e w' => e = .returned (.agg #[.int .i64 x.f0, .int .i64 n, .string ⟨#[]⟩]) ∧ RD w0 w' g B (if wrap64 (wrap64 (x.f1 - n) + (t.length : Int)) = 0 then l else ⟨x.f0, wrap64 (x.f1 - n), x.f2⟩ :: l) (if wrap64 (wrap64 (x.f1 - n) + (t.length : Int)) = 0 then loadT l else t) ∧ Below w0.heap.size w0 w' ∧ Kept w w' (fun k => k = g ∨ k = B) := by
 obtain ⟨o, c, A', c', hc, h1, h2, q1, q2, x0, x1, x2, f1, hBb, hBl, hg0, hBc⟩ := RD_open hI
 have k0 : w.cell? ⟨g, 0, none⟩ = some (.slice (some ⟨B, o, none⟩) (l.length + 1) c) := (blk_cell hc 0).trans rfl
 have k1 : w.cell? ⟨g, 1, none⟩ = some (.slice A' t.length c') := (blk_cell hc 1).trans rfl
 have fz : w.frozen? ⟨g, 1, none⟩ = false := blk_frozen hc 1
 have p1 : (0 < l.length + 1) = True := eq_true (by omega)
 have ha := fun (o1 : Obj) => blk_below hc (below_alloc (Below.refl w.heap.size w) o1)
 have hb := fun (o1 o2 : Obj) => blk_below hc (below_alloc (below_alloc (Below.refl w.heap.size w) o1) o2)
 have k0a : ∀ o1 : Obj, (w.alloc o1).cell? ⟨g, 0, none⟩ = some (.slice (some ⟨B, o, none⟩) (l.length + 1) c) := fun o1 => (blk_cell (ha o1) 0).trans rfl
 have k1b : ∀ o1 o2 : Obj, ((w.alloc o1).alloc o2).cell? ⟨g, 1, none⟩ = some (.slice A' t.length c') := fun o1 o2 => (blk_cell (hb o1 o2) 1).trans rfl
 have k0b : ∀ o1 o2 : Obj, ((w.alloc o1).alloc o2).cell? ⟨g, 0, none⟩ = some (.slice (some ⟨B, o, none⟩) (l.length + 1) c) := fun o1 o2 => (blk_cell (hb o1 o2) 0).trans rfl
 have fzb : ∀ o1 o2 : Obj, ((w.alloc o1).alloc o2).frozen? ⟨g, 1, none⟩ = false := fun o1 o2 => blk_frozen (hb o1 o2) 1
 have x0a : ∀ o1 : Obj, (w.alloc o1).cell? ⟨B, o, none⟩ = some (.int .i64 x.f0) := fun o1 => pw_cell_below (below_alloc (Below.refl _ _) o1) x0
 have x1b : ∀ o1 o2 : Obj, ((w.alloc o1).alloc o2).cell? ⟨B, o + 1, none⟩ = some (.int .i64 x.f1) := fun o1 o2 => pw_cell_below (below_alloc (below_alloc (Below.refl _ _) o1) o2) x1
 have f1b : ∀ o1 o2 : Obj, ((w.alloc o1).alloc o2).frozen? ⟨B, o + 1, none⟩ = false := fun o1 o2 => compose_Of.froz hBc (below_alloc (below_alloc (Below.refl _ _) o1) o2) _
 have HBC := am hBc
 clear ha hb hBc
 have HI := am hI; have HB := am hB; have HC := am hc; have HQ2 := am q2; have HQ1 := am q1; have H1 := am h1; have H2 := am h2; have HS := am hs; have HBB := am hBb; have HGL := am (RD_lt hI); have HBL := am hBl
 have kb : (x.f0 == 2) = false := beq_eq_false_iff_ne.mpr hk
 clear q1 q2 hc h1 h2 hI hB hs hk hBb hBl hg0
 obtain ⟨v1, hv1⟩ : ∃ v1, wrap64 (x.f1 - n) = v1 := ⟨_, rfl⟩
 rw [hv1]
 obtain ⟨l3, hl3⟩ : ∃ l3, (if wrap64 (v1 + (t.length : Int)) = 0 then l else (⟨x.f0, v1, x.f2⟩ : S25) :: l) = l3 := ⟨_, rfl⟩
 obtain ⟨t3, ht3⟩ : ∃ t3, (if wrap64 (v1 + (t.length : Int)) = 0 then loadT l else t) = t3 := ⟨_, rfl⟩
 rw [hl3, ht3]
 have HL3 := am hl3; have HT33 := am ht3
 clear hl3 ht3
 go_enter Tryd.func81, Tryd.ntmps81
 have hT := TK_num (n := n) v1 HI.out HB.out HC.out H1.out H2.out HQ1.out HQ2.out HBC.out HBB.out
 have HT3 := am hT
 have HR3 := am hT.1
 clear hT
 by_cases z : wrap64 (v1 + (t.length : Int)) = 0
 ·have zb : (wrap64 (v1 + (t.length : Int)) == 0) = true := beq_iff_eq.mpr z
  clear z
  go_wp2_with (first | (go_at_call 82; (with_reducible refine (compose_Of.size w0 _ g B (⟨x.f0, v1, x.f2⟩ : S25) l t HR3.out).mono ?_); rintro e w4 ⟨rfl, m, hm⟩; have HT4 := am (show TK w0 w w4 g B (⟨x.f0, v1, x.f2⟩ :: l) t x.f0 n ⟨#[]⟩ from by rw [hm]; exact TK_drewN HT3.out m); clear hm HT3 HR3; obtain ⟨o4, c4, A4, c4', hc4, h41, h42, q41, q42, _⟩ := RD_open HT4.out.1; have k4 : w4.cell? ⟨g, 0, none⟩ = some (.slice (some ⟨B, o4, none⟩) (l.length + 1) c4) := (blk_cell hc4 0).trans rfl; have fz4 : w4.frozen? ⟨g, 0, none⟩ = false := blk_frozen hc4 0; obtain ⟨A5, c5, hcut4, hq4, h43⟩ := compose_Of.cutq h41 q41; have HNX := am (RD_next HT4.out.1 h43 hq4); have HBX := am (HT4.out.2.1.setCell (p := ⟨g, 0, none⟩) HT4.out.1.1 (.slice A5 l.length c5)); clear hc4 h41 h42 h43 q41 q42 hq4) | (go_at_call 92; (with_reducible refine (compose_Of.load w0 _ g B l t HNX.out HBX.out (compose_Of.le_tail HS.out)).mono ?_); rintro e w5 ⟨rfl, hI5, hB5, hK5⟩; have HT5 := am (TK_step HT4.out HGL.out hI5 hB5 (((Kept.refl w4 (fun k => k = g)).setCell (p := ⟨g, 0, none⟩) (.inl rfl) _).then_ hK5 (fun k hk => .inl hk))); clear hI5 hB5 hK5 HT4 HNX HBX; obtain ⟨s50, s51, s52⟩ := compose_Of.cells HT5.out.2.2.2.1; obtain ⟨r50, r51, r52⟩ := compose_Of.cells HT5.out.2.2.2.2; have z50 : w5.frozen? ⟨w.heap.size, 0, none⟩ = false := blk_frozen HT5.out.2.2.2.2 0; have z51 : w5.frozen? ⟨w.heap.size, 1, none⟩ = false := blk_frozen HT5.out.2.2.2.2 1; have z52 : w5.frozen? ⟨w.heap.size, 2, none⟩ = false := blk_frozen HT5.out.2.2.2.2 2))
  have hl3 := HL3.out; have ht3 := HT33.out
  have hzz : wrap64 (v1 + (t.length : Int)) = 0 := beq_iff_eq.mp zb
  rw [if_pos hzz] at hl3 ht3
  subst hl3; subst ht3
  obtain ⟨e1, e2, e3, e4⟩ := TK_end HT5.out HGL.out (.inl HBL.out) HB.out.size
  refine bodyPost_ret (results_cell_row rfl _ _ w.heap.size 25 #[.int .i64 x.f0, .int .i64 n, .string ⟨#[]⟩] (0, 0) _ rfl e1 Tryd.underlying25 rfl (by kernel_rfl)) rfl ?_
  exact ⟨rfl, e2, e3, e4⟩
 ·have zb : (wrap64 (v1 + (t.length : Int)) == 0) = false := beq_eq_false_iff_ne.mpr z
  clear z
  go_wp2_with (go_at_call 82; (with_reducible refine (compose_Of.size w0 _ g B (⟨x.f0, v1, x.f2⟩ : S25) l t HR3.out).mono ?_); rintro e w4 ⟨rfl, m, hm⟩; have HT4 := am (show TK w0 w w4 g B (⟨x.f0, v1, x.f2⟩ :: l) t x.f0 n ⟨#[]⟩ from by rw [hm]; exact TK_drewN HT3.out m); clear hm HT3 HR3; obtain ⟨s50, s51, s52⟩ := compose_Of.cells HT4.out.2.2.2.1; obtain ⟨r50, r51, r52⟩ := compose_Of.cells HT4.out.2.2.2.2; have z50 : w4.frozen? ⟨w.heap.size, 0, none⟩ = false := blk_frozen HT4.out.2.2.2.2 0; have z51 : w4.frozen? ⟨w.heap.size, 1, none⟩ = false := blk_frozen HT4.out.2.2.2.2 1; have z52 : w4.frozen? ⟨w.heap.size, 2, none⟩ = false := blk_frozen HT4.out.2.2.2.2 2)
  have hl3 := HL3.out; have ht3 := HT33.out
  have hzz : ¬ wrap64 (v1 + (t.length : Int)) = 0 := beq_eq_false_iff_ne.mp zb
  rw [if_neg hzz] at hl3 ht3
  subst hl3; subst ht3
  obtain ⟨e1, e2, e3, e4⟩ := TK_end HT4.out HGL.out (.inl HBL.out) HB.out.size
  refine bodyPost_ret (results_cell_row rfl _ _ w.heap.size 25 #[.int .i64 x.f0, .int .i64 n, .string ⟨#[]⟩] (0, 0) _ rfl e1 Tryd.underlying25 rfl (by kernel_rfl)) rfl ?_
  exact ⟨rfl, e2, e3, e4⟩
theorem compose_Of.cells2 {w : World} {g : Nat} {a b : Value} {t : TypeId} (h : w.heap[g]? = some (.cells #[a, b] t (0, 0))) : w.cell? ⟨g, 0, none⟩ = some a ∧ w.cell? ⟨g, 1, none⟩ = some b := ⟨(blk_cell h 0).trans rfl, (blk_cell h 1).trans rfl⟩
def compose_Of.sz : List S25 → List Int → Option Int
 | [], _ => none
 | x :: _, t => some (wrap64 (x.f1 + (t.length : Int)))
def compose_Of.tk : List S25 → List Int → Int → Option (S25 × List S25 × List Int)
 | [], _, _ => none
 | x :: l, t, n => if x.f0 = 2 then (if 0 ≤ n ∧ n ≤ (t.length : Int) then some (⟨2, 0, runesBytes (t.take n.toNat)⟩, (if wrap64 (x.f1 + ((t.drop n.toNat).length : Int)) = 0 then l else x :: l), (if wrap64 (x.f1 + ((t.drop n.toNat).length : Int)) = 0 then loadT l else t.drop n.toNat)) else none)
  else some (⟨x.f0, n, ⟨#[]⟩⟩, (if wrap64 (wrap64 (x.f1 - n) + (t.length : Int)) = 0 then l else ⟨x.f0, wrap64 (x.f1 - n), x.f2⟩ :: l), (if wrap64 (wrap64 (x.f1 - n) + (t.length : Int)) = 0 then loadT l else t))
def compose_Of.l : Nat → List S25 → List Int → List S25 → List Int → List S25 → Option (List S25)
 | 0, _, _, _, _, _ => none
 | k + 1, xl, xt, yl, yt, out =>
  if out.length < 1000000000 then
   if kindT yl = 2 then (compose_Of.sz yl yt).bind fun n => (compose_Of.tk yl yt n).bind fun r => compose_Of.l k xl xt r.2.1 r.2.2 (out ++ [r.1])
   else if kindT xl = 3 then (compose_Of.sz xl xt).bind fun n => (compose_Of.tk xl xt n).bind fun r => compose_Of.l k r.2.1 r.2.2 yl yt (out ++ [r.1])
   else if kindT xl = 0 then some out
   else if kindT yl = 0 then some out
   else (compose_Of.sz xl xt).bind fun n1 => (compose_Of.sz yl yt).bind fun n2 => (compose_Of.tk xl xt (mn n1 n2)).bind fun p => (compose_Of.tk yl yt (mn n1 n2)).bind fun q =>
    if q.1.f0 = 1 then compose_Of.l k p.2.1 p.2.2 q.2.1 q.2.2 (out ++ [p.1]) else if p.1.f0 = 1 then compose_Of.l k p.2.1 p.2.2 q.2.1 q.2.2 (out ++ [q.1]) else compose_Of.l k p.2.1 p.2.2 q.2.1 q.2.2 out
  else none
theorem compose_Of.mono_l : ∀ (k : Nat) (xl : List S25) (xt : List Int) (yl : List S25) (yt : List Int) (out : List S25), LeO (compose_Of.l k xl xt yl yt out) (compose_Of.l (k + 1) xl xt yl yt out)
 | 0, _, _, _, _, _ => fun r h => by simp [compose_Of.l] at h
 | k + 1, xl, xt, yl, yt, out => by
  have ih := compose_Of.mono_l k
  unfold compose_Of.l
  refine LeO.ite (LeO.ite (LeO.bind (LeO.refl _) fun n => LeO.bind (LeO.refl _) fun r => ih _ _ _ _ _) (LeO.ite (LeO.bind (LeO.refl _) fun n => LeO.bind (LeO.refl _) fun r => ih _ _ _ _ _) (LeO.ite (LeO.refl _) (LeO.ite (LeO.refl _) (LeO.bind (LeO.refl _) fun n1 => LeO.bind (LeO.refl _) fun n2 => LeO.bind (LeO.refl _) fun p => LeO.bind (LeO.refl _) fun q => LeO.ite (ih _ _ _ _ _) (LeO.ite (ih _ _ _ _ _) (ih _ _ _ _ _))))))) (LeO.none _)
theorem compose_Of.take (w0 w : World) (g B : Nat) (l : List S25) (t : List Int) (n : Int) (r : S25 × List S25 × List Int) (hI : RD w0 w g B l t) (hB : Below w0.heap.size w0 w) (hs : normal_Of.t l ≤ 70368744177664) (h : compose_Of.tk l t n = some r) :
  Calls Tryd.prog 81 #[.pointer (some ⟨g, 0, none⟩), .int .i64 n] w fun e w' => e = .returned (.agg #[.int .i64 r.1.f0, .int .i64 r.1.f1, .string r.1.f2]) ∧ RD w0 w' g B r.2.1 r.2.2 ∧ Below w0.heap.size w0 w' ∧ Kept w w' (fun k => k = g ∨ k = B) := by
 cases l with
 | nil => simp [compose_Of.tk] at h
 | cons x l =>
  rw [compose_Of.tk] at h
  by_cases c : x.f0 = 2
  ·rw [if_pos c] at h
   by_cases c2 : 0 ≤ n ∧ n ≤ (t.length : Int)
   ·rw [if_pos c2] at h
    obtain rfl := Option.some.inj h
    obtain ⟨m, rfl⟩ := Int.eq_ofNat_of_zero_le c2.1
    exact compose_Of.takeText w0 w g B x l t m hI hB c (by omega) hs
   ·rw [if_neg c2] at h; cases h
  ·rw [if_neg c] at h
   obtain rfl := Option.some.inj h
   exact compose_Of.takeN w0 w g B x l t n hI hB c hs
theorem compose_Of.size' (w0 w : World) (g B : Nat) (l : List S25) (t : List Int) (n : Int) (hI : RD w0 w g B l t) (h : compose_Of.sz l t = some n) :
  Calls Tryd.prog 82 #[.pointer (some ⟨g, 0, none⟩)] w fun e w' => e = .returned (.int .i64 n) ∧ ∃ m, w' = w.drewN m := by
 cases l with
 | nil => simp [compose_Of.sz] at h
 | cons x l =>
  obtain rfl := Option.some.inj h
  exact compose_Of.size w0 w g B x l t hI
theorem compose_Of.tk_t {l : List S25} {t : List Int} {n : Int} {r : S25 × List S25 × List Int} (h : compose_Of.tk l t n = some r) : l ≠ [] ∧ normal_Of.t r.2.1 ≤ normal_Of.t l := by
 cases l with
 | nil => simp [compose_Of.tk] at h
 | cons x l =>
  refine ⟨by simp, ?_⟩
  rw [compose_Of.tk] at h
  split at h
  ·split at h
   ·obtain rfl := Option.some.inj h
    dsimp only
    split <;> simp [normal_Of.t]
   ·cases h
  ·obtain rfl := Option.some.inj h
   dsimp only
   split <;> simp [normal_Of.t]
def CI (w0 W : World) (g1 B1 g2 B2 : Nat) (xl : List S25) (xt : List Int) (yl : List S25) (yt : List Int) (v : Value) (out : List S25) : Prop :=
 RD w0 W g1 B1 xl xt ∧ RD w0 W g2 B2 yl yt ∧ Kd.R k25 25 W w0.heap.size (fun k => k ≠ B1 ∧ k ≠ B2) v out ∧ Below w0.heap.size w0 W ∧ (g1 ≠ g2 ∧ g1 ≠ B2 ∧ B1 ≠ g2 ∧ B1 ≠ B2) ∧ B1 < W.heap.size ∧ B2 < W.heap.size ∧ normal_Of.t xl ≤ 70368744177664 ∧ normal_Of.t yl ≤ 70368744177664
theorem RD_typed {w0 W : World} {g B : Nat} {l : List S25} {t : List Int} (h : RD w0 W g B l t) : ∃ cells, W.heap[g]? = some (.cells cells 154 (0, 0)) := by
 obtain ⟨_, A, c, A', c', hc, _⟩ := h
 exact ⟨_, hc⟩
theorem RD_typed2 {w0 W : World} {g B : Nat} {l : List S25} {t : List Int} (h : RD w0 W g B l t) (hl : l ≠ []) : ∃ cells, W.heap[B]? = some (.cells cells 25 (0, 0)) := by
 cases l with
 | nil => exact absurd rfl hl
 | cons x l => exact (RD_open h).choose_spec.choose_spec.choose_spec.choose_spec.2.2.2.2.2.2.2.2.2.2.2.2
theorem CI_R {w0 W W' : World} {B1 B2 g B : Nat} {v : Value} {out : List S25} (h : Kd.R k25 25 W w0.heap.size (fun k => k ≠ B1 ∧ k ≠ B2) v out) (hk : Kept W W' (fun k => k = g ∨ k = B)) (hB : B = B1 ∨ B = B2) (hg : ∃ cells, W.heap[g]? = some (.cells cells 154 (0, 0))) :
  Kd.R k25 25 W' w0.heap.size (fun k => k ≠ B1 ∧ k ≠ B2) v out := by
 obtain ⟨cells, hg⟩ := hg
 refine Kd.R_mono (Kd.R_kept (Kd.R_types h hg (by decide)) hk ?_) (fun k hk => hk.1)
 intro k hk1 hk2
 rcases hk2 with e | e
 ·exact hk1.2 e
 ·rcases hB with hB | hB
  ·exact hk1.1.1 (by omega)
  ·exact hk1.1.2 (by omega)
theorem CI_y {w0 W W' : World} {g1 B1 g2 B2 : Nat} {xl : List S25} {xt : List Int} {yl yl' : List S25} {yt yt' : List Int} {v : Value} {out : List S25} (h : CI w0 W g1 B1 g2 B2 xl xt yl yt v out) (hI : RD w0 W' g2 B2 yl' yt') (hB : Below w0.heap.size w0 W') (hK : Kept W W' (fun k => k = g2 ∨ k = B2)) (hne : yl ≠ []) (ht : normal_Of.t yl' ≤ normal_Of.t yl) :
  CI w0 W' g1 B1 g2 B2 xl xt yl' yt' v out := by
 obtain ⟨h1, h2, h3, h4, ⟨d1, d2, d3, d4⟩, b1, b2, t1, t2⟩ := h
 refine ⟨RD_kept h1 hK (by omega) (by omega) ?_, hI, CI_R h3 hK (.inr rfl) (RD_typed h2), hB, ⟨d1, d2, d3, d4⟩, Nat.lt_of_lt_of_le b1 hK.1, Nat.lt_of_lt_of_le b2 hK.1, t1, Nat.le_trans ht t2⟩
 intro k hk
 rcases hk with rfl | rfl
 ·obtain ⟨c, e⟩ := RD_typed h2; exact ⟨c, _, e, by decide⟩
 ·obtain ⟨c, e⟩ := RD_typed2 h2 hne; exact ⟨c, _, e, by decide⟩
theorem CI_x {w0 W W' : World} {g1 B1 g2 B2 : Nat} {xl xl' : List S25} {xt xt' : List Int} {yl : List S25} {yt : List Int} {v : Value} {out : List S25} (h : CI w0 W g1 B1 g2 B2 xl xt yl yt v out) (hI : RD w0 W' g1 B1 xl' xt') (hB : Below w0.heap.size w0 W') (hK : Kept W W' (fun k => k = g1 ∨ k = B1)) (hne : xl ≠ []) (ht : normal_Of.t xl' ≤ normal_Of.t xl) :
  CI w0 W' g1 B1 g2 B2 xl' xt' yl yt v out := by
 obtain ⟨h1, h2, h3, h4, ⟨d1, d2, d3, d4⟩, b1, b2, t1, t2⟩ := h
 refine ⟨hI, RD_kept h2 hK (by omega) (by omega) ?_, CI_R h3 hK (.inl rfl) (RD_typed h1), hB, ⟨d1, d2, d3, d4⟩, Nat.lt_of_lt_of_le b1 hK.1, Nat.lt_of_lt_of_le b2 hK.1, Nat.le_trans ht t1, t2⟩
 intro k hk
 rcases hk with rfl | rfl
 ·obtain ⟨c, e⟩ := RD_typed h1; exact ⟨c, _, e, by decide⟩
 ·obtain ⟨c, e⟩ := RD_typed2 h1 hne; exact ⟨c, _, e, by decide⟩
theorem CI_drewN {w0 W : World} {g1 B1 g2 B2 : Nat} {xl : List S25} {xt : List Int} {yl : List S25} {yt : List Int} {v : Value} {out : List S25} (h : CI w0 W g1 B1 g2 B2 xl xt yl yt v out) (m : Nat) : CI w0 (W.drewN m) g1 B1 g2 B2 xl xt yl yt v out := by
 obtain ⟨h1, h2, h3, h4, d, b1, b2, t1, t2⟩ := h
 exact ⟨RD_drewN h1 m, RD_drewN h2 m, Kd.R_drewN h3 m, pw_below_drewN h4 m, d, b1, b2, t1, t2⟩
theorem RD_below {w0 W W1 : World} {g B : Nat} {l : List S25} {t : List Int} (h : RD w0 W g B l t) (hb : Below W.heap.size W W1) : RD w0 W1 g B l t :=
 RD_kept h (Kept.of_below hb (fun _ => False)) (fun h => h) (fun h => h) (fun _ h => h.elim)
theorem CI_below {w0 W W1 : World} {g1 B1 g2 B2 : Nat} {xl : List S25} {xt : List Int} {yl : List S25} {yt : List Int} {v : Value} {out : List S25} (h : CI w0 W g1 B1 g2 B2 xl xt yl yt v out) (hb : Below W.heap.size W W1) : CI w0 W1 g1 B1 g2 B2 xl xt yl yt v out := by
 obtain ⟨h1, h2, h3, h4, d, b1, b2, t1, t2⟩ := h
 exact ⟨RD_below h1 hb, RD_below h2 hb, Kd.R_below h3 hb, below_then h4 h4.size hb, d, Nat.lt_of_lt_of_le b1 hb.size, Nat.lt_of_lt_of_le b2 hb.size, t1, t2⟩
theorem CI_app {w0 W W1 : World} {g1 B1 g2 B2 : Nat} {xl : List S25} {xt : List Int} {yl : List S25} {yt : List Int} {v v1 : Value} {out out1 : List S25} (h : CI w0 W g1 B1 g2 B2 xl xt yl yt v out) (hO : Kd.R k25 25 W1 w0.heap.size (fun k => k ≠ B1 ∧ k ≠ B2) v1 out1) (hB : Below w0.heap.size w0 W1) (hg : W.grownBy W1 v.ownBlock) : CI w0 W1 g1 B1 g2 B2 xl xt yl yt v1 out1 := by
 obtain ⟨h1, h2, h3, h4, d, b1, b2, t1, t2⟩ := h
 have hK : Kept W W1 (fun k => v.ownBlock = some k) := Kept.of_grown hg (Kept.refl _ _) (fun k e => .inl e)
 have hty : ∀ k, v.ownBlock = some k → ∃ cells, W.heap[k]? = some (.cells cells 25 (0, 0)) := fun k e => Kd.Q_typed (Kd.Q_of_R h3) k e
 have hS : ∀ k, v.ownBlock = some k → ∃ cells q, W.heap[k]? = some (.cells cells q (0, 0)) ∧ q ≠ 21 := fun k e => by
  obtain ⟨c, e'⟩ := hty k e
  exact ⟨c, _, e', by decide⟩
 have hng : ∀ g B l t, RD w0 W g B l t → ¬ v.ownBlock = some g := fun g B l t hR e => by
  obtain ⟨c, e1⟩ := RD_typed hR
  obtain ⟨c', e2⟩ := hty g e
  rw [e1] at e2
  injection e2 with e2
  injection e2 with _ e2
  exact absurd e2 (by decide)
 exact ⟨RD_kept h1 hK (hng _ _ _ _ h1) (fun e => (h3.1 _ e).1 rfl) hS, RD_kept h2 hK (hng _ _ _ _ h2) (fun e => (h3.1 _ e).2 rfl) hS, hO, hB, d, Nat.lt_of_lt_of_le b1 hK.1, Nat.lt_of_lt_of_le b2 hK.1, t1, t2⟩
theorem CI_new {w0 w2 w3 w4 : World} {g1 B1 g2 B2 : Nat} {l0 l1 : List S25} {xt yt : List Int} (h1 : RD w0 w3 g1 B1 (normal_Of.n l0) xt) (h2 : RD w0 w4 g2 B2 (normal_Of.n l1) yt) (d : w2.heap.size ≤ g1 ∧ w2.heap.size ≤ B1 ∧ B1 < w3.heap.size) (e1 : w3.heap.size ≤ g2) (e2 : w3.heap.size ≤ B2) (e3 : B2 < w4.heap.size)
  (hb : Below w0.heap.size w0 w4) (hk : Kept w3 w4 (fun _ => False)) (t1 : normal_Of.t l0 ≤ 70368744177664) (t2 : normal_Of.t l1 ≤ 70368744177664) : CI w0 w4 g1 B1 g2 B2 (normal_Of.n l0) xt (normal_Of.n l1) yt (.slice none 0 0) [] := by
 have hg := RD_lt h1
 refine ⟨RD_kept h1 hk (fun h => h) (fun h => h) (fun _ h => h.elim), h2, Kd.R_nil _ _ _ _ _, hb, ⟨by omega, by omega, by omega, by omega⟩, Nat.lt_of_lt_of_le d.2.2 hk.1, e3, Nat.le_trans (normal_Of.t_n l0) t1, Nat.le_trans (normal_Of.t_n l1) t2⟩
theorem CI_fresh {w0 W : World} {g1 B1 g2 B2 : Nat} {xl : List S25} {xt : List Int} {yl : List S25} {yt : List Int} {v : Value} {out : List S25} (h : CI w0 W g1 B1 g2 B2 xl xt yl yt v out) : ∀ k, W.heap.size ≤ k → k ≠ B1 ∧ k ≠ B2 := by
 obtain ⟨_, _, _, _, _, b1, b2, _, _⟩ := h
 intro k hk
 omega
theorem compose_Of.room {n : Nat} (h : n < 1000000000) : (n + 1) * 32 ≤ 140737488355328 := by omega
theorem compose_Of.lt {a b : Nat} (h : a + 1 ≤ b) : a < a + 1 := by omega
theorem compose_Of.size2 (w : World) (o1 o2 : Obj) : ((w.alloc o1).alloc o2).heap.size = w.heap.size + 2 := by
 show ((w.heap.push o1).push o2).size = _
 rw [Array.size_push, Array.size_push]
def compose_Of.f (k : Nat) (l0 l1 : List S25) : Option (List S25 × Int) :=
 (op_May.f k l0).bind fun e0 => if e0 = 0 then (op_May.f k l1).bind fun e1 => (if e1 = 0 then (op_Out.f l0).bind fun n0 => (op_In.f l1).bind fun n1 => (if n0 = n1 then (if l0.length < 1000000000 ∧ l1.length < 1000000000 ∧ normal_Of.t l0 ≤ 70368744177664 ∧ normal_Of.t l1 ≤ 70368744177664 then (compose_Of.l k (normal_Of.n l0) (loadT (normal_Of.n l0)) (normal_Of.n l1) (loadT (normal_Of.n l1)) []).bind fun out => (normal_Of.f out).bind fun r => some (r, 0) else none) else some ([], 5)) else some ([], e1)) else some ([], e0)
theorem compose_Of.mono (l0 l1 : List S25) (k : Nat) : LeO (compose_Of.f k l0 l1) (compose_Of.f (k + 1) l0 l1) := by
 unfold compose_Of.f
 exact LeO.bind (op_May.mono _ _) fun e0 => LeO.ite (LeO.bind (op_May.mono _ _) fun e1 => LeO.ite (LeO.bind (LeO.refl _) fun n0 => LeO.bind (LeO.refl _) fun n1 => LeO.ite (LeO.ite (LeO.bind (compose_Of.mono_l _ _ _ _ _ _) fun out => LeO.refl _) (LeO.none _)) (LeO.refl _)) (LeO.refl _)) (LeO.refl _)
set_option maxHeartbeats 8000000 in
set_option maxRecDepth 100000 in
theorem compose_Of.calls (k : Nat) (A0 : Option Addr) (c0 : Nat) (l0 : List S25) (A1 : Option Addr) (c1 : Nat) (l1 : List S25) (r1 : List S25) (r2 : Int) (w : World) (hr0 : Kd.C k25 w A0 l0.length l0) (hc0 : l0.length ≤ c0) (hr1 : Kd.C k25 w A1 l1.length l1) (hc1 : l1.length ≤ c1) (hT : Tabs w) (h : compose_Of.f k l0 l1 = some (r1, r2)) :
  Calls Tryd.prog 44 #[.slice A0 l0.length c0, .slice A1 l1.length c1] w fun e w' => ∃ v0_ : Value, e = .returned (.tuple #[v0_, .int .i64 r2]) ∧ Kd.R k25 25 w' w.heap.size (fun _ => True) v0_ r1 ∧ Below w.heap.size w w' := by
 unfold compose_Of.f at h
 obtain ⟨e0, he0, h⟩ := Option.bind_eq_some_iff.mp h
 have HR0 := am hr0; have HC0 := am hc0; have HR1 := am hr1; have HC1 := am hc1; have HT := am hT; have HE0 := am he0
 by_cases z0 : e0 = 0
 ·subst z0
  rw [if_pos rfl] at h
  obtain ⟨e1, he1, h⟩ := Option.bind_eq_some_iff.mp h
  have HE1 := am he1
  by_cases z1 : e1 = 0
  ·subst z1
   rw [if_pos rfl] at h
   obtain ⟨n0, hn0, h⟩ := Option.bind_eq_some_iff.mp h
   obtain ⟨n1, hn1, h⟩ := Option.bind_eq_some_iff.mp h
   have HN0 := am hn0; have HN1 := am hn1
   by_cases z2 : n0 = n1
   ·rw [if_pos z2] at h
    by_cases z3 : l0.length < 1000000000 ∧ l1.length < 1000000000 ∧ normal_Of.t l0 ≤ 70368744177664 ∧ normal_Of.t l1 ≤ 70368744177664
    ·rw [if_pos z3] at h
     obtain ⟨out, hout, h⟩ := Option.bind_eq_some_iff.mp h
     obtain ⟨r, hr, h⟩ := Option.bind_eq_some_iff.mp h
     simp only [Option.some.injEq, Prod.mk.injEq] at h
     obtain ⟨rfl, rfl⟩ := h
     have z2b : (n0 != n1) = false := bne_eq_false_iff_eq.mpr z2
     have HZ3 := am z3; have HOUT := am hout; have HRR := am hr
     clear hr0 hc0 hr1 hc1 hT he0 he1 hn0 hn1 z2 z3 hout hr
     go_enter Tryd.func44, Tryd.ntmps44
     go_wp2
     go_step3
     go_wp2
     go_loopw [7, 8, 19] (fun _ _ v19 wr => ∃ j : Nat, v19 = .int .i64 j ∧ j ≤ 2 ∧ Aside0 (wr.heap[w.heap.size]? = some (.cells #[.slice A0 l0.length c0, .slice A1 l1.length c1] 27 (0, 0))) ∧ Aside0 (Below w.heap.size w wr)) (fun _ _ v19 _ => 2 - (intOf v19).toNat)
     case atStart => exact ⟨0, rfl, by omega, ⟨heap_alloc_new w _⟩, ⟨below_alloc (Below.refl _ _) _⟩⟩
     case round =>
      obtain ⟨j, rfl, hj, HS, HB⟩ := hrel
      obtain ⟨k0, k1⟩ := compose_Of.cells2 HS.out
      rcases (by omega : j = 0 ∨ j = 1 ∨ j = 2) with rfl | rfl | rfl
      ·go_wp2_with (go_at_call 46; (with_reducible refine (op_May.calls k A0 c0 l0 0 _ (Kd.C_below HR0.out HB.out) HC0.out (Tabs.below HT.out HB.out) HE0.out).mono ?_); rintro e w1 ⟨rfl, hb⟩; have HS1 := am (blk_below HS.out hb); have HB1 := am (below_then HB.out HB.out.size hb); clear hb)
       go_round
       case measure => decide
       case rel => exact ⟨1, rfl, by omega, HS1, HB1⟩
      ·go_wp2_with (go_at_call 46; (with_reducible refine (op_May.calls k A1 c1 l1 0 _ (Kd.C_below HR1.out HB.out) HC1.out (Tabs.below HT.out HB.out) HE1.out).mono ?_); rintro e w1 ⟨rfl, hb⟩; have HS1 := am (blk_below HS.out hb); have HB1 := am (below_then HB.out HB.out.size hb); clear hb)
       go_round
       case measure => decide
       case rel => exact ⟨2, rfl, by omega, HS1, HB1⟩
      ·go_wp2_with (first | (go_at_call 62; (with_reducible refine (op_Out.calls A0 c0 l0 n0 _ (Kd.C_below HR0.out HB.out) HC0.out (Tabs.below HT.out HB.out) HN0.out).mono ?_); rintro e w1 ⟨rfl, hb⟩; have HB1 := am (below_then HB.out HB.out.size hb); clear hb) | (go_at_call 20; (with_reducible refine (op_In.calls A1 c1 l1 n1 _ (Kd.C_below HR1.out HB1.out) HC1.out (Tabs.below HT.out HB1.out) HN1.out).mono ?_); rintro e w2 ⟨rfl, hb⟩; have HB2 := am (below_then HB1.out HB1.out.size hb); clear hb) | (go_at_call 79; (with_reducible refine (compose_Of.reader w w2 A0 c0 l0 (Kd.C_below HR0.out HB2.out) HC0.out HB2.out HZ3.out.1 HZ3.out.2.2.1).mono ?_); rintro e w3 ⟨g1, B1, rfl, hI, hg1, hB1, hB1', hb, hk⟩; have HX3 := am hI; have HD3 := am (And.intro hg1 (And.intro hB1 hB1')); have HB3 := am hb; clear hI hg1 hB1 hB1' hb hk) | (go_at_call 79; (with_reducible refine (compose_Of.reader w w3 A1 c1 l1 (Kd.C_below HR1.out HB3.out) HC1.out HB3.out HZ3.out.2.1 HZ3.out.2.2.2).mono ?_); rintro e w4 ⟨g2, B2, rfl, hI, hg2, hB2, hB2', hb, hk⟩; have HCI := am (CI_new HX3.out hI HD3.out hg2 hB2 hB2' hb hk HZ3.out.2.2.1 HZ3.out.2.2.2); clear hI hg2 hB2 hB2' hb hk HX3 HD3))
       go_step3
       go_wp2
       go_loopg [11] k (fun kq v11 wr => ∃ (xl : List S25) (xt : List Int) (yl : List S25) (yt : List Int) (ot : List S25), Aside0 (compose_Of.l kq xl xt yl yt ot = some out) ∧ Aside0 (CI w wr g1 B1 g2 B2 xl xt yl yt v11 ot) ∧ Aside0 (kq ≤ k))
       case atStart => exact ⟨_, _, _, _, _, HOUT, HCI, ⟨Nat.le_refl _⟩⟩
       case round =>
        clear HCI
        obtain ⟨xl, xt, yl, yt, ot, HA, HCI, HK1⟩ := hrel
        have HX := am HCI.out.1; have HY := am HCI.out.2.1
        cases gk with
        | zero => exact absurd HA.out (by simp [compose_Of.l])
        | succ k1 =>
         have H := HA.out
         clear HA
         rw [compose_Of.l] at H
         by_cases hlen : ot.length < 1000000000
         ·rw [if_pos hlen] at H
          have HLEN := am hlen
          clear hlen
          by_cases yk : kindT yl = 2
          ·rw [if_pos yk] at H
           have ykb : (kindT yl == 2) = true := beq_iff_eq.mpr yk
           clear yk
           obtain ⟨n, hn, H⟩ := Option.bind_eq_some_iff.mp H
           obtain ⟨r, hr, H⟩ := Option.bind_eq_some_iff.mp H
           have HSZ := am hn; have HTK := am hr; have HNE := am (compose_Of.tk_t hr).1; have HLE := am (compose_Of.tk_t hr).2; have H' := am H
           clear hn hr H
           go_wp2_with (first | (go_at_call 80; (with_reducible refine (compose_Of.kind w _ g2 B2 yl yt HY.out).mono ?_); rintro e w_ ⟨rfl, rfl⟩) | (go_at_call 82; (with_reducible refine (compose_Of.size' w _ g2 B2 yl yt n HY.out HSZ.out).mono ?_); rintro e w5 ⟨rfl, m_, hm⟩; have HC5 := am (show CI w w5 g1 B1 g2 B2 xl xt yl yt u11 ot from by rw [hm]; exact CI_drewN HCI.out m_); have HR5 := am (HC5.out.2.1); have HR5y := am (HC5.out.2.1); clear hm; have HC5B := am (HC5.out.2.2.2.1); have HC5T := am (HC5.out.2.2.2.2.2.2.2.2)) | (go_at_call 81; (with_reducible refine (compose_Of.take w _ g2 B2 yl yt n r HR5.out HC5B.out HC5T.out HTK.out).mono ?_); rintro e w6 ⟨rfl, hI, hb, hk⟩; have HC6 := am (CI_y HC5.out hI hb hk HNE.out HLE.out); clear hI hb hk; have HC6B := am (HC6.out.2.2.2.1); have HC6T := am (HC6.out.2.2.2.2.2.2.2.2); have HC6Y := am (HC6.out.2.1)) | ((with_reducible refine gate_builtin (b := .append) (xs := #[.tmp 42, .tmp 47]) rfl ?_); at_builtin; refine Kd.R_append k25 (w0 := w) w.heap.size rfl (.tmp 42) (.tmp 47) 27 25 (.agg #[(.int .i64 0), (.int .i64 0), (.string ⟨#[]⟩)]) 32 rfl Tryd.underlying27 info25 rfl (by decide) (by omega) u11 ot r.1 [.int .i64 (r.1).f0, .int .i64 (r.1).f1, .string (r.1).f2] (fun k_ => k_ ≠ B1 ∧ k_ ≠ B2) (fun _ => False) rfl rfl ?aP (fun _ hk => hk.elim) ?aF ?aO ?aB ?aS ?aL ?_; (case aP => exact k25_mkM _ _ _ _); (case aF => exact CI_fresh HC6.out); (case aO => exact HC6.out.2.2.1); (case aB => exact HC6.out.2.2.2.1); (case aS => exact HC6.out.2.2.2.1.size); (case aL => exact compose_Of.room HLEN.out); intro v7 w7 ho hb hg hat; have HC7 := am (CI_app HC6.out ho hb hg); clear ho hb hg hat))
           go_roundg k1
           case measure => exact compose_Of.lt HK1.out
           case rel => exact ⟨xl, xt, r.2.1, r.2.2, _, H', HC7, ⟨Nat.le_of_succ_le HK1.out⟩⟩
          ·rw [if_neg yk] at H
           have ykb : (kindT yl == 2) = false := beq_eq_false_iff_ne.mpr yk
           clear yk
           by_cases xk : kindT xl = 3
           ·rw [if_pos xk] at H
            have xkb : (kindT xl == 3) = true := beq_iff_eq.mpr xk
            clear xk
            obtain ⟨n, hn, H⟩ := Option.bind_eq_some_iff.mp H
            obtain ⟨r, hr, H⟩ := Option.bind_eq_some_iff.mp H
            have HSZ := am hn; have HTK := am hr; have HNE := am (compose_Of.tk_t hr).1; have HLE := am (compose_Of.tk_t hr).2; have H' := am H
            clear hn hr H
            go_wp2_with (first | (go_at_call 80; (with_reducible refine (compose_Of.kind w _ g2 B2 yl yt HY.out).mono ?_); rintro e w_ ⟨rfl, rfl⟩) | (go_at_call 80; (with_reducible refine (compose_Of.kind w _ g1 B1 xl xt HX.out).mono ?_); rintro e w_ ⟨rfl, rfl⟩) | (go_at_call 82; (with_reducible refine (compose_Of.size' w _ g1 B1 xl xt n HX.out HSZ.out).mono ?_); rintro e w5 ⟨rfl, m_, hm⟩; have HC5 := am (show CI w w5 g1 B1 g2 B2 xl xt yl yt u11 ot from by rw [hm]; exact CI_drewN HCI.out m_); have HR5 := am (HC5.out.1); have HR5y := am (HC5.out.2.1); clear hm; have HC5B := am (HC5.out.2.2.2.1); have HC5T := am (HC5.out.2.2.2.2.2.2.2.1)) | (go_at_call 81; (with_reducible refine (compose_Of.take w _ g1 B1 xl xt n r HR5.out HC5B.out HC5T.out HTK.out).mono ?_); rintro e w6 ⟨rfl, hI, hb, hk⟩; have HC6 := am (CI_x HC5.out hI hb hk HNE.out HLE.out); clear hI hb hk; have HC6B := am (HC6.out.2.2.2.1); have HC6T := am (HC6.out.2.2.2.2.2.2.2.2); have HC6Y := am (HC6.out.2.1)) | ((with_reducible refine gate_builtin (b := .append) (xs := #[.tmp 53, .tmp 58]) rfl ?_); at_builtin; refine Kd.R_append k25 (w0 := w) w.heap.size rfl (.tmp 53) (.tmp 58) 27 25 (.agg #[(.int .i64 0), (.int .i64 0), (.string ⟨#[]⟩)]) 32 rfl Tryd.underlying27 info25 rfl (by decide) (by omega) u11 ot r.1 [.int .i64 (r.1).f0, .int .i64 (r.1).f1, .string (r.1).f2] (fun k_ => k_ ≠ B1 ∧ k_ ≠ B2) (fun _ => False) rfl rfl ?aP (fun _ hk => hk.elim) ?aF ?aO ?aB ?aS ?aL ?_; (case aP => exact k25_mkM _ _ _ _); (case aF => exact CI_fresh HC6.out); (case aO => exact HC6.out.2.2.1); (case aB => exact HC6.out.2.2.2.1); (case aS => exact HC6.out.2.2.2.1.size); (case aL => exact compose_Of.room HLEN.out); intro v7 w7 ho hb hg hat; have HC7 := am (CI_app HC6.out ho hb hg); clear ho hb hg hat))
            go_roundg k1
            case measure => exact compose_Of.lt HK1.out
            case rel => exact ⟨r.2.1, r.2.2, yl, yt, _, H', HC7, ⟨Nat.le_of_succ_le HK1.out⟩⟩
           ·rw [if_neg xk] at H
            have xkb : (kindT xl == 3) = false := beq_eq_false_iff_ne.mpr xk
            clear xk
            by_cases x0 : kindT xl = 0
            ·rw [if_pos x0] at H
             have x0b : (kindT xl == 0) = true := beq_iff_eq.mpr x0
             clear x0
             obtain rfl := Option.some.inj H
             obtain ⟨AE, cE, rfl, hcE, _⟩ := Kd.R_reads HCI.out.2.2.1
             have HRE := am HCI.out.2.2.1; have HCE := am hcE
             clear hcE
             go_wp2_with (first | (go_at_call 80; (with_reducible refine (compose_Of.kind w _ g2 B2 yl yt HY.out).mono ?_); rintro e w_ ⟨rfl, rfl⟩) | (go_at_call 80; (with_reducible refine (compose_Of.kind w _ g1 B1 xl xt HX.out).mono ?_); rintro e w_ ⟨rfl, rfl⟩) | (go_at_call 33; (with_reducible refine (normal_Of.calls _ _ ot _ _ (Kd.R_reads' HRE.out).2.2 HCE.out HRR.out).mono ?_); rintro e w9 ⟨v9, rfl, ho, hb⟩; have HO9 := am ho; have HB9 := am (below_then HCI.out.2.2.2.1 HCI.out.2.2.2.1.size hb); have HS9 := am HCI.out.2.2.2.1.size; clear ho hb))
             rw [Exit.noGoto_ret]
             go_ret2
             exact ⟨_, rfl, Kd.R_lower HO9.out HS9.out, HB9.out⟩
            ·rw [if_neg x0] at H
             have x0b : (kindT xl == 0) = false := beq_eq_false_iff_ne.mpr x0
             clear x0
             by_cases y0 : kindT yl = 0
             ·rw [if_pos y0] at H
              have y0b : (kindT yl == 0) = true := beq_iff_eq.mpr y0
              clear y0
              obtain rfl := Option.some.inj H
              obtain ⟨AE, cE, rfl, hcE, _⟩ := Kd.R_reads HCI.out.2.2.1
              have HRE := am HCI.out.2.2.1; have HCE := am hcE
              clear hcE
              go_wp2_with (first | (go_at_call 80; (with_reducible refine (compose_Of.kind w _ g2 B2 yl yt HY.out).mono ?_); rintro e w_ ⟨rfl, rfl⟩) | (go_at_call 80; (with_reducible refine (compose_Of.kind w _ g1 B1 xl xt HX.out).mono ?_); rintro e w_ ⟨rfl, rfl⟩) | (go_at_call 33; (with_reducible refine (normal_Of.calls _ _ ot _ _ (Kd.R_reads' HRE.out).2.2 HCE.out HRR.out).mono ?_); rintro e w9 ⟨v9, rfl, ho, hb⟩; have HO9 := am ho; have HB9 := am (below_then HCI.out.2.2.2.1 HCI.out.2.2.2.1.size hb); have HS9 := am HCI.out.2.2.2.1.size; clear ho hb))
              rw [Exit.noGoto_ret]
              go_ret2
              exact ⟨_, rfl, Kd.R_lower HO9.out HS9.out, HB9.out⟩
             ·rw [if_neg y0] at H
              have y0b : (kindT yl == 0) = false := beq_eq_false_iff_ne.mpr y0
              clear y0
              obtain ⟨n1, hn1, H⟩ := Option.bind_eq_some_iff.mp H
              obtain ⟨n2, hn2, H⟩ := Option.bind_eq_some_iff.mp H
              obtain ⟨nm, hnm⟩ : ∃ nm, mn n1 n2 = nm := ⟨_, rfl⟩
              simp only [hnm] at H
              have hnm_ : (if n2 < n1 then n2 else n1) = nm := hnm
              clear hnm
              obtain ⟨p, hp, H⟩ := Option.bind_eq_some_iff.mp H
              obtain ⟨q, hq, H⟩ := Option.bind_eq_some_iff.mp H
              have HS1 := am hn1; have HS2 := am hn2; have HTP := am hp; have HTQ := am hq
              have HNEP := am (compose_Of.tk_t hp).1; have HLEP := am (compose_Of.tk_t hp).2; have HNEQ := am (compose_Of.tk_t hq).1; have HLEQ := am (compose_Of.tk_t hq).2
              clear hn1 hn2 hp hq
              by_cases qk : q.1.f0 = 1
              ·rw [if_pos qk] at H
               have qkb : (q.1.f0 == 1) = true := beq_iff_eq.mpr qk
               have H' := am H
               clear H qk
               go_wp2_with (first | (go_at_call 80; (with_reducible refine (compose_Of.kind w _ g2 B2 yl yt HY.out).mono ?_); rintro e w_ ⟨rfl, rfl⟩) | (go_at_call 80; (with_reducible refine (compose_Of.kind w _ g1 B1 xl xt HX.out).mono ?_); rintro e w_ ⟨rfl, rfl⟩) | (go_at_call 82; (with_reducible refine (compose_Of.size' w _ g1 B1 xl xt n1 HX.out HS1.out).mono ?_); rintro e w5 ⟨rfl, m_, hm⟩; have HC5 := am (show CI w w5 g1 B1 g2 B2 xl xt yl yt u11 ot from by rw [hm]; exact CI_drewN HCI.out m_); have HY5 := am HC5.out.2.1; clear hm) | (go_at_call 82; (with_reducible refine (compose_Of.size' w _ g2 B2 yl yt n2 HY5.out HS2.out).mono ?_); rintro e w6 ⟨rfl, m_, hm⟩; have HC6 := am (show CI w w6 g1 B1 g2 B2 xl xt yl yt u11 ot from by rw [hm]; exact CI_drewN HC5.out m_); have HX6 := am HC6.out.1; have HC6B := am (HC6.out.2.2.2.1); have HC6T := am (HC6.out.2.2.2.2.2.2.2.1); clear hm HY5) | (go_at_call 81; (with_reducible refine (compose_Of.take w _ g1 B1 xl xt nm p HX6.out HC6B.out HC6T.out HTP.out).mono ?_); rintro e w7 ⟨rfl, hI, hb, hk⟩; have HC7 := am (CI_x HC6.out hI hb hk HNEP.out HLEP.out); have HY7 := am HC7.out.2.1; have HC7B := am (HC7.out.2.2.2.1); have HC7T := am (HC7.out.2.2.2.2.2.2.2.2); clear hI hb hk HX6) | (go_at_call 81; (with_reducible refine (compose_Of.take w _ g2 B2 yl yt nm q HY7.out HC7B.out HC7T.out HTQ.out).mono ?_); rintro e w8 ⟨rfl, hI, hb, hk⟩; have HC8 := am (CI_y HC7.out hI hb hk HNEQ.out HLEQ.out); have HC9 := am (fun (o1 o2 : Obj) => CI_below HC8.out (below_alloc (below_alloc (Below.refl _ _) o1) o2)); clear hI hb hk HY7) | ((with_reducible refine gate_builtin (b := .append) (xs := #[.tmp 84, .tmp 86]) rfl ?_); at_builtin; refine Kd.R_append k25 (w0 := w) w.heap.size rfl (.tmp 84) (.tmp 86) 27 25 (.agg #[(.int .i64 0), (.int .i64 0), (.string ⟨#[]⟩)]) 32 rfl Tryd.underlying27 info25 rfl (by decide) (by omega) u11 ot p.1 [.int .i64 (p.1).f0, .int .i64 (p.1).f1, .string (p.1).f2] (fun k_ => k_ ≠ B1 ∧ k_ ≠ B2) (fun _ => False) rfl (by rw [compose_Of.size2]; rfl) ?aP (fun _ hk => hk.elim) ?aF ?aO ?aB ?aS ?aL ?_; (case aP => exact k25_mkM _ _ _ _); (case aF => exact CI_fresh (HC9.out _ _)); (case aO => exact (HC9.out _ _).2.2.1); (case aB => exact (HC9.out _ _).2.2.2.1); (case aS => exact (HC9.out _ _).2.2.2.1.size); (case aL => exact compose_Of.room HLEN.out); intro v9 w9 ho hb hg hat; have HC10 := am (CI_app (HC9.out _ _) ho hb hg); clear ho hb hg hat))
               go_roundg k1
               case measure => exact compose_Of.lt HK1.out
               case rel => exact ⟨p.2.1, p.2.2, q.2.1, q.2.2, _, H', HC10, ⟨Nat.le_of_succ_le HK1.out⟩⟩
              ·rw [if_neg qk] at H
               have qkb : (q.1.f0 == 1) = false := beq_eq_false_iff_ne.mpr qk
               clear qk
               by_cases pk : p.1.f0 = 1
               ·rw [if_pos pk] at H
                have pkb : (p.1.f0 == 1) = true := beq_iff_eq.mpr pk
                have H' := am H
                clear H pk
                go_wp2_with (first | (go_at_call 80; (with_reducible refine (compose_Of.kind w _ g2 B2 yl yt HY.out).mono ?_); rintro e w_ ⟨rfl, rfl⟩) | (go_at_call 80; (with_reducible refine (compose_Of.kind w _ g1 B1 xl xt HX.out).mono ?_); rintro e w_ ⟨rfl, rfl⟩) | (go_at_call 82; (with_reducible refine (compose_Of.size' w _ g1 B1 xl xt n1 HX.out HS1.out).mono ?_); rintro e w5 ⟨rfl, m_, hm⟩; have HC5 := am (show CI w w5 g1 B1 g2 B2 xl xt yl yt u11 ot from by rw [hm]; exact CI_drewN HCI.out m_); have HY5 := am HC5.out.2.1; clear hm) | (go_at_call 82; (with_reducible refine (compose_Of.size' w _ g2 B2 yl yt n2 HY5.out HS2.out).mono ?_); rintro e w6 ⟨rfl, m_, hm⟩; have HC6 := am (show CI w w6 g1 B1 g2 B2 xl xt yl yt u11 ot from by rw [hm]; exact CI_drewN HC5.out m_); have HX6 := am HC6.out.1; have HC6B := am (HC6.out.2.2.2.1); have HC6T := am (HC6.out.2.2.2.2.2.2.2.1); clear hm HY5) | (go_at_call 81; (with_reducible refine (compose_Of.take w _ g1 B1 xl xt nm p HX6.out HC6B.out HC6T.out HTP.out).mono ?_); rintro e w7 ⟨rfl, hI, hb, hk⟩; have HC7 := am (CI_x HC6.out hI hb hk HNEP.out HLEP.out); have HY7 := am HC7.out.2.1; have HC7B := am (HC7.out.2.2.2.1); have HC7T := am (HC7.out.2.2.2.2.2.2.2.2); clear hI hb hk HX6) | (go_at_call 81; (with_reducible refine (compose_Of.take w _ g2 B2 yl yt nm q HY7.out HC7B.out HC7T.out HTQ.out).mono ?_); rintro e w8 ⟨rfl, hI, hb, hk⟩; have HC8 := am (CI_y HC7.out hI hb hk HNEQ.out HLEQ.out); have HC9 := am (fun (o1 o2 : Obj) => CI_below HC8.out (below_alloc (below_alloc (Below.refl _ _) o1) o2)); clear hI hb hk HY7) | ((with_reducible refine gate_builtin (b := .append) (xs := #[.tmp 92, .tmp 94]) rfl ?_); at_builtin; refine Kd.R_append k25 (w0 := w) w.heap.size rfl (.tmp 92) (.tmp 94) 27 25 (.agg #[(.int .i64 0), (.int .i64 0), (.string ⟨#[]⟩)]) 32 rfl Tryd.underlying27 info25 rfl (by decide) (by omega) u11 ot q.1 [.int .i64 (q.1).f0, .int .i64 (q.1).f1, .string (q.1).f2] (fun k_ => k_ ≠ B1 ∧ k_ ≠ B2) (fun _ => False) rfl (by rw [compose_Of.size2]; rfl) ?aP (fun _ hk => hk.elim) ?aF ?aO ?aB ?aS ?aL ?_; (case aP => exact k25_mkM _ _ _ _); (case aF => exact CI_fresh (HC9.out _ _)); (case aO => exact (HC9.out _ _).2.2.1); (case aB => exact (HC9.out _ _).2.2.2.1); (case aS => exact (HC9.out _ _).2.2.2.1.size); (case aL => exact compose_Of.room HLEN.out); intro v9 w9 ho hb hg hat; have HC10 := am (CI_app (HC9.out _ _) ho hb hg); clear ho hb hg hat))
                go_roundg k1
                case measure => exact compose_Of.lt HK1.out
                case rel => exact ⟨p.2.1, p.2.2, q.2.1, q.2.2, _, H', HC10, ⟨Nat.le_of_succ_le HK1.out⟩⟩
               ·rw [if_neg pk] at H
                have pkb : (p.1.f0 == 1) = false := beq_eq_false_iff_ne.mpr pk
                have H' := am H
                clear H pk
                go_wp2_with (first | (go_at_call 80; (with_reducible refine (compose_Of.kind w _ g2 B2 yl yt HY.out).mono ?_); rintro e w_ ⟨rfl, rfl⟩) | (go_at_call 80; (with_reducible refine (compose_Of.kind w _ g1 B1 xl xt HX.out).mono ?_); rintro e w_ ⟨rfl, rfl⟩) | (go_at_call 82; (with_reducible refine (compose_Of.size' w _ g1 B1 xl xt n1 HX.out HS1.out).mono ?_); rintro e w5 ⟨rfl, m_, hm⟩; have HC5 := am (show CI w w5 g1 B1 g2 B2 xl xt yl yt u11 ot from by rw [hm]; exact CI_drewN HCI.out m_); have HY5 := am HC5.out.2.1; clear hm) | (go_at_call 82; (with_reducible refine (compose_Of.size' w _ g2 B2 yl yt n2 HY5.out HS2.out).mono ?_); rintro e w6 ⟨rfl, m_, hm⟩; have HC6 := am (show CI w w6 g1 B1 g2 B2 xl xt yl yt u11 ot from by rw [hm]; exact CI_drewN HC5.out m_); have HX6 := am HC6.out.1; have HC6B := am (HC6.out.2.2.2.1); have HC6T := am (HC6.out.2.2.2.2.2.2.2.1); clear hm HY5) | (go_at_call 81; (with_reducible refine (compose_Of.take w _ g1 B1 xl xt nm p HX6.out HC6B.out HC6T.out HTP.out).mono ?_); rintro e w7 ⟨rfl, hI, hb, hk⟩; have HC7 := am (CI_x HC6.out hI hb hk HNEP.out HLEP.out); have HY7 := am HC7.out.2.1; have HC7B := am (HC7.out.2.2.2.1); have HC7T := am (HC7.out.2.2.2.2.2.2.2.2); clear hI hb hk HX6) | (go_at_call 81; (with_reducible refine (compose_Of.take w _ g2 B2 yl yt nm q HY7.out HC7B.out HC7T.out HTQ.out).mono ?_); rintro e w8 ⟨rfl, hI, hb, hk⟩; have HC8 := am (CI_y HC7.out hI hb hk HNEQ.out HLEQ.out); have HC9 := am (fun (o1 o2 : Obj) => CI_below HC8.out (below_alloc (below_alloc (Below.refl _ _) o1) o2)); clear hI hb hk HY7))
                go_roundg k1
                case measure => exact compose_Of.lt HK1.out
                case rel => exact ⟨p.2.1, p.2.2, q.2.1, q.2.2, _, H', ⟨HC9.out _ _⟩, ⟨Nat.le_of_succ_le HK1.out⟩⟩
         ·rw [if_neg hlen] at H; cases H
    ·rw [if_neg z3] at h; cases h
   ·rw [if_neg z2] at h
    simp only [Option.some.injEq, Prod.mk.injEq] at h
    obtain ⟨rfl, rfl⟩ := h
    have z2b : (n0 != n1) = true := bne_iff_ne.mpr z2
    clear hr0 hc0 hr1 hc1 hT he0 he1 hn0 hn1 z2
    go_enter Tryd.func44, Tryd.ntmps44
    go_wp2
    go_step3
    go_wp2
    go_loopw [7, 8, 19] (fun _ _ v19 wr => ∃ j : Nat, v19 = .int .i64 j ∧ j ≤ 2 ∧ Aside0 (wr.heap[w.heap.size]? = some (.cells #[.slice A0 l0.length c0, .slice A1 l1.length c1] 27 (0, 0))) ∧ Aside0 (Below w.heap.size w wr)) (fun _ _ v19 _ => 2 - (intOf v19).toNat)
    case atStart => exact ⟨0, rfl, by omega, ⟨heap_alloc_new w _⟩, ⟨below_alloc (Below.refl _ _) _⟩⟩
    case round =>
     obtain ⟨j, rfl, hj, HS, HB⟩ := hrel
     obtain ⟨k0, k1⟩ := compose_Of.cells2 HS.out
     rcases (by omega : j = 0 ∨ j = 1 ∨ j = 2) with rfl | rfl | rfl
     ·go_wp2_with (go_at_call 46; (with_reducible refine (op_May.calls k A0 c0 l0 0 _ (Kd.C_below HR0.out HB.out) HC0.out (Tabs.below HT.out HB.out) HE0.out).mono ?_); rintro e w1 ⟨rfl, hb⟩; have HS1 := am (blk_below HS.out hb); have HB1 := am (below_then HB.out HB.out.size hb); clear hb)
      go_round
      case measure => decide
      case rel => exact ⟨1, rfl, by omega, HS1, HB1⟩
     ·go_wp2_with (go_at_call 46; (with_reducible refine (op_May.calls k A1 c1 l1 0 _ (Kd.C_below HR1.out HB.out) HC1.out (Tabs.below HT.out HB.out) HE1.out).mono ?_); rintro e w1 ⟨rfl, hb⟩; have HS1 := am (blk_below HS.out hb); have HB1 := am (below_then HB.out HB.out.size hb); clear hb)
      go_round
      case measure => decide
      case rel => exact ⟨2, rfl, by omega, HS1, HB1⟩
     ·go_wp2_with (first | (go_at_call 62; (with_reducible refine (op_Out.calls A0 c0 l0 n0 _ (Kd.C_below HR0.out HB.out) HC0.out (Tabs.below HT.out HB.out) HN0.out).mono ?_); rintro e w1 ⟨rfl, hb⟩; have HB1 := am (below_then HB.out HB.out.size hb); clear hb) | (go_at_call 20; (with_reducible refine (op_In.calls A1 c1 l1 n1 _ (Kd.C_below HR1.out HB1.out) HC1.out (Tabs.below HT.out HB1.out) HN1.out).mono ?_); rintro e w2 ⟨rfl, hb⟩; have HB2 := am (below_then HB1.out HB1.out.size hb); clear hb))
      first | go_ret2 | (rw [Exit.noGoto_ret]; go_ret2)
      exact ⟨_, rfl, Kd.R_nil _ _ _ _ _, HB2.out⟩
  ·rw [if_neg z1] at h
   simp only [Option.some.injEq, Prod.mk.injEq] at h
   obtain ⟨rfl, rfl⟩ := h
   have z1b : (e1 != 0) = true := bne_iff_ne.mpr z1
   clear hr0 hc0 hr1 hc1 hT he0 he1 z1
   go_enter Tryd.func44, Tryd.ntmps44
   go_wp2
   go_step3
   go_wp2
   go_loopw [7, 8, 19] (fun _ _ v19 wr => ∃ j : Nat, v19 = .int .i64 j ∧ j ≤ 1 ∧ Aside0 (wr.heap[w.heap.size]? = some (.cells #[.slice A0 l0.length c0, .slice A1 l1.length c1] 27 (0, 0))) ∧ Aside0 (Below w.heap.size w wr)) (fun _ _ v19 _ => 2 - (intOf v19).toNat)
   case atStart => exact ⟨0, rfl, by omega, ⟨heap_alloc_new w _⟩, ⟨below_alloc (Below.refl _ _) _⟩⟩
   case round =>
    obtain ⟨j, rfl, hj, HS, HB⟩ := hrel
    obtain ⟨k0, k1⟩ := compose_Of.cells2 HS.out
    rcases (by omega : j = 0 ∨ j = 1) with rfl | rfl
    ·go_wp2_with (go_at_call 46; (with_reducible refine (op_May.calls k A0 c0 l0 0 _ (Kd.C_below HR0.out HB.out) HC0.out (Tabs.below HT.out HB.out) HE0.out).mono ?_); rintro e w1 ⟨rfl, hb⟩; have HS1 := am (blk_below HS.out hb); have HB1 := am (below_then HB.out HB.out.size hb); clear hb)
     go_round
     case measure => decide
     case rel => exact ⟨1, rfl, by omega, HS1, HB1⟩
    ·go_wp2_with (go_at_call 46; (with_reducible refine (op_May.calls k A1 c1 l1 e1 _ (Kd.C_below HR1.out HB.out) HC1.out (Tabs.below HT.out HB.out) HE1.out).mono ?_); rintro e w1 ⟨rfl, hb⟩; have HS1 := am (blk_below HS.out hb); have HB1 := am (below_then HB.out HB.out.size hb); clear hb)
     first | go_ret2 | (rw [Exit.noGoto_ret]; go_ret2)
     exact ⟨_, rfl, Kd.R_nil _ _ _ _ _, HB1.out⟩
 ·rw [if_neg z0] at h
  simp only [Option.some.injEq, Prod.mk.injEq] at h
  obtain ⟨rfl, rfl⟩ := h
  have z0b : (e0 != 0) = true := bne_iff_ne.mpr z0
  clear hr0 hc0 hr1 hc1 hT he0 z0
  go_enter Tryd.func44, Tryd.ntmps44
  go_wp2
  go_step3
  go_wp2
  go_loopw [7, 8, 19] (fun _ _ v19 wr => ∃ j : Nat, v19 = .int .i64 j ∧ j ≤ 0 ∧ Aside0 (wr.heap[w.heap.size]? = some (.cells #[.slice A0 l0.length c0, .slice A1 l1.length c1] 27 (0, 0))) ∧ Aside0 (Below w.heap.size w wr)) (fun _ _ v19 _ => 2 - (intOf v19).toNat)
  case atStart => exact ⟨0, rfl, by omega, ⟨heap_alloc_new w _⟩, ⟨below_alloc (Below.refl _ _) _⟩⟩
  case round =>
   obtain ⟨j, rfl, hj, HS, HB⟩ := hrel
   obtain ⟨k0, k1⟩ := compose_Of.cells2 HS.out
   obtain rfl : j = 0 := by omega
   go_wp2_with (go_at_call 46; (with_reducible refine (op_May.calls k A0 c0 l0 e0 _ (Kd.C_below HR0.out HB.out) HC0.out (Tabs.below HT.out HB.out) HE0.out).mono ?_); rintro e w1 ⟨rfl, hb⟩; have HS1 := am (blk_below HS.out hb); have HB1 := am (below_then HB.out HB.out.size hb); clear hb)
   first | go_ret2 | (rw [Exit.noGoto_ret]; go_ret2)
   exact ⟨_, rfl, Kd.R_nil _ _ _ _ _, HB1.out⟩
def rowsAt (xs : List (List S25)) (i : Nat) : List S25 := xs.getD i []
theorem at_rows {w : World} {A : Option Addr} {xs : List (List S25)} (h : Kd.C (Kd.slice 25 k25) w A xs.length xs) (i : Nat) (h1 : i < xs.length) : ∃ (ad : Addr) (A0 : Option Addr) (c0 : Nat), A = some ad ∧ w.cell? (ad.add i) = some (.slice A0 (rowsAt xs i).length c0) ∧ (rowsAt xs i).length ≤ c0 ∧ k25.C w A0 (rowsAt xs i).length (rowsAt xs i) := by
 obtain ⟨ad, c, e, _, hK, hc0⟩ := Kd.C_get h ([] : List S25) (i : Int) (by omega) (by omega)
 have hc : ∀ j u, c[j]? = some u → w.cell? (ad.add (i * 1 + j)) = some u := hc0
 obtain ⟨A0, c0, rfl, l0, g0⟩ := hK
 exact ⟨ad, A0, c0, e, by have hq := hc 0 _ rfl; rwa [Nat.mul_one, Nat.add_zero] at hq, l0, g0⟩
theorem rows_next (l : List (List S25)) (j : Nat) (h : j < l.length) : l.drop j = rowsAt l j :: l.drop (j + 1) := by
 rw [List.drop_eq_getElem_cons h]
 unfold rowsAt
 rw [List.getD_eq_getElem?_getD, List.getElem?_eq_getElem h]
 rfl
def fuse_Of.l (k : Nat) : List S25 → List (List S25) → Option (List S25 × Int)
 | x, [] => some (x, 0)
 | x, y :: l => (compose_Of.f k x y).bind fun r => if r.2 = 0 then fuse_Of.l k r.1 l else some ([], r.2)
theorem fuse_Of.mono_l (k : Nat) : ∀ (l : List (List S25)) (x : List S25), LeO (fuse_Of.l k x l) (fuse_Of.l (k + 1) x l)
 | [], x => LeO.refl _
 | y :: l, x => by
  unfold fuse_Of.l
  exact LeO.bind (compose_Of.mono _ _ _) fun r => LeO.ite (fuse_Of.mono_l k l _) (LeO.refl _)
def fuse_Of.f (k : Nat) (a0 : Int) (l1 : List (List S25)) : Option (List S25 × Int) := if l1.length < 1000000000 then (op_Keep.f k a0).bind fun t => (if t.2 = 0 then fuse_Of.l k t.1 l1 else some ([], t.2)) else none
theorem fuse_Of.mono (a0 : Int) (l1 : List (List S25)) (k : Nat) : LeO (fuse_Of.f k a0 l1) (fuse_Of.f (k + 1) a0 l1) := by
 unfold fuse_Of.f
 exact LeO.ite (LeO.bind (op_Keep.mono _ _) fun t => LeO.ite (fuse_Of.mono_l k _ _) (LeO.refl _)) (LeO.none _)
theorem fuse_Of.wrap {j n : Nat} (h : j < n) (hn : n < 1000000000) : wrap64 ((j : Int) + 1) = ((j + 1 : Nat) : Int) := by unfold wrap64; omega
set_option maxHeartbeats 8000000 in
set_option maxRecDepth 100000 in
theorem fuse_Of.fold (k : Nat) (v : Value) (xs : List S25) (A1 : Option Addr) (c1 : Nat) (l1 : List (List S25)) (r1 : List S25) (r2 : Int) (w0 w : World) (hO : Kd.R k25 25 w w0.heap.size (fun _ => True) v xs) (hB : Below w0.heap.size w0 w)
  (hr1 : Kd.C (Kd.slice 25 k25) w A1 l1.length l1) (hs : l1.length < 1000000000) (hT : Tabs w) (h : fuse_Of.l k xs l1 = some (r1, r2)) :
  Calls Tryd.prog 43 #[v, .slice A1 l1.length c1, .func (Fn.func 44) #[] #[]] w fun e w' => ∃ v0_ : Value, e = .returned (.tuple #[v0_, .int .i64 r2]) ∧ Kd.R k25 25 w' w0.heap.size (fun _ => True) v0_ r1 ∧ Below w0.heap.size w0 w' := by
 have HR1 := am hr1; have HT := am hT; have HZ := am hs; have HO := am hO; have HB := am hB; have H := am h
 clear hr1 hT hs hO hB h
 go_enter Tryd.func43, Tryd.ntmps43
 go_wp2
 go_loopw [0, 9, 10, 11, 12, 15] (fun v0 _ _ _ _ v15 wr => ∃ j : Nat, v15 = .int .i64 j ∧ j ≤ l1.length ∧ ∃ x : List S25, Aside0 (fuse_Of.l k x (l1.drop j) = some (r1, r2)) ∧ Aside0 (Kd.R k25 25 wr w0.heap.size (fun _ => True) v0 x) ∧ Aside0 (Below w0.heap.size w0 wr) ∧ Aside0 (Below w.heap.size w wr)) (fun _ _ _ _ _ v15 _ => l1.length - (intOf v15).toNat)
 case atStart => exact ⟨0, rfl, Nat.zero_le _, xs, H, HO, HB, ⟨Below.refl _ _⟩⟩
 case round =>
  clear H HO HB
  obtain ⟨j, rfl, hj, x, HA, HO, HB, HW⟩ := hrel
  obtain ⟨Ax, cx, rfl, hcx, hCx⟩ := Kd.R_reads HO.out
  by_cases hlt : j < l1.length
  ·have hltb : decide ((j : Int) < (l1.length : Int)) = true := decide_eq_true (by omega)
   have HL := am hlt
   have h := HA.out
   clear HA
   rw [rows_next l1 j hlt, fuse_Of.l] at h
   obtain ⟨r, hr, h2⟩ := Option.bind_eq_some_iff.mp h
   clear h
   obtain ⟨ad, Ay, cy, rfl, hx0, hcy, hCy⟩ := at_rows (Kd.C_below HR1.out HW.out) j hlt
   have p1 : (0 ≤ (j : Int)) = True := eq_true (by omega)
   have p2 : ((j : Int) < (l1.length : Int)) = True := eq_true (by omega)
   have p3 : (j < l1.length) = True := eq_true hlt
   have ew := fuse_Of.wrap hlt HZ.out
   have HCX := am hCx; have HCXX := am hcx; have HCY := am hCy; have HCYY := am hcy; have HRR := am hr
   clear hlt hr hCx hcx hCy hcy hj
   generalize rowsAt l1 j = y at *
   by_cases z : r.2 = 0
   ·rw [if_pos z] at h2
    have zb : (r.2 != 0) = false := bne_eq_false_iff_eq.mpr z
    have HE := am h2
    clear h2 z
    go_wp2_with (go_at_call 44; (with_reducible refine (compose_Of.calls k Ax cx x Ay cy y r.1 r.2 _ HCX.out HCXX.out HCY.out HCYY.out (Tabs.below HT.out HW.out) HRR.out).mono ?_); rintro e w1 ⟨v1, rfl, ho, hb⟩; have HO1 := am (Kd.R_lower ho HB.out.size); have HB1 := am (below_then HB.out HB.out.size hb); have HW1 := am (below_then HW.out HW.out.size hb); clear ho hb)
    go_round
    case measure => exact op_sum.less HL.out ew
    case rel => exact ⟨j + 1, by rw [ew], HL.out, r.1, HE, HO1, HB1, HW1⟩
   ·rw [if_neg z] at h2
    have zb : (r.2 != 0) = true := bne_iff_ne.mpr z
    simp only [Option.some.injEq, Prod.mk.injEq] at h2
    obtain ⟨rfl, rfl⟩ := h2
    clear z
    go_wp2_with (go_at_call 44; (with_reducible refine (compose_Of.calls k Ax cx x Ay cy y r.1 r.2 _ HCX.out HCXX.out HCY.out HCYY.out (Tabs.below HT.out HW.out) HRR.out).mono ?_); rintro e w1 ⟨v1, rfl, ho, hb⟩; have HB1 := am (below_then HB.out HB.out.size hb); clear ho hb)
    go_ret2
    exact ⟨_, rfl, Kd.R_nil _ _ _ _ _, HB1.out⟩
  ·have hltb : decide ((j : Int) < (l1.length : Int)) = false := decide_eq_false (by omega)
   have h := HA.out
   clear HA
   rw [List.drop_of_length_le (by omega), fuse_Of.l] at h
   simp only [Option.some.injEq, Prod.mk.injEq] at h
   obtain ⟨rfl, rfl⟩ := h
   go_wp2
   go_ret2
   exact ⟨_, rfl, HO.out, HB.out⟩
set_option maxHeartbeats 8000000 in
set_option maxRecDepth 100000 in
theorem fuse_Of.calls (k : Nat) (a0 : Int) (A1 : Option Addr) (c1 : Nat) (l1 : List (List S25)) (r1 : List S25) (r2 : Int) (w : World) (hr1 : Kd.C (Kd.slice 25 k25) w A1 l1.length l1) (hc1 : l1.length ≤ c1) (hT : Tabs w) (h : fuse_Of.f k a0 l1 = some (r1, r2)) :
  Calls Tryd.prog 11 #[.int .i64 a0, .slice A1 l1.length c1] w fun e w' => ∃ v0_ : Value, e = .returned (.tuple #[v0_, .int .i64 r2]) ∧ Kd.R k25 25 w' w.heap.size (fun _ => True) v0_ r1 ∧ Below w.heap.size w w' := by
 unfold fuse_Of.f at h
 by_cases c : l1.length < 1000000000
 ·rw [if_pos c] at h
  obtain ⟨t, ht, h⟩ := Option.bind_eq_some_iff.mp h
  have HR1 := am hr1; have HT := am hT; have HZ := am c; have HK := am ht
  clear hr1 hc1 hT c ht
  by_cases z : t.2 = 0
  ·rw [if_pos z] at h
   have zb : (t.2 != 0) = false := bne_eq_false_iff_eq.mpr z
   have H := am h
   clear h z
   go_enter Tryd.func11, Tryd.ntmps11
   go_wp2_with (first | (go_at_call 42; (with_reducible refine (op_Keep.calls k a0 t.1 t.2 _ HK.out).mono ?_); rintro e w1 ⟨v1, rfl, ho, hb⟩; have HO1 := am ho; have HB1 := am hb; clear ho hb) | (go_at_call 43; (with_reducible refine (fuse_Of.fold k v1 t.1 A1 c1 l1 r1 r2 w w1 HO1.out HB1.out (Kd.C_below HR1.out HB1.out) HZ.out (Tabs.below HT.out HB1.out) H.out).mono ?_); rintro e w2 ⟨v2, rfl, ho, hb⟩; have HO2 := am ho; have HB2 := am hb; clear ho hb))
   go_ret2
   exact ⟨_, rfl, HO2.out, HB2.out⟩
  ·rw [if_neg z] at h
   have zb : (t.2 != 0) = true := bne_iff_ne.mpr z
   simp only [Option.some.injEq, Prod.mk.injEq] at h
   obtain ⟨rfl, rfl⟩ := h
   clear z
   go_enter Tryd.func11, Tryd.ntmps11
   go_wp2_with (go_at_call 42; (with_reducible refine (op_Keep.calls k a0 t.1 t.2 _ HK.out).mono ?_); rintro e w1 ⟨v1, rfl, ho, hb⟩; have HB1 := am hb; clear ho hb)
   go_ret2
   exact ⟨_, rfl, Kd.R_nil _ _ _ _ _, HB1.out⟩
 ·rw [if_neg c] at h; cases h
end Go.Proofs.YtegjegihcebimaaDoor.P
end
