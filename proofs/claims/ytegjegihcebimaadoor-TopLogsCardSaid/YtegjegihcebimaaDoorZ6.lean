/- Part 6 of the proof of topLogs_holds: out of the texts that this session's programs wrote, what the theorem reaches. -/
import Derived.Test.YtegjegihcebimaaDoorZ2
import Derived.Test.YtegjegihcebimaaDoorZ3
import Derived.Test.YtegjegihcebimaaDoorZ4
import Derived.Test.YtegjegihcebimaaDoorZ5
section
namespace Go.Proofs.YtegjegihcebimaaDoor.P
open Go.RowKit Go.Proofs.YtegjegihcebimaaDoorW.PrintWords Go.Proofs.YtegjegihcebimaaDoorW.PrintLast Go.Proofs.YtegjegihcebimaaDoorW.PrintMore
attribute [local go_sem] max2_int min2_int max_two min_two max_three min_three max_four min_four
set_option linter.unusedVariables false
set_option linter.unusedSimpArgs false
def over_Of.cut : List S25 → Int → Option (List S25)
 | [], _ => none
 | x :: l, n => some (if wrap64 (x.f1 - n) = 0 then l else ⟨x.f0, wrap64 (x.f1 - n), x.f2⟩ :: l)
def QS (w0 W : World) (B : Nat) (v : Value) (l : List S25) : Prop := Kd.Q k25 25 W w0.heap.size (fun k => k = B) v l
theorem QS_open {w0 w : World} {B : Nat} {v : Value} {x : S25} {l : List S25} (h : QS w0 w B v (x :: l)) :
  ∃ (o c : Nat), v = .slice (some ⟨B, o, none⟩) (l.length + 1) c ∧ l.length + 1 ≤ c ∧ w.cell? ⟨B, o, none⟩ = some (.int .i64 x.f0) ∧ w.cell? ⟨B, o + 1, none⟩ = some (.int .i64 x.f1) ∧ w.cell? ⟨B, o + 2, none⟩ = some (.string x.f2) ∧ w.frozen? ⟨B, o + 1, none⟩ = false ∧
   w0.heap.size ≤ B ∧ B < w.heap.size ∧ ∃ cells, w.heap[B]? = some (.cells cells 25 (0, 0)) := by
 obtain ⟨gB, oB, cap, rfl, hb1, hb2, cells, hcl⟩ := Kd.Q_form h (by simp)
 obtain rfl : gB = B := h.1 gB rfl
 obtain ⟨ce, _, hM, hcc, hfr⟩ := Kd.Q_elem h z25 0 (by omega) (by simp)
 obtain rfl := k25_openM hM
 have hc := (Kd.Q_reads' h).2.1
 exact ⟨oB, cap, rfl, hc, hcc 0 _ rfl, hcc 1 _ rfl, hcc 2 _ rfl, hfr 1, hb1, hb2, cells, hcl⟩
theorem QS_num {w0 w : World} {B o c : Nat} {x : S25} {l : List S25} (v1 : Int) (h : QS w0 w B (.slice (some ⟨B, o, none⟩) (l.length + 1) c) (x :: l)) :
  QS w0 (w.setCell ⟨B, o + 1, none⟩ (.int .i64 v1)) B (.slice (some ⟨B, o, none⟩) (l.length + 1) c) (⟨x.f0, v1, x.f2⟩ :: l) := by
 obtain ⟨ce, hce, hM, hcc, hfr⟩ := Kd.Q_elem h z25 0 (by omega) (by simp)
 obtain rfl := k25_openM hM
 exact (Kd.Q_seg h 0 (by omega) (by simp) (seg := [.int .i64 v1]) (j := 1) hce hcc (show 2 ≤ 3 from by decide) (x' := (⟨x.f0, v1, x.f2⟩ : S25)) (k25_mkM _ _ _ (⟨x.f0, v1, x.f2⟩ : S25)) (fun _ hk => hk)).1
set_option maxHeartbeats 8000000 in
set_option maxRecDepth 100000 in
theorem over_Of.less (w0 w : World) (B : Nat) (v : Value) (l : List S25) (n : Int) (r : List S25) (hQ : QS w0 w B v l) (hB : Below w0.heap.size w0 w) (h : over_Of.cut l n = some r) :
  Calls Tryd.prog 49 #[v, .int .i64 n] w fun e w' => ∃ v', e = .returned v' ∧ QS w0 w' B v' r ∧ Below w0.heap.size w0 w' ∧ Kept w w' (fun k => k = B) := by
 cases l with
 | nil => simp [over_Of.cut] at h
 | cons x l =>
  obtain rfl := Option.some.inj h
  clear h
  obtain ⟨o, c, rfl, hc, x0, x1, x2, fz, hb1, hb2, hty⟩ := QS_open hQ
  obtain ⟨v1, hv1⟩ : ∃ v1, wrap64 (x.f1 - n) = v1 := ⟨_, rfl⟩
  rw [hv1]
  have hQ2 := QS_num v1 hQ
  obtain ⟨A3, c3, hcut, hq3, hc3⟩ := compose_Of.cutq hc hQ2
  have p1 : (0 < l.length + 1) = True := eq_true (by omega)
  have HQ2 := am hQ2; have HQ3 := am hq3; have HB := am hB; have HBB := am hb1
  have y1 : (w.setCell ⟨B, o + 1, none⟩ (.int .i64 v1)).cell? ⟨B, o + 1, none⟩ = some (.int .i64 v1) := by
   obtain ⟨o', c', e, _, _, h1, _⟩ := QS_open hQ2
   injection e with e
   injection e with e
   injection e with _ e
   subst e
   exact h1
  have hsub : wrap64 (x.f1 - n) = v1 := hv1
  clear hQ hB hQ2 hq3 hc3 hc hb1 hb2 hty
  by_cases z : v1 = 0
  ·have zb : (v1 == 0) = true := beq_iff_eq.mpr z
   rw [if_pos z]
   clear z
   go_enter Tryd.func49, Tryd.ntmps49
   go_wp2
   go_ret
   exact ⟨_, rfl, HQ3.out, HB.out.setCell (p := ⟨B, o + 1, none⟩) HBB.out _, (Kept.refl w (fun k => k = B)).setCell (p := ⟨B, o + 1, none⟩) (.inl rfl) _⟩
  ·have zb : (v1 == 0) = false := beq_eq_false_iff_ne.mpr z
   rw [if_neg z]
   clear z
   go_enter Tryd.func49, Tryd.ntmps49
   go_wp2
   go_ret
   exact ⟨_, rfl, HQ2.out, HB.out.setCell (p := ⟨B, o + 1, none⟩) HBB.out _, (Kept.refl w (fun k => k = B)).setCell (p := ⟨B, o + 1, none⟩) (.inl rfl) _⟩
set_option maxHeartbeats 8000000 in
set_option maxRecDepth 100000 in
theorem over_Of.door (w0 w : World) (p c : Nat) (A : Option Addr) (out r : List S25) (hp : w.heap[p]? = some (.cells #[.slice A out.length c] 27 (0, 0))) (hO : Kd.R k25 25 w w0.heap.size (fun _ => True) (.slice A out.length c) out) (hc : out.length ≤ c) (hB : Below w0.heap.size w0 w) (h0 : w0.heap.size ≤ p) (h : normal_Of.f out = some r) :
  CallsD Tryd.prog 47 #[.pointer (some ⟨p, 0, none⟩)] .returning w fun e u' w' => u' = .returning ∧ e = .returned (.tuple #[]) ∧ ∃ v, w'.heap[p]? = some (.cells #[v] 27 (0, 0)) ∧ Kd.R k25 25 w' w0.heap.size (fun _ => True) v r ∧ Below w0.heap.size w0 w' := by
 have HN := am (normal_Of.calls A c out r w (Kd.R_reads' hO).2.2 hc h)
 have HP := am hp; have HB := am hB; have H0 := am h0
 have k0 : w.cell? ⟨p, 0, none⟩ = some (.slice A out.length c) := (blk_cell hp 0).trans rfl
 clear hp hO hc hB h0 h
 go_enter_d Tryd.func47, Tryd.ntmps47
 go_wp2_with (go_at_call 33; (with_reducible refine HN.out.mono ?_); rintro e w1 ⟨v1, rfl, ho, hb⟩; obtain ⟨A1, c1, rfl, hc1, _⟩ := Kd.R_reads ho; have HP1 := am (blk_below HP.out hb); have HO1 := am (Kd.R_lower ho HB.out.size); have HB1 := am (below_then HB.out HB.out.size hb); clear ho hb hc1; have k1 : w1.cell? ⟨p, 0, none⟩ = some (.slice A out.length c) := (blk_cell HP1.out 0).trans rfl; have f1 : w1.frozen? ⟨p, 0, none⟩ = false := blk_frozen HP1.out 0)
 go_end0
 exact ⟨rfl, _, blk_put HP1.out 0 _ rfl, Kd.R_set HO1.out HP1.out (by decide) 0 _, HB1.out.setCell (p := ⟨p, 0, none⟩) H0.out _⟩
theorem QS_new {w0 w1 : World} {v : Value} {q : List S25} {base : Nat} {ok : Nat → Prop} (d : Nat) (hO : Kd.R k25 25 w1 base ok v q) (hb : w0.heap.size ≤ base) : QS w0 w1 ((v.ownBlock).getD d) v q :=
 Kd.Q_mono (Kd.Q_lower (Kd.Q_tight rfl (Kd.Q_of_R hO)) hb) (fun k_ e_ => by rw [← e_]; rfl)
def OI (w0 W : World) (p Ba Bs : Nat) (va vs : Value) (a s out : List S25) : Prop :=
 QS w0 W Ba va a ∧ QS w0 W Bs vs s ∧ (∃ v, W.heap[p]? = some (.cells #[v] 27 (0, 0)) ∧ Kd.R k25 25 W w0.heap.size (fun k => k ≠ Ba ∧ k ≠ Bs ∧ k ≠ p) v out) ∧ Below w0.heap.size w0 W ∧ (p ≠ Ba ∧ p ≠ Bs ∧ Ba ≠ Bs) ∧ (Ba < W.heap.size ∧ Bs < W.heap.size) ∧ w0.heap.size ≤ p
theorem OI_new {w w2 w3 w4 : World} {va vs : Value} {a s : List S25} {p : Nat} (h1 : Kd.R k25 25 w3 w2.heap.size (fun _ => True) va a) (hb1 : Below w2.heap.size w2 w3) (h2 : Kd.R k25 25 w4 w3.heap.size (fun _ => True) vs s) (hb2 : Below w3.heap.size w3 w4) (hp : w2.heap[p]? = some (.cells #[.slice none 0 0] 27 (0, 0))) (hB : Below w.heap.size w w2) (h0 : w.heap.size ≤ p) (h3 : 2 < p) (h4 : p + 1 < w2.heap.size) :
  OI w w4 p ((va.ownBlock).getD (p + 1)) ((vs.ownBlock).getD 2) va vs a s [] := by
 have s1 := hb1.size; have s2 := hb2.size; have s0 := hB.size
 have ha : p < (va.ownBlock).getD (p + 1) ∧ (va.ownBlock).getD (p + 1) < w3.heap.size ∧ 2 < (va.ownBlock).getD (p + 1) := by
  cases hv : va.ownBlock with
  | none => exact ⟨by show p < p + 1; omega, by show p + 1 < _; omega, by show 2 < p + 1; omega⟩
  | some k =>
   have := Kd.R_base h1 k hv; have := Kd.Q_lt (Kd.Q_of_R h1) k hv
   exact ⟨by show p < k; omega, by show k < _; omega, by show 2 < k; omega⟩
 have hs : ((vs.ownBlock).getD 2 = 2 ∨ w3.heap.size ≤ (vs.ownBlock).getD 2) ∧ (vs.ownBlock).getD 2 < w4.heap.size := by
  cases hv : vs.ownBlock with
  | none => exact ⟨.inl rfl, by show 2 < _; omega⟩
  | some k =>
   have := Kd.R_base h2 k hv; have := Kd.Q_lt (Kd.Q_of_R h2) k hv
   exact ⟨.inr (by show _ ≤ k; omega), by show k < _; omega⟩
 refine ⟨Kd.Q_below (QS_new _ h1 s0) hb2, QS_new _ h2 (Nat.le_trans s0 s1), ⟨_, blk_below (blk_below hp hb1) hb2, Kd.R_nil _ _ _ _ _⟩, below_then (below_then hB s0 hb1) (Nat.le_trans s0 s1) hb2, ⟨by omega, ?_, ?_⟩, ⟨by omega, hs.2⟩, h0⟩
 ·rcases hs.1 with h | h <;> omega
 ·rcases hs.1 with h | h <;> omega
theorem over_Of.cutq (c : Nat) (A : Option Addr) (x : S25) (l : List S25) (hc : l.length + 1 ≤ c) : ∃ (A3 : Option Addr) (c3 : Nat), (∀ W : World, (Instr.slice 27 (.slice A (l.length + 1) c) (some (.int .i64 1)) none none).run Tryd.prog W = .ok (.slice A3 l.length c3) W) ∧ Aside0 (∀ (w : World) (base B : Nat), Kd.Q k25 25 w base (fun k => k = B) (.slice A (l.length + 1) c) (x :: l) → Kd.Q k25 25 w base (fun k => k = B) (.slice A3 l.length c3) l) ∧ l.length ≤ c3 :=
 ⟨_, _, fun W => compose_Of.cut1 c A l W, ⟨fun w base B h => compose_Of.q1 h⟩, by omega⟩
theorem OI_tail_a {w0 W : World} {p Ba Bs : Nat} {va va1 vs : Value} {a a1 s out : List S25} (h : OI w0 W p Ba Bs va vs a s out) (hq : QS w0 W Ba va a → QS w0 W Ba va1 a1) : OI w0 W p Ba Bs va1 vs a1 s out := ⟨hq h.1, h.2⟩
theorem OI_tail_s {w0 W : World} {p Ba Bs : Nat} {va vs vs1 : Value} {a s s1 out : List S25} (h : OI w0 W p Ba Bs va vs a s out) (hq : QS w0 W Bs vs s → QS w0 W Bs vs1 s1) : OI w0 W p Ba Bs va vs1 a s1 out := ⟨h.1, hq h.2.1, h.2.2⟩
theorem OI_below {w0 W W1 : World} {p Ba Bs : Nat} {va vs : Value} {a s out : List S25} (h : OI w0 W p Ba Bs va vs a s out) (hb : Below W.heap.size W W1) : OI w0 W1 p Ba Bs va vs a s out := by
 obtain ⟨h1, h2, ⟨v, h3, h4⟩, h5, h6, h7, h8⟩ := h
 exact ⟨Kd.Q_below h1 hb, Kd.Q_below h2 hb, ⟨v, blk_below h3 hb, Kd.R_below h4 hb⟩, below_then h5 h5.size hb, h6, ⟨Nat.lt_of_lt_of_le h7.1 hb.size, Nat.lt_of_lt_of_le h7.2 hb.size⟩, h8⟩
theorem OI_less_a {w0 W W1 : World} {p Ba Bs : Nat} {va va1 vs : Value} {a a1 s out : List S25} (h : OI w0 W p Ba Bs va vs a s out) (hq : QS w0 W1 Ba va1 a1) (hB : Below w0.heap.size w0 W1) (hk : Kept W W1 (fun k => k = Ba)) : OI w0 W1 p Ba Bs va1 vs a1 s out := by
 obtain ⟨h1, h2, ⟨v, h3, h4⟩, h5, h6, h7, h8⟩ := h
 exact ⟨hq, Kd.Q_kept h2 hk (fun k e1 e2 => h6.2.2 (e2.symm.trans e1)), ⟨v, blk_kept h3 hk h6.1, Kd.R_kept h4 hk (fun k ho => ho.1)⟩, hB, h6, ⟨Nat.lt_of_lt_of_le h7.1 hk.1, Nat.lt_of_lt_of_le h7.2 hk.1⟩, h8⟩
theorem OI_less_s {w0 W W1 : World} {p Ba Bs : Nat} {va vs vs1 : Value} {a s s1 out : List S25} (h : OI w0 W p Ba Bs va vs a s out) (hq : QS w0 W1 Bs vs1 s1) (hB : Below w0.heap.size w0 W1) (hk : Kept W W1 (fun k => k = Bs)) : OI w0 W1 p Ba Bs va vs1 a s1 out := by
 obtain ⟨h1, h2, ⟨v, h3, h4⟩, h5, h6, h7, h8⟩ := h
 exact ⟨Kd.Q_kept h1 hk (fun k e1 e2 => h6.2.2 (e1.symm.trans e2)), hq, ⟨v, blk_kept h3 hk h6.2.1, Kd.R_kept h4 hk (fun k ho => ho.2.1)⟩, hB, h6, ⟨Nat.lt_of_lt_of_le h7.1 hk.1, Nat.lt_of_lt_of_le h7.2 hk.1⟩, h8⟩
theorem OI_app {w0 W W1 : World} {p Ba Bs : Nat} {va vs v v1 : Value} {a s out : List S25} {x : S25} (h : OI w0 W p Ba Bs va vs a s out) (hv : W.heap[p]? = some (.cells #[v] 27 (0, 0)))
  (hO : Kd.R k25 25 W1 w0.heap.size (fun k => k ≠ Ba ∧ k ≠ Bs ∧ k ≠ p) v1 (out ++ [x])) (hB : Below w0.heap.size w0 W1) (hg : W.grownBy W1 v.ownBlock) : OI w0 (W1.setCell ⟨p, 0, none⟩ v1) p Ba Bs va vs a s (out ++ [x]) := by
 obtain ⟨h1, h2, ⟨v', h3, h4⟩, h5, h6, h7, h8⟩ := h
 obtain rfl : v' = v := by
  rw [h3] at hv
  injection hv with hv
  injection hv with hv
  injection hv with hv
  injection hv with hv
 have hK : Kept W W1 (fun k => v'.ownBlock = some k) := Kept.of_grown hg (Kept.refl _ _) (fun k e => .inl e)
 have hok := h4.1
 have q1 : QS w0 W1 Ba va a := Kd.Q_kept h1 hK (fun k e1 e2 => (hok k e2).1 e1)
 have q2 : QS w0 W1 Bs vs s := Kd.Q_kept h2 hK (fun k e1 e2 => (hok k e2).2.1 e1)
 have q3 : W1.heap[p]? = some (.cells #[v'] 27 (0, 0)) := blk_kept h3 hK (fun e => (hok _ e).2.2 rfl)
 refine ⟨Kd.Q_far (p := ⟨p, 0, none⟩) q1 (fun k e => by rw [e]; exact h6.1.symm) _, Kd.Q_far (p := ⟨p, 0, none⟩) q2 (fun k e => by rw [e]; exact h6.2.1.symm) _, ⟨v1, blk_put q3 0 _ rfl, Kd.R_far (p := ⟨p, 0, none⟩) hO (fun k ho => ho.2.2) _⟩, hB.setCell (p := ⟨p, 0, none⟩) h8 _, h6, ?_, h8⟩
 have : (W1.setCell ⟨p, 0, none⟩ v1).heap.size = W1.heap.size := by simp
 rw [this]
 exact ⟨Nat.lt_of_lt_of_le h7.1 hK.1, Nat.lt_of_lt_of_le h7.2 hK.1⟩
theorem OI_fresh {w0 W : World} {p Ba Bs : Nat} {va vs : Value} {a s out : List S25} (h : OI w0 W p Ba Bs va vs a s out) : ∀ k, W.heap.size ≤ k → k ≠ Ba ∧ k ≠ Bs ∧ k ≠ p := by
 obtain ⟨h1, h2, ⟨v', h3, h4⟩, h5, h6, h7, h8⟩ := h
 have := blk_lt h3
 intro k hk
 omega
theorem OI_step {ops : Array Oper} {o : Oper} {act : Act} {Q : Exit → Act → World → Prop} {Kc : Act → World → Prop} {w0 W : World} {p Ba Bs : Nat} {va vs v : Value} {a s out : List S25} (x : S25) (h : OI w0 W p Ba Bs va vs a s out) (hv : W.heap[p]? = some (.cells #[v] 27 (0, 0))) (hl : out.length < 1000000000)
  (t1 t2 : Operand) (hw : Region.wanted o (yielded ops act.tmps) = true) (ho : o.op = .call { callee := .builtin .append, args := #[t1, t2], argTypes := #[27, 27] }) (hs : act.eval t1 = v) (hx : act.eval t2 = .slice (some ⟨W.heap.size, 0, none⟩) 1 1)
  (hk : ∀ v1 w1, (∃ A1 n1 c1, v1 = .slice A1 n1 c1) → Aside0 (OI w0 (w1.setCell ⟨p, 0, none⟩ v1) p Ba Bs va vs a s (out ++ [x])) → w1.cell? ⟨p, 0, none⟩ = some v → w1.frozen? ⟨p, 0, none⟩ = false → Kc (act.put o.dst v1) w1) :
  if Region.wanted o (yielded ops act.tmps) = true then Oper.wp Tryd.prog o act (W.alloc (.cells #[.int .i64 x.f0, .int .i64 x.f1, .string x.f2] 25)) Kc Q else Kc (act.put o.dst undef) (W.alloc (.cells #[.int .i64 x.f0, .int .i64 x.f1, .string x.f2] 25)) := by
 have hR : Kd.R k25 25 W w0.heap.size (fun k => k ≠ Ba ∧ k ≠ Bs ∧ k ≠ p) v out := by
  obtain ⟨h1, h2, ⟨v', h3, h4⟩, h5, h6, h7, h8⟩ := h
  obtain rfl : v' = v := by
   rw [h3] at hv
   injection hv with hv
   injection hv with hv
   injection hv with hv
   injection hv with hv
  exact h4
 refine Kd.R_append_step k25 (w0 := w0) (W := W) w0.heap.size hw t1 t2 27 25 (.agg #[(.int .i64 0), (.int .i64 0), (.string ⟨#[]⟩)]) 32 ho Tryd.underlying27 info25 rfl (by decide) (by omega) v out x [.int .i64 x.f0, .int .i64 x.f1, .string x.f2] (fun k_ => k_ ≠ Ba ∧ k_ ≠ Bs ∧ k_ ≠ p) (fun _ => False) hs hx (k25_mkM _ _ _ _) (fun _ hk => hk.elim) (OI_fresh h) hR h.2.2.2.1 h.2.2.2.1.size (compose_Of.room hl) ?_
 intro v1 w1 ho hb hg hat
 have hK : Kept W w1 (fun k => v.ownBlock = some k) := Kept.of_grown hg (Kept.refl _ _) (fun k e => .inl e)
 have hp : w1.heap[p]? = some (.cells #[v] 27 (0, 0)) := blk_kept hv hK (fun e => (hR.1 _ e).2.2 rfl)
 obtain ⟨A1, c1, e1, _, _⟩ := Kd.R_reads ho
 exact hk v1 w1 ⟨_, _, _, e1⟩ ⟨OI_app h hv ho hb hg⟩ ((blk_cell hp 0).trans rfl) (blk_frozen hp 0)
def over_Of.st (F : List S25 → List S25 → List S25 → Option (List S25)) (out : List S25) : List S25 → List S25 → Option (List S25)
 | a, y :: s' =>
  if y.f0 = 2 then (span_Out.f y.f0 y.f1 y.f2).bind fun n => F a s' (out ++ [⟨1, n, ⟨#[]⟩⟩])
  else match a with
   | x :: a' =>
    if x.f0 = 2 then F a' (y :: s') (out ++ [x])
    else (over_Of.cut (x :: a') (mn x.f1 y.f1)).bind fun a1 => (over_Of.cut (y :: s') (mn x.f1 y.f1)).bind fun s1 => if y.f0 = 1 then F a1 s1 (out ++ [⟨x.f0, mn x.f1 y.f1, ⟨#[]⟩⟩]) else F a1 s1 out
   | [] => none
 | x :: a', [] => if x.f0 = 2 then F a' [] (out ++ [x]) else none
 | [], [] => some out
def over_Of.l : Nat → List S25 → List S25 → List S25 → Option (List S25)
 | 0, _, _, _ => none
 | k + 1, a, s, out => if out.length < 1000000000 then over_Of.st (over_Of.l k) out a s else none
theorem over_Of.mono_l : ∀ (k : Nat) (a s out : List S25), LeO (over_Of.l k a s out) (over_Of.l (k + 1) a s out)
 | 0, a, s, out => by rw [show over_Of.l 0 a s out = none from rfl]; exact LeO.none _
 | k + 1, a, s, out => by
  rw [over_Of.l, over_Of.l]
  refine LeO.ite ?_ (LeO.refl _)
  cases s with
  | nil =>
   cases a with
   | nil => exact LeO.refl _
   | cons x a => exact LeO.ite (over_Of.mono_l k _ _ _) (LeO.refl _)
  | cons y s =>
   cases a with
   | nil => exact LeO.ite (LeO.bind (LeO.refl _) fun n => over_Of.mono_l k _ _ _) (LeO.refl _)
   | cons x a => exact LeO.ite (LeO.bind (LeO.refl _) fun n => over_Of.mono_l k _ _ _) (LeO.ite (over_Of.mono_l k _ _ _) (LeO.bind (LeO.refl _) fun a1 => LeO.bind (LeO.refl _) fun s1 => LeO.ite (over_Of.mono_l k _ _ _) (over_Of.mono_l k _ _ _)))
def over_Of.f (k : Nat) (l0 l1 : List S25) : Option (List S25 × Int) :=
 (op_May.f k l0).bind fun e0 => if e0 = 0 then (op_May.f k l1).bind fun e1 => (if e1 = 0 then (op_In.f l0).bind fun n0 => (op_In.f l1).bind fun n1 => (if n0 = n1 then (normal_Of.f l0).bind fun a => (normal_Of.f l1).bind fun s => (over_Of.l k a s []).bind fun out => (normal_Of.f out).bind fun r => some (r, 0) else some ([], 5)) else some ([], e1)) else some ([], e0)
theorem over_Of.mono (l0 l1 : List S25) (k : Nat) : LeO (over_Of.f k l0 l1) (over_Of.f (k + 1) l0 l1) := by
 unfold over_Of.f
 exact LeO.bind (op_May.mono _ _) fun e0 => LeO.ite (LeO.bind (op_May.mono _ _) fun e1 => LeO.ite (LeO.bind (LeO.refl _) fun n0 => LeO.bind (LeO.refl _) fun n1 => LeO.ite (LeO.bind (LeO.refl _) fun a => LeO.bind (LeO.refl _) fun s => LeO.bind (over_Of.mono_l _ _ _ _) fun out => LeO.refl _) (LeO.refl _)) (LeO.refl _)) (LeO.refl _)
theorem OI_ex {w0 W : World} {p Ba Bs : Nat} {va vs : Value} {a s out : List S25} (h : OI w0 W p Ba Bs va vs a s out) : ∃ Ba Bs, OI w0 W p Ba Bs va vs a s out := ⟨_, _, h⟩
theorem cell_past {W W1 : World} {a : Addr} {v : Value} (hb : Below W.heap.size W W1) (h : W.cell? a = some v) : W1.cell? a = some v := (hb.cell (World.block_lt_of_cell? W _ h)).trans h
set_option maxHeartbeats 8000000 in
set_option maxRecDepth 100000 in
theorem over_Of.calls (k : Nat) (A0 : Option Addr) (c0 : Nat) (l0 : List S25) (A1 : Option Addr) (c1 : Nat) (l1 : List S25) (r1 : List S25) (r2 : Int) (w : World) (hr0 : Kd.C k25 w A0 l0.length l0) (hc0 : l0.length ≤ c0) (hr1 : Kd.C k25 w A1 l1.length l1) (hc1 : l1.length ≤ c1) (hT : Tabs w) (h : over_Of.f k l0 l1 = some (r1, r2)) :
  Calls Tryd.prog 13 #[.slice A0 l0.length c0, .slice A1 l1.length c1] w fun e w' => ∃ v0_ : Value, e = .returned (.tuple #[v0_, .int .i64 r2]) ∧ Kd.R k25 25 w' w.heap.size (fun _ => True) v0_ r1 ∧ Below w.heap.size w w' := by
 unfold over_Of.f at h
 have hmf : ∀ (fn : Fn) (first cap : Array Value) (w : World), (Instr.makeFunc fn first cap).run Tryd.prog w = .ok (.func fn first cap) w := fun _ _ _ _ => rfl
 have h2p : 2 < w.heap.size := by
  have := hT.2 0 (by decide)
  exact World.block_lt_of_cell? w _ this
 obtain ⟨e0, he0, h⟩ := Option.bind_eq_some_iff.mp h
 have HR0 := am hr0; have HC0 := am hc0; have HR1 := am hr1; have HC1 := am hc1; have HT := am hT; have HE0 := am he0; have H2P := am h2p
 clear h2p
 have HPA : ∀ (t : TypeId) (o : Array Value) , Aside0 (((w.alloc (.cells #[.slice none 0 0] 27)).alloc (.cells o t)).heap[w.heap.size]? = some (.cells #[.slice none 0 0] 27 (0, 0))) := fun t o => ⟨blk_alloc (heap_alloc_new w _) _⟩
 have HBA : ∀ (t : TypeId) (o : Array Value) , Aside0 (Below w.heap.size w ((w.alloc (.cells #[.slice none 0 0] 27)).alloc (.cells o t))) := fun t o => ⟨(below_alloc (Below.refl _ _) _).alloc (by simp) _⟩
 have HSA : ∀ (t : TypeId) (o : Array Value) , Aside0 (((w.alloc (.cells #[.slice none 0 0] 27)).alloc (.cells o t)).heap[w.heap.size + 1]? = some (.cells o t (0, 0))) := fun t o => ⟨by have := heap_alloc_new (w.alloc (.cells #[.slice none 0 0] 27)) (.cells o t); simpa using this⟩
 by_cases z0 : e0 = 0
 ·subst z0
  rw [if_pos rfl] at h
  obtain ⟨e1, he1, h⟩ := Option.bind_eq_some_iff.mp h
  have HE1 := am he1
  by_cases z1 : e1 = 0
  ·subst z1
   rw [if_pos rfl] at h
   obtain ⟨n0, hn0, h⟩ := Option.bind_eq_some_iff.mp h
   obtain ⟨n1, hn1, h⟩ := Option.bind_eq_some_iff.mp h
   have HN0 := am hn0; have HN1 := am hn1
   by_cases z2 : n0 = n1
   ·rw [if_pos z2] at h
    obtain ⟨la, hla, h⟩ := Option.bind_eq_some_iff.mp h
    obtain ⟨ls, hls, h⟩ := Option.bind_eq_some_iff.mp h
    obtain ⟨out, hout, h⟩ := Option.bind_eq_some_iff.mp h
    obtain ⟨r, hr, h⟩ := Option.bind_eq_some_iff.mp h
    simp only [Option.some.injEq, Prod.mk.injEq] at h
    obtain ⟨rfl, rfl⟩ := h
    have z2b : (n0 != n1) = false := bne_eq_false_iff_eq.mpr z2
    have HLA := am hla; have HLS := am hls; have HOUT := am hout; have HRR := am hr
    clear hr0 hc0 hr1 hc1 hT he0 he1 hn0 hn1 z2 hla hls hout hr
    go_enter_defers Tryd.func13, Tryd.ntmps13
    go_wp2
    go_loopw [7, 8, 14] (fun _ _ v14 wr => ∃ j : Nat, v14 = .int .i64 j ∧ j ≤ 2 ∧ Aside0 (wr.heap[w.heap.size + 1]? = some (.cells #[.slice A0 l0.length c0, .slice A1 l1.length c1] 27 (0, 0))) ∧ Aside0 (wr.heap[w.heap.size]? = some (.cells #[.slice none 0 0] 27 (0, 0))) ∧ Aside0 (Below w.heap.size w wr)) (fun _ _ v14 _ => 2 - (intOf v14).toNat)
    case atStart => exact ⟨0, rfl, by omega, HSA _ _, HPA _ _, HBA _ _⟩
    case round =>
     obtain ⟨j, rfl, hj, HS, HP, HB⟩ := hrel
     obtain ⟨k0, k1⟩ := compose_Of.cells2 HS.out
     rcases (by omega : j = 0 ∨ j = 1 ∨ j = 2) with rfl | rfl | rfl
     ·go_wp2_with (go_at_call 46; (with_reducible refine (op_May.calls k A0 c0 l0 0 _ (Kd.C_below HR0.out HB.out) HC0.out (Tabs.below HT.out HB.out) HE0.out).mono ?_); rintro e w1 ⟨rfl, hb⟩; have HS1 := am (blk_below HS.out hb); have HP1 := am (blk_below HP.out hb); have HB1 := am (below_then HB.out HB.out.size hb); clear hb)
      go_round
      case measure => decide
      case rel => exact ⟨1, rfl, by omega, HS1, HP1, HB1⟩
     ·go_wp2_with (go_at_call 46; (with_reducible refine (op_May.calls k A1 c1 l1 0 _ (Kd.C_below HR1.out HB.out) HC1.out (Tabs.below HT.out HB.out) HE1.out).mono ?_); rintro e w1 ⟨rfl, hb⟩; have HS1 := am (blk_below HS.out hb); have HP1 := am (blk_below HP.out hb); have HB1 := am (below_then HB.out HB.out.size hb); clear hb)
      go_round
      case measure => decide
      case rel => exact ⟨2, rfl, by omega, HS1, HP1, HB1⟩
     ·go_wp2_with (first | (go_at_call 20; (with_reducible refine (op_In.calls A0 c0 l0 n0 _ (Kd.C_below HR0.out HB.out) HC0.out (Tabs.below HT.out HB.out) HN0.out).mono ?_); rintro e w1 ⟨rfl, hb⟩; have HP1 := am (blk_below HP.out hb); have HS1 := am (blk_lt (blk_below HS.out hb)); have HB1 := am (below_then HB.out HB.out.size hb); clear hb) | (go_at_call 20; (with_reducible refine (op_In.calls A1 c1 l1 n1 _ (Kd.C_below HR1.out HB1.out) HC1.out (Tabs.below HT.out HB1.out) HN1.out).mono ?_); rintro e w2 ⟨rfl, hb⟩; have HB2 := am (below_then HB1.out HB1.out.size hb); have HP2 := am (blk_below HP1.out hb); have HS2 := am (Nat.lt_of_lt_of_le HS1.out hb.size); clear hb) | (go_at_call 33; (with_reducible refine (normal_Of.calls A0 c0 l0 la _ (Kd.C_below HR0.out HB2.out) HC0.out HLA.out).mono ?_); rintro e w3 ⟨va, rfl, ho, hb⟩; have HOA := am ho; have HBA3 := am hb; have HB3 := am (below_then HB2.out HB2.out.size hb); clear ho hb) | (go_at_call 33; (with_reducible refine (normal_Of.calls A1 c1 l1 ls _ (Kd.C_below HR1.out HB3.out) HC1.out HLS.out).mono ?_); rintro e w4 ⟨vs, rfl, ho, hb⟩; obtain ⟨Ba, Bs, hoi⟩ := OI_ex (OI_new HOA.out HBA3.out ho hb HP2.out HB2.out (Nat.le_refl _) H2P.out HS2.out); have HOI := am hoi; clear ho hb HOA HBA3 hoi))
      go_loopg [0, 1] k (fun kq v0 v1 wr => ∃ (a : List S25) (s : List S25) (ot : List S25), Aside0 (over_Of.l kq a s ot = some out) ∧ Aside0 (OI w wr w.heap.size Ba Bs v0 v1 a s ot) ∧ Aside0 (kq ≤ k))
      case atStart => exact ⟨_, _, _, HOUT, HOI, ⟨Nat.le_refl _⟩⟩
      case round =>
       clear HOI
       obtain ⟨a, s, ot, HA, HOI, HK1⟩ := hrel
       cases gk with
       | zero => exact absurd HA.out (by simp [over_Of.l])
       | succ k1 =>
        have H := HA.out
        clear HA
        rw [over_Of.l] at H
        by_cases hlen : ot.length < 1000000000
        ·rw [if_pos hlen] at H
         have HLEN := am hlen
         clear hlen
         obtain ⟨vo, hcp, hRo⟩ := HOI.out.2.2.1
         have HCP := am hcp; have HRO := am hRo
         have cp : wr.cell? ⟨w.heap.size, 0, none⟩ = some vo := (blk_cell hcp 0).trans rfl
         have fp : wr.frozen? ⟨w.heap.size, 0, none⟩ = false := blk_frozen hcp 0
         clear hcp hRo
         have HOD := am (OI_below HOI.out (below_drew (Below.refl _ _)))
         have HCD := am (blk_drew HCP.out)
         have HQA := am HOI.out.1; have HQS := am HOI.out.2.1
         cases s with
         | nil =>
          obtain ⟨As, cs_, rfl, hcs, _⟩ := Kd.Q_reads HQS.out
          have HCS := am hcs
          clear hcs
          cases a with
          | nil =>
           obtain rfl : ot = out := Option.some.inj H
           clear H
           obtain ⟨Aa, ca, rfl, hca, _⟩ := Kd.Q_reads HQA.out
           obtain ⟨AE, cE, rfl, hcE, _⟩ := Kd.R_reads HRO.out
           have HCE := am hcE
           clear hca hcE
           go_wp2
           refine leaves_cons (f := 47) (args := #[.pointer (some ⟨w.heap.size, 0, none⟩)]) (by simp) (by simp [go_sem]) ?_
           refine (over_Of.door w _ w.heap.size cE AE ot r (blk_put HCP.out 0 _ rfl) (Kd.R_far (p := ⟨w.heap.size, 0, none⟩) HRO.out (fun k ho => ho.2.2) _ |> fun q => Kd.R_mono q (fun _ _ => trivial)) HCE.out (HOI.out.2.2.2.1.setCell (p := ⟨w.heap.size, 0, none⟩) (Nat.le_refl _) _) (Nat.le_refl _) HRR.out).mono ?_
           rintro e u' w'' ⟨rfl, rfl, v, hpv, hRv, hBv⟩
           obtain ⟨A9, c9, rfl, hc9, _⟩ := Kd.R_reads hRv
           have k9 : w''.cell? ⟨w.heap.size, 0, none⟩ = some (.slice A9 r.length c9) := (blk_cell hpv 0).trans rfl
           have HR9 := am hRv; have HB9 := am hBv
           clear hRv hBv hpv hc9
           dsimp only
           simp [Leaves, settle, results, Tryd.results13, go_sem, k9]
           exact ⟨HR9.out, HB9.out⟩
          | cons x a' =>
           by_cases x2 : x.f0 = 2
           ·rw [over_Of.st, if_pos x2] at H
            have H' := am H
            obtain ⟨oa, ca, rfl, hca, x0, x1, x2c, fza, hba1, hba2, htya⟩ := QS_open HQA.out
            have p1 : (0 < a'.length + 1) = True := eq_true (by omega)
            have HCA := am hca
            clear hba1 hba2 htya hca fza
            have x2b : (x.f0 == 2) = true := beq_iff_eq.mpr x2
            clear H x2
            obtain ⟨A3, c3, hcut, hcq, hc3⟩ := over_Of.cutq ca (some ⟨Ba, oa, none⟩) x a' HCA.out
            clear hc3
            have cpa : (wr.alloc (.cells #[.int .i64 x.f0, .int .i64 x.f1, .string x.f2] 25)).cell? ⟨w.heap.size, 0, none⟩ = some vo := cell_past (below_alloc (Below.refl _ _) _) cp
            go_wp2_with fail
            refine wp_region_noPanic ?_
            go_region_law ((refine OI_step x HOD.out HCD.out HLEN.out (.tmp 103) (.tmp 107) (by rfl) (by rfl) (by rfl) (by rfl) ?_; rintro _ w7 ⟨A7, n7, c7, rfl⟩ HO7 cp7 fp7))
            all_goals (refine NoPanic.normal ?_)
            all_goals go_wp2
            all_goals go_roundg k1
            all_goals first | exact compose_Of.lt HK1.out | exact ⟨_, _, _, H', ⟨OI_tail_a HO7.out (hcq.out _ _ _)⟩, ⟨Nat.le_of_succ_le HK1.out⟩⟩
           ·rw [over_Of.st, if_neg x2] at H; cases H
         | cons y s' =>
          obtain ⟨os, cs, rfl, hcs, y0, y1, y2c, fzs, hbs1, hbs2, htys⟩ := QS_open HQS.out
          have q1 : (0 < s'.length + 1) = True := eq_true (by omega)
          have HCS := am hcs
          clear hbs1 hbs2 htys hcs fzs
          by_cases y2 : y.f0 = 2
          ·have y2b : (y.f0 == 2) = true := beq_iff_eq.mpr y2
           cases a with
           | nil =>
            rw [over_Of.st, if_pos y2] at H
            clear y2
            obtain ⟨Aa, ca, rfl, hca, _⟩ := Kd.Q_reads HQA.out
            clear hca
            obtain ⟨n, hn, H⟩ := Option.bind_eq_some_iff.mp H
            have HSN := am hn; have H' := am H
            clear hn H
            obtain ⟨A3, c3, hcut, hcq, hc3⟩ := over_Of.cutq cs (some ⟨Bs, os, none⟩) y s' HCS.out
            clear hc3
            have HTD := am (Tabs.below HT.out HOD.out.2.2.2.1)
            go_wp2_with fail
            refine wp_region_noPanic ?_
            go_region_law (first | (refine OI_step (⟨1, n, ⟨#[]⟩⟩ : S25) HO5.out HC5.out HLEN.out (.tmp 82) (.tmp 88) (by rfl) (by rfl) (by rfl) (by rfl) ?_; rintro _ w7 ⟨A7, n7, c7, rfl⟩ HO7 cp7 fp7) | (go_simp; go_at_call 48; (with_reducible refine (span_Out.calls _ _ _ n _ HTD.out HSN.out).mono ?_); rintro e w5 ⟨rfl, hb⟩; have HO5 := am (OI_below HOD.out hb); have HC5 := am (blk_below HCD.out hb); have cp5 : w5.cell? ⟨w.heap.size, 0, none⟩ = some vo := (blk_cell HC5.out 0).trans rfl; have cpa : (w5.alloc (.cells #[.int .i64 1, .int .i64 n, .string ⟨#[]⟩] 25)).cell? ⟨w.heap.size, 0, none⟩ = some vo := cell_past (below_alloc (Below.refl _ _) _) cp5; clear hb))
            all_goals (refine NoPanic.normal ?_)
            all_goals go_wp2
            all_goals go_roundg k1
            all_goals first | exact compose_Of.lt HK1.out | exact ⟨_, _, _, H', ⟨OI_tail_s HO7.out (hcq.out _ _ _)⟩, ⟨Nat.le_of_succ_le HK1.out⟩⟩
           | cons x a' =>
            rw [over_Of.st, if_pos y2] at H
            clear y2
            obtain ⟨oa, ca, rfl, hca, x0, x1, x2c, fza, hba1, hba2, htya⟩ := QS_open HQA.out
            have p1 : (0 < a'.length + 1) = True := eq_true (by omega)
            have HCA := am hca
            clear hba1 hba2 htya hca fza
            obtain ⟨n, hn, H⟩ := Option.bind_eq_some_iff.mp H
            have HSN := am hn; have H' := am H
            clear hn H
            obtain ⟨A3, c3, hcut, hcq, hc3⟩ := over_Of.cutq cs (some ⟨Bs, os, none⟩) y s' HCS.out
            clear hc3
            have HTD := am (Tabs.below HT.out HOD.out.2.2.2.1)
            go_wp2_with fail
            refine wp_region_noPanic ?_
            go_region_law (first | (refine OI_step (⟨1, n, ⟨#[]⟩⟩ : S25) HO5.out HC5.out HLEN.out (.tmp 82) (.tmp 88) (by rfl) (by rfl) (by rfl) (by rfl) ?_; rintro _ w7 ⟨A7, n7, c7, rfl⟩ HO7 cp7 fp7) | (go_simp; go_at_call 48; (with_reducible refine (span_Out.calls _ _ _ n _ HTD.out HSN.out).mono ?_); rintro e w5 ⟨rfl, hb⟩; have HO5 := am (OI_below HOD.out hb); have HC5 := am (blk_below HCD.out hb); have cp5 : w5.cell? ⟨w.heap.size, 0, none⟩ = some vo := (blk_cell HC5.out 0).trans rfl; have cpa : (w5.alloc (.cells #[.int .i64 1, .int .i64 n, .string ⟨#[]⟩] 25)).cell? ⟨w.heap.size, 0, none⟩ = some vo := cell_past (below_alloc (Below.refl _ _) _) cp5; clear hb))
            all_goals (refine NoPanic.normal ?_)
            all_goals go_wp2
            all_goals go_roundg k1
            all_goals first | exact compose_Of.lt HK1.out | exact ⟨_, _, _, H', ⟨OI_tail_s HO7.out (hcq.out _ _ _)⟩, ⟨Nat.le_of_succ_le HK1.out⟩⟩
          ·have y2b : (y.f0 == 2) = false := beq_eq_false_iff_ne.mpr y2
           cases a with
           | nil => rw [over_Of.st, if_neg y2] at H; cases H
           | cons x a' =>
            obtain ⟨oa, ca, rfl, hca, x0, x1, x2c, fza, hba1, hba2, htya⟩ := QS_open HQA.out
            have p1 : (0 < a'.length + 1) = True := eq_true (by omega)
            have HCA := am hca
            clear hba1 hba2 htya hca fza
            by_cases x2 : x.f0 = 2
            ·rw [over_Of.st, if_neg y2] at H
             replace H := H
             simp only [x2, if_true] at H
             have H' := am H
             have x2b : (x.f0 == 2) = true := beq_iff_eq.mpr x2
             clear H x2 y2
             obtain ⟨A3, c3, hcut, hcq, hc3⟩ := over_Of.cutq ca (some ⟨Ba, oa, none⟩) x a' HCA.out
             clear hc3
             have cpa : (wr.alloc (.cells #[.int .i64 x.f0, .int .i64 x.f1, .string x.f2] 25)).cell? ⟨w.heap.size, 0, none⟩ = some vo := cell_past (below_alloc (Below.refl _ _) _) cp
             go_wp2_with fail
             refine wp_region_noPanic ?_
             go_region_law ((refine OI_step x HOD.out HCD.out HLEN.out (.tmp 103) (.tmp 107) (by rfl) (by rfl) (by rfl) (by rfl) ?_; rintro _ w7 ⟨A7, n7, c7, rfl⟩ HO7 cp7 fp7))
             all_goals (refine NoPanic.normal ?_)
             all_goals go_wp2
             all_goals go_roundg k1
             all_goals first | exact compose_Of.lt HK1.out | exact ⟨_, _, _, H', ⟨OI_tail_a HO7.out (hcq.out _ _ _)⟩, ⟨Nat.le_of_succ_le HK1.out⟩⟩
            ·rw [over_Of.st, if_neg y2] at H
             simp only [x2, if_false] at H
             have x2b : (x.f0 == 2) = false := beq_eq_false_iff_ne.mpr x2
             clear x2 y2
             obtain ⟨nm, hnm⟩ : ∃ nm, mn x.f1 y.f1 = nm := ⟨_, rfl⟩
             simp only [hnm] at H
             have hnm_ : (if y.f1 < x.f1 then y.f1 else x.f1) = nm := hnm
             clear hnm
             obtain ⟨a1, ha1, H⟩ := Option.bind_eq_some_iff.mp H
             obtain ⟨s1, hs1, H⟩ := Option.bind_eq_some_iff.mp H
             have HAC := am ha1; have HSC := am hs1
             clear ha1 hs1
             by_cases yk : y.f0 = 1
             ·rw [if_pos yk] at H
              have ykb : (y.f0 == 1) = true := beq_iff_eq.mpr yk
              have H' := am H
              clear H yk
              go_wp2_with fail
              refine wp_region_noPanic ?_
              go_quiet (fail)
              refine NoPanic.normal ?_
              have HON := am (OI_below HOI.out (below_drew (pw_below_drewN (Below.refl _ _) nq)))
              have HCN : Aside0 ((wr.drewN nq).drew.heap[w.heap.size]? = some (.cells #[vo] 27 (0, 0))) := ⟨HCP.out⟩
              have cpa : ((wr.drewN (nq + 1)).alloc (.cells #[.int .i64 x.f0, .int .i64 nm, .string ⟨#[]⟩] 25)).cell? ⟨w.heap.size, 0, none⟩ = some vo := cell_past (below_alloc (Below.refl _ _) _) cp
              go_wp2_with fail
              refine wp_region_noPanic ?_
              go_region_law ((refine OI_step (⟨x.f0, nm, ⟨#[]⟩⟩ : S25) HON.out HCN.out HLEN.out (.tmp 56) (.tmp 63) (by rfl) (by rfl) (by rfl) (by rfl) ?_; rintro _ w7 ⟨A7, n7, c7, rfl⟩ HOL cp7 fp7; have HLQ := am HOL.out.1; have HLB := am HOL.out.2.2.2.1))
              all_goals (refine NoPanic.normal ?_)
              all_goals go_wp2_with (first | (go_at_call 49; (with_reducible refine (over_Of.less w _ Ba _ (x :: a') nm a1 HLQ.out HLB.out HAC.out).mono ?_); rintro e w8 ⟨v8, rfl, hq, hb, hk⟩; have HO8 := am (OI_less_a HOL.out hq hb hk); have HO8S := am HO8.out.2.1; have HO8B := am HO8.out.2.2.2.1; clear hq hb hk) | (go_at_call 49; (with_reducible refine (over_Of.less w _ Bs _ (y :: s') nm s1 HO8S.out HO8B.out HSC.out).mono ?_); rintro e w9 ⟨v9, rfl, hq, hb, hk⟩; have HO9 := am (OI_less_s HO8.out hq hb hk); clear hq hb hk))
              all_goals go_roundg k1
              all_goals first | exact compose_Of.lt HK1.out | exact ⟨_, _, _, H', HO9, ⟨Nat.le_of_succ_le HK1.out⟩⟩
             ·rw [if_neg yk] at H
              have ykb : (y.f0 == 1) = false := beq_eq_false_iff_ne.mpr yk
              have H' := am H
              clear H yk
              go_wp2_with fail
              refine wp_region_noPanic ?_
              go_quiet (fail)
              refine NoPanic.normal ?_
              have HOL := am (OI_below HOI.out (pw_below_drewN (Below.refl _ _) nq))
              have HLQ := am HOL.out.1; have HLB := am HOL.out.2.2.2.1
              go_wp2_with (first | (go_at_call 49; (with_reducible refine (over_Of.less w _ Ba _ (x :: a') nm a1 HLQ.out HLB.out HAC.out).mono ?_); rintro e w8 ⟨v8, rfl, hq, hb, hk⟩; have HO8 := am (OI_less_a HOL.out hq hb hk); have HO8S := am HO8.out.2.1; have HO8B := am HO8.out.2.2.2.1; clear hq hb hk) | (go_at_call 49; (with_reducible refine (over_Of.less w _ Bs _ (y :: s') nm s1 HO8S.out HO8B.out HSC.out).mono ?_); rintro e w9 ⟨v9, rfl, hq, hb, hk⟩; have HO9 := am (OI_less_s HO8.out hq hb hk); clear hq hb hk))
              go_roundg k1
              case measure => exact compose_Of.lt HK1.out
              case rel => exact ⟨_, _, _, H', HO9, ⟨Nat.le_of_succ_le HK1.out⟩⟩
        ·rw [if_neg hlen] at H; cases H
   ·rw [if_neg z2] at h
    simp only [Option.some.injEq, Prod.mk.injEq] at h
    obtain ⟨rfl, rfl⟩ := h
    have z2b : (n0 != n1) = true := bne_iff_ne.mpr z2
    clear hr0 hc0 hr1 hc1 hT he0 he1 hn0 hn1 z2
    go_enter_defers Tryd.func13, Tryd.ntmps13
    go_wp2
    go_loopw [7, 8, 14] (fun _ _ v14 wr => ∃ j : Nat, v14 = .int .i64 j ∧ j ≤ 2 ∧ Aside0 (wr.heap[w.heap.size + 1]? = some (.cells #[.slice A0 l0.length c0, .slice A1 l1.length c1] 27 (0, 0))) ∧ Aside0 (wr.heap[w.heap.size]? = some (.cells #[.slice none 0 0] 27 (0, 0))) ∧ Aside0 (Below w.heap.size w wr)) (fun _ _ v14 _ => 2 - (intOf v14).toNat)
    case atStart => exact ⟨0, rfl, by omega, HSA _ _, HPA _ _, HBA _ _⟩
    case round =>
     obtain ⟨j, rfl, hj, HS, HP, HB⟩ := hrel
     obtain ⟨k0, k1⟩ := compose_Of.cells2 HS.out
     rcases (by omega : j = 0 ∨ j = 1 ∨ j = 2) with rfl | rfl | rfl
     ·go_wp2_with (go_at_call 46; (with_reducible refine (op_May.calls k A0 c0 l0 0 _ (Kd.C_below HR0.out HB.out) HC0.out (Tabs.below HT.out HB.out) HE0.out).mono ?_); rintro e w1 ⟨rfl, hb⟩; have HS1 := am (blk_below HS.out hb); have HP1 := am (blk_below HP.out hb); have HB1 := am (below_then HB.out HB.out.size hb); clear hb)
      go_round
      case measure => decide
      case rel => exact ⟨1, rfl, by omega, HS1, HP1, HB1⟩
     ·go_wp2_with (go_at_call 46; (with_reducible refine (op_May.calls k A1 c1 l1 0 _ (Kd.C_below HR1.out HB.out) HC1.out (Tabs.below HT.out HB.out) HE1.out).mono ?_); rintro e w1 ⟨rfl, hb⟩; have HS1 := am (blk_below HS.out hb); have HP1 := am (blk_below HP.out hb); have HB1 := am (below_then HB.out HB.out.size hb); clear hb)
      go_round
      case measure => decide
      case rel => exact ⟨2, rfl, by omega, HS1, HP1, HB1⟩
     ·go_wp2_with (first | (go_at_call 20; (with_reducible refine (op_In.calls A0 c0 l0 n0 _ (Kd.C_below HR0.out HB.out) HC0.out (Tabs.below HT.out HB.out) HN0.out).mono ?_); rintro e w1 ⟨rfl, hb⟩; have HP1 := am (blk_below HP.out hb); have HB1 := am (below_then HB.out HB.out.size hb); clear hb) | (go_at_call 20; (with_reducible refine (op_In.calls A1 c1 l1 n1 _ (Kd.C_below HR1.out HB1.out) HC1.out (Tabs.below HT.out HB1.out) HN1.out).mono ?_); rintro e w2 ⟨rfl, hb⟩; have HB2 := am (below_then HB1.out HB1.out.size hb); have HP2 := am (blk_below HP1.out hb); have cp2 : w2.cell? ⟨w.heap.size, 0, none⟩ = some (.slice none 0 0) := (blk_cell HP2.out 0).trans rfl; have fp2 : w2.frozen? ⟨w.heap.size, 0, none⟩ = false := blk_frozen HP2.out 0; clear hb))
      have k9 : (w2.setCell ⟨w.heap.size, 0, none⟩ (.slice none 0 0)).cell? ⟨w.heap.size, 0, none⟩ = some (.slice none 0 0) := (blk_cell (blk_put HP2.out 0 _ rfl) 0).trans rfl
      simp [bodyPostD, Leaves, settle, results, Tryd.results13, go_sem, k9]
      exact ⟨Kd.R_nil _ _ _ _ _, HB2.out.setCell (p := ⟨w.heap.size, 0, none⟩) (Nat.le_refl _) _⟩
  ·rw [if_neg z1] at h
   simp only [Option.some.injEq, Prod.mk.injEq] at h
   obtain ⟨rfl, rfl⟩ := h
   have z1b : (e1 != 0) = true := bne_iff_ne.mpr z1
   clear hr0 hc0 hr1 hc1 hT he0 he1 z1
   go_enter_defers Tryd.func13, Tryd.ntmps13
   go_wp2
   go_loopw [7, 8, 14] (fun _ _ v14 wr => ∃ j : Nat, v14 = .int .i64 j ∧ j ≤ 1 ∧ Aside0 (wr.heap[w.heap.size + 1]? = some (.cells #[.slice A0 l0.length c0, .slice A1 l1.length c1] 27 (0, 0))) ∧ Aside0 (wr.heap[w.heap.size]? = some (.cells #[.slice none 0 0] 27 (0, 0))) ∧ Aside0 (Below w.heap.size w wr)) (fun _ _ v14 _ => 2 - (intOf v14).toNat)
   case atStart => exact ⟨0, rfl, by omega, HSA _ _, HPA _ _, HBA _ _⟩
   case round =>
    obtain ⟨j, rfl, hj, HS, HP, HB⟩ := hrel
    obtain ⟨k0, k1⟩ := compose_Of.cells2 HS.out
    rcases (by omega : j = 0 ∨ j = 1) with rfl | rfl
    ·go_wp2_with (go_at_call 46; (with_reducible refine (op_May.calls k A0 c0 l0 0 _ (Kd.C_below HR0.out HB.out) HC0.out (Tabs.below HT.out HB.out) HE0.out).mono ?_); rintro e w1 ⟨rfl, hb⟩; have HS1 := am (blk_below HS.out hb); have HP1 := am (blk_below HP.out hb); have HB1 := am (below_then HB.out HB.out.size hb); clear hb)
     go_round
     case measure => decide
     case rel => exact ⟨1, rfl, by omega, HS1, HP1, HB1⟩
    ·go_wp2_with (go_at_call 46; (with_reducible refine (op_May.calls k A1 c1 l1 e1 _ (Kd.C_below HR1.out HB.out) HC1.out (Tabs.below HT.out HB.out) HE1.out).mono ?_); rintro e w1 ⟨rfl, hb⟩; have HP1 := am (blk_below HP.out hb); have HB1 := am (below_then HB.out HB.out.size hb); have cp1 : w1.cell? ⟨w.heap.size, 0, none⟩ = some (.slice none 0 0) := (blk_cell HP1.out 0).trans rfl; have fp1 : w1.frozen? ⟨w.heap.size, 0, none⟩ = false := blk_frozen HP1.out 0; clear hb)
     have k9 : (w1.setCell ⟨w.heap.size, 0, none⟩ (.slice none 0 0)).cell? ⟨w.heap.size, 0, none⟩ = some (.slice none 0 0) := (blk_cell (blk_put HP1.out 0 _ rfl) 0).trans rfl
     simp [bodyPostD, Leaves, settle, results, Tryd.results13, go_sem, k9]
     exact ⟨Kd.R_nil _ _ _ _ _, HB1.out.setCell (p := ⟨w.heap.size, 0, none⟩) (Nat.le_refl _) _⟩
 ·rw [if_neg z0] at h
  simp only [Option.some.injEq, Prod.mk.injEq] at h
  obtain ⟨rfl, rfl⟩ := h
  have z0b : (e0 != 0) = true := bne_iff_ne.mpr z0
  clear hr0 hc0 hr1 hc1 hT he0 z0
  go_enter_defers Tryd.func13, Tryd.ntmps13
  go_wp2
  go_loopw [7, 8, 14] (fun _ _ v14 wr => ∃ j : Nat, v14 = .int .i64 j ∧ j ≤ 0 ∧ Aside0 (wr.heap[w.heap.size + 1]? = some (.cells #[.slice A0 l0.length c0, .slice A1 l1.length c1] 27 (0, 0))) ∧ Aside0 (wr.heap[w.heap.size]? = some (.cells #[.slice none 0 0] 27 (0, 0))) ∧ Aside0 (Below w.heap.size w wr)) (fun _ _ v14 _ => 2 - (intOf v14).toNat)
  case atStart => exact ⟨0, rfl, by omega, HSA _ _, HPA _ _, HBA _ _⟩
  case round =>
   obtain ⟨j, rfl, hj, HS, HP, HB⟩ := hrel
   obtain ⟨k0, k1⟩ := compose_Of.cells2 HS.out
   obtain rfl : j = 0 := by omega
   go_wp2_with (go_at_call 46; (with_reducible refine (op_May.calls k A0 c0 l0 e0 _ (Kd.C_below HR0.out HB.out) HC0.out (Tabs.below HT.out HB.out) HE0.out).mono ?_); rintro e w1 ⟨rfl, hb⟩; have HP1 := am (blk_below HP.out hb); have HB1 := am (below_then HB.out HB.out.size hb); have cp1 : w1.cell? ⟨w.heap.size, 0, none⟩ = some (.slice none 0 0) := (blk_cell HP1.out 0).trans rfl; have fp1 : w1.frozen? ⟨w.heap.size, 0, none⟩ = false := blk_frozen HP1.out 0; clear hb)
   have k9 : (w1.setCell ⟨w.heap.size, 0, none⟩ (.slice none 0 0)).cell? ⟨w.heap.size, 0, none⟩ = some (.slice none 0 0) := (blk_cell (blk_put HP1.out 0 _ rfl) 0).trans rfl
   simp [bodyPostD, Leaves, settle, results, Tryd.results13, go_sem, k9]
   exact ⟨Kd.R_nil _ _ _ _ _, HB1.out.setCell (p := ⟨w.heap.size, 0, none⟩) (Nat.le_refl _) _⟩
theorem eqA25 (d : Nat) (w : World) (x0 y0 : Int) (x1 y1 : Int) (x2 y2 : ByteArray) :
  (Op.equalIn (d + 2) 25 (.agg #[.int .i64 x0, .int .i64 x1, .string x2]) (.agg #[.int .i64 y0, .int .i64 y1, .string y2])).run Tryd.prog w = .ok (x0 == y0 && (x1 == y1 && (x2.toList == y2.toList))) w := by
 refine eqA_of Tryd.underlying25 (by kernel_rfl) ?_
 refine eqf_cons (by rfl) (by go_simp; rfl) (by go_simp; rfl) (by go_simp) ?_
 refine eqf_cons (by rfl) (by go_simp; rfl) (by go_simp; rfl) (by go_simp) ?_
 exact eqf_last (by rfl) (by go_simp; rfl) (by go_simp; rfl) (by go_simp)
end Go.Proofs.YtegjegihcebimaaDoor.P
end
section
namespace Go.Proofs.YtegjegihcebimaaDoor.P
open Go.RowKit Go.Proofs.YtegjegihcebimaaDoorW.PrintWords Go.Proofs.YtegjegihcebimaaDoorW.PrintLast Go.Proofs.YtegjegihcebimaaDoorW.PrintMore
attribute [local go_sem] max2_int min2_int max_two min_two max_three min_three max_four min_four
set_option linter.unusedVariables false
set_option linter.unusedSimpArgs false
attribute [local go_sem high] eqA25
def epitomeref04_Same.l0 : Nat → List (S25) → List (S25) → Int → Option (Bool)
 | 0, _, _, _ => none
 | k + 1, x0, x1, x5 => if x5 < (x0.length : Int) then (if 0 ≤ x5 then (if x5 < (x1.length : Int) then (if (!(((rd_T25 x0 x5).f0) == ((rd_T25 x1 x5).f0)) || (!(((rd_T25 x0 x5).f1) == ((rd_T25 x1 x5).f1)) || (!((((rd_T25 x0 x5).f2).toList) == (((rd_T25 x1 x5).f2).toList))))) = true then (some false) else (epitomeref04_Same.l0 k x0 x1 (wrap64 (x5 + 1)))) else (none)) else (none)) else (some true)
def epitomeref04_Same.f (k : Nat) (l0 : List (S25)) (l1 : List (S25)) : Option (Bool) := if (l0.length : Int) = (l1.length : Int) then (epitomeref04_Same.l0 k l0 l1 0) else (some false)
theorem epitomeref04_Same.mono_l : ∀ k, (∀ y0 y1 y2, LeO (epitomeref04_Same.l0 k y0 y1 y2) (epitomeref04_Same.l0 (k + 1) y0 y1 y2))
 | 0 => fun _ _ _ r h => by simp [epitomeref04_Same.l0] at h
 | k + 1 => by
  have ih0 := epitomeref04_Same.mono_l k
  ·intro y0 y1 y2
   unfold epitomeref04_Same.l0
   repeat' first
   | (with_reducible exact ih0 _ _ _)
   | (with_reducible exact LeO.refl _)
   | (with_reducible exact LeO.none _)
   | (with_reducible refine LeO.ite ?_ ?_)
   | (with_reducible refine LeO.bind ?_ (fun _ => ?_))
   | exact ih0 _ _ _
   | exact LeO.none _
   | refine LeO.ite ?_ ?_
   | refine LeO.bind ?_ (fun _ => ?_)
theorem epitomeref04_Same.mono : ∀ a0 a1 k, LeO (epitomeref04_Same.f k a0 a1) (epitomeref04_Same.f (k + 1) a0 a1) := by
 intro a0 a1 k
 have ih0 := epitomeref04_Same.mono_l k
 unfold epitomeref04_Same.f
 repeat' first
   | (with_reducible exact ih0 _ _ _)
   | (with_reducible exact LeO.refl _)
   | (with_reducible exact LeO.none _)
   | (with_reducible refine LeO.ite ?_ ?_)
   | (with_reducible refine LeO.bind ?_ (fun _ => ?_))
   | exact ih0 _ _ _
   | exact LeO.none _
   | refine LeO.ite ?_ ?_
   | refine LeO.bind ?_ (fun _ => ?_)
set_option maxHeartbeats 8000000 in
set_option maxRecDepth 100000 in
theorem epitomeref04_Same.calls (k : Nat) (A0 : Option Addr) (c0 : Nat) (l0 : List (S25)) (A1 : Option Addr) (c1 : Nat) (l1 : List (S25)) (r : Bool) (w : World) (hr0 : Kd.C k25 w A0 l0.length l0) (hc0 : l0.length ≤ c0) (hr1 : Kd.C k25 w A1 l1.length l1) (hc1 : l1.length ≤ c1) (h : epitomeref04_Same.f k l0 l1 = some r) :
  Calls Tryd.prog 15 #[.slice A0 l0.length c0, .slice A1 l1.length c1] w fun e w' => e = .returned (.bool r) ∧ Drawn0 w w' := by
 have hu25 := Tryd.underlying25
 have HR0 := am hr0
 have HC0 := am hc0
 clear hr0 hc0
 have HR1 := am hr1
 have HC1 := am hc1
 clear hr1 hc1
 have H : (if (l0.length : Int) = (l1.length : Int) then (epitomeref04_Same.l0 k l0 l1 0) else (some false)) = some r := h
 clear h
 by_cases c3 : (l0.length : Int) = (l1.length : Int)
 ·rw [if_pos c3] at H
  have c3b0 : ((l0.length : Int) == (l1.length : Int)) = true := beq_iff_eq.mpr c3
  have c3b1 : ((l0.length : Int) != (l1.length : Int)) = false := bne_eq_false_iff_eq.mpr c3
  have c3b2 : (l0.length == l1.length) = true := by first | simpa using c3 | (simp at c3 ⊢; omega)
  clear c3
  have H' := am H
  clear H
  go_enter Tryd.func15, Tryd.ntmps15
  go_wp2
  repeat (go_quiet (fail); try go_wp2)
  go_loopg [5] k (fun kq v5 w' => ∃ (x5_1 : Int), v5 = .int .i64 x5_1 ∧ Aside0 (epitomeref04_Same.l0 kq l0 l1 x5_1 = some r) ∧ Aside0 (kq ≤ k) ∧ Drawn0 w w')
  case atStart => exact ⟨(0), pj, H', ⟨Nat.le_refl _⟩, by repeat (first | exact Drawn0.refl _ | apply Drawn0.step)⟩
  case round =>
   clear H'
   try clear c1
   try clear p2
   try clear c3
   try clear c3b0
   try clear c3b1
   try clear c3b2
   obtain ⟨x5_1, rfl, HA, HK1, ⟨m1, rfl⟩⟩ := hrel
   cases gk with
   | zero => exact absurd HA.out (by simp [epitomeref04_Same.l0])
   | succ k1 =>
    have H := HA.out
    clear HA
    simp only [epitomeref04_Same.l0] at H
    by_cases c4 : x5_1 < (l0.length : Int)
    ·rw [if_pos c4] at H
     have c4b0 : decide (x5_1 < (l0.length : Int)) = true := decide_eq_true c4
     clear c4
     by_cases c5 : 0 ≤ x5_1
     ·rw [if_pos c5] at H
      have c5b0 : decide (0 ≤ x5_1) = true := decide_eq_true c5
      clear c5
      by_cases c6 : x5_1 < (l1.length : Int)
      ·rw [if_pos c6] at H
       have c6b0 : decide (x5_1 < (l1.length : Int)) = true := decide_eq_true c6
       clear c6
       by_cases c7 : (!(((rd_T25 l0 x5_1).f0) == ((rd_T25 l1 x5_1).f0)) || (!(((rd_T25 l0 x5_1).f1) == ((rd_T25 l1 x5_1).f1)) || (!((((rd_T25 l0 x5_1).f2).toList) == (((rd_T25 l1 x5_1).f2).toList))))) = true
       ·rw [if_pos c7] at H
        have c7b0 : (!(((rd_T25 l0 x5_1).f0) == ((rd_T25 l1 x5_1).f0)) || (!(((rd_T25 l0 x5_1).f1) == ((rd_T25 l1 x5_1).f1)) || (!((((rd_T25 l0 x5_1).f2).toList) == (((rd_T25 l1 x5_1).f2).toList))))) = true := c7
        clear c7
        obtain rfl := Option.some.inj H
        simp only [Option.some.injEq, Prod.mk.injEq] at H
        obtain ⟨rfl⟩ := H
        have p126 : 0 ≤ (x5_1 : Int) := of_decide_eq_true as0
        have q126 : x5_1 < (l0.length : Int) := of_decide_eq_true as0
        obtain ⟨ad126, e126, hx126_0, hx126_1, hx126_2⟩ := at_T25 HR0.out x5_1 p126 q126
        cases e126
        replace p126 := eq_true p126
        replace q126 := eq_true q126
        have p127 : 0 ≤ (x5_1 : Int) := of_decide_eq_true as0
        have q127 : x5_1 < (l1.length : Int) := of_decide_eq_true as0
        obtain ⟨ad127, e127, hx127_0, hx127_1, hx127_2⟩ := at_T25 HR1.out x5_1 p127 q127
        cases e127
        replace p127 := eq_true p127
        replace q127 := eq_true q127
        go_wp2
        repeat (go_quiet (fail); try go_wp2)
        go_ret
        exact ⟨pj, by repeat (first | exact Drawn0.refl _ | apply Drawn0.step)⟩
       ·rw [if_neg c7] at H
        have c7b0 : (!(((rd_T25 l0 x5_1).f0) == ((rd_T25 l1 x5_1).f0)) || (!(((rd_T25 l0 x5_1).f1) == ((rd_T25 l1 x5_1).f1)) || (!((((rd_T25 l0 x5_1).f2).toList) == (((rd_T25 l1 x5_1).f2).toList))))) = false := by simpa using c7
        clear c7
        have H' := am H
        clear H
        have p126 : 0 ≤ (x5_1 : Int) := of_decide_eq_true as0
        have q126 : x5_1 < (l0.length : Int) := of_decide_eq_true as0
        obtain ⟨ad126, e126, hx126_0, hx126_1, hx126_2⟩ := at_T25 HR0.out x5_1 p126 q126
        cases e126
        replace p126 := eq_true p126
        replace q126 := eq_true q126
        have p127 : 0 ≤ (x5_1 : Int) := of_decide_eq_true as0
        have q127 : x5_1 < (l1.length : Int) := of_decide_eq_true as0
        obtain ⟨ad127, e127, hx127_0, hx127_1, hx127_2⟩ := at_T25 HR1.out x5_1 p127 q127
        cases e127
        replace p127 := eq_true p127
        replace q127 := eq_true q127
        go_wp2
        repeat (go_quiet (fail); try go_wp2)
        go_roundg k1
        case measure => have := HK1.out; omega
        case rel => exact ⟨(wrap64 (x5_1 + 1)), pj, H', ⟨by have := HK1.out; omega⟩, by repeat (first | exact Drawn0.refl _ | apply Drawn0.step)⟩
      ·rw [if_neg c6] at H
       exact absurd H (by simp)
     ·rw [if_neg c5] at H
      exact absurd H (by simp)
    ·rw [if_neg c4] at H
     have c4b0 : decide (x5_1 < (l0.length : Int)) = false := decide_eq_false c4
     clear c4
     obtain rfl := Option.some.inj H
     simp only [Option.some.injEq, Prod.mk.injEq] at H
     obtain ⟨rfl⟩ := H
     go_wp2
     repeat (go_quiet (fail); try go_wp2)
     go_ret
     exact ⟨pj, by repeat (first | exact Drawn0.refl _ | apply Drawn0.step)⟩
 ·rw [if_neg c3] at H
  have c3b0 : ((l0.length : Int) == (l1.length : Int)) = false := beq_eq_false_iff_ne.mpr c3
  have c3b1 : ((l0.length : Int) != (l1.length : Int)) = true := bne_iff_ne.mpr c3
  have c3b2 : (l0.length == l1.length) = false := by first | simpa using c3 | (simp at c3 ⊢; omega)
  obtain rfl := Option.some.inj H
  simp only [Option.some.injEq, Prod.mk.injEq] at H
  obtain ⟨rfl⟩ := H
  go_enter Tryd.func15, Tryd.ntmps15
  go_wp2
  repeat (go_quiet (fail); try go_wp2)
  go_ret
  exact ⟨pj, by repeat (first | exact Drawn0.refl _ | apply Drawn0.step)⟩
end Go.Proofs.YtegjegihcebimaaDoor.P
end
section
namespace Go.Proofs.YtegjegihcebimaaDoor.P
open Go.RowKit Go.Proofs.YtegjegihcebimaaDoorW.PrintWords Go.Proofs.YtegjegihcebimaaDoorW.PrintLast Go.Proofs.YtegjegihcebimaaDoorW.PrintMore
attribute [local go_sem] max2_int min2_int max_two min_two max_three min_three max_four min_four
set_option linter.unusedVariables false
set_option linter.unusedSimpArgs false
def epitometop_row.l0 : Nat → ByteArray → List (S25) → Int → Option ((List (S25)))
 | 0, _, _, _ => none
 | k + 1, x0, x3, x4 => if (wrap64 (x4 + 1)) < (x0.size : Int) then (if 0 ≤ (wrap64 (x4 + 1)) then (if 0 ≤ x4 then (if x4 < (x0.size : Int) then (if (bt x0 x4) = 107 then (if x3.length < 4398046511104 then (epitometop_row.l0 k x0 (x3 ++ [(⟨1, ((bt x0 (wrap64 (x4 + 1))) - 48) % 256, (⟨#[]⟩ : ByteArray)⟩ : S25)]) (wrap64 (x4 + 2))) else (none)) else (if (bt x0 x4) = 100 then (if x3.length < 4398046511104 then (epitometop_row.l0 k x0 (x3 ++ [(⟨3, ((bt x0 (wrap64 (x4 + 1))) - 48) % 256, (⟨#[]⟩ : ByteArray)⟩ : S25)]) (wrap64 (x4 + 2))) else (none)) else (if x4 ≤ (wrap64 (x4 + 1)) then (if (wrap64 (x4 + 1)) ≤ (x0.size : Int) then (if x3.length < 4398046511104 then (epitometop_row.l0 k x0 (x3 ++ [(⟨2, 0, x0.extract (x4 : Int).toNat ((wrap64 (x4 + 1)) : Int).toNat⟩ : S25)]) (wrap64 (x4 + 2))) else (none)) else (none)) else (none)))) else (none)) else (none)) else (none)) else (some x3)
def epitometop_row.f (k : Nat) (a0 : ByteArray) : Option ((List (S25))) := epitometop_row.l0 k a0 (([] : List (S25))) 0
theorem epitometop_row.mono_l : ∀ k, (∀ y0 y1 y2, LeO (epitometop_row.l0 k y0 y1 y2) (epitometop_row.l0 (k + 1) y0 y1 y2))
 | 0 => fun _ _ _ r h => by simp [epitometop_row.l0] at h
 | k + 1 => by
  have ih0 := epitometop_row.mono_l k
  ·intro y0 y1 y2
   unfold epitometop_row.l0
   repeat' first
   | (with_reducible exact ih0 _ _ _)
   | (with_reducible exact LeO.refl _)
   | (with_reducible exact LeO.none _)
   | (with_reducible refine LeO.ite ?_ ?_)
   | (with_reducible refine LeO.bind ?_ (fun _ => ?_))
   | exact ih0 _ _ _
   | exact LeO.none _
   | refine LeO.ite ?_ ?_
   | refine LeO.bind ?_ (fun _ => ?_)
theorem epitometop_row.mono : ∀ a0 k, LeO (epitometop_row.f k a0) (epitometop_row.f (k + 1) a0) := by
 intro a0 k
 have ih0 := epitometop_row.mono_l k
 unfold epitometop_row.f
 repeat' first
   | (with_reducible exact ih0 _ _ _)
   | (with_reducible exact LeO.refl _)
   | (with_reducible exact LeO.none _)
   | (with_reducible refine LeO.ite ?_ ?_)
   | (with_reducible refine LeO.bind ?_ (fun _ => ?_))
   | exact ih0 _ _ _
   | exact LeO.none _
   | refine LeO.ite ?_ ?_
   | refine LeO.bind ?_ (fun _ => ?_)
set_option maxHeartbeats 8000000 in
set_option maxRecDepth 100000 in
theorem epitometop_row.calls (k : Nat) (a0 : ByteArray) (r : List (S25)) (w : World) (h : epitometop_row.f k a0 = some r) :
  Calls Tryd.prog 39 #[.string a0] w fun e w' => ∃ v0_ : Value, e = .returned (v0_) ∧ Kd.R k25 25 w' w.heap.size (fun _ => True) v0_ r ∧ Below w.heap.size w w' := by
 have hu25 := Tryd.underlying25
 have HB := am (Below.refl w.heap.size w)
 have H : (epitometop_row.l0 k a0 (([] : List (S25))) 0) = some r := h
 clear h
 obtain ⟨y128, hy128⟩ : ∃ y_ : List (S25), y_ = (([] : List (S25))) := ⟨_, rfl⟩
 replace H : (epitometop_row.l0 k a0 y128 0) = some r := by first | (rw [hy128]; with_reducible exact H) | (have H2_ := (Option.bind_some _ _).symm.trans H; rw [hy128]; with_reducible exact H2_) | (have H2_ := (Option.bind_some _ _).symm.trans H; with_reducible exact H2_) | with_reducible exact H | (rw [hy128]; exact H) | exact H
 have Ny128 := am hy128
 clear hy128
 have H' := am H
 clear H
 go_enter Tryd.func39, Tryd.ntmps39
 go_wp2_with (first | ((with_reducible refine gate_dst (N := 6) rfl ?_); refine Kd.R_lit k25 _ 25 ?hg (N := 6) ?hd (xs := ([] : List (S25))) (inner := []) (ok := fun _ => True) (okp := fun _ => True) ?hr ?hp (fun _ hk => hk) trivial (Below.refl _ _) (Nat.le_refl _) (by simp) ?_; (case hd => rfl); (case hg => rfl); (case hr => first | (go_simp; done) | (go_simp; rfl)); (case hp => exact (Reps.none _ _)); intro v129 w2 ho3 hb hg_ hnew_; clear hg_ hnew_; (first | rw [← Ny128.out] at ho3 | (simp only [Int.reduceToNat] at ho3; rw [← Ny128.out] at ho3)); have n0_ := am (Kd.R_lower ho3 (below_size bl)); have n1_ := am (below_step bl hb); clear HB; have HO130 := n0_; have HB := n1_; clear n0_ n1_; clear hb ho3))
 go_loopg [3, 4] k (fun kq v3 v4 w' => ∃ (x3_1 : List (S25)) (x4_1 : Int), v4 = .int .i64 x4_1 ∧ Aside0 (epitometop_row.l0 kq a0 x3_1 x4_1 = some r) ∧ Aside0 (kq ≤ k) ∧ Aside0 (Kd.R k25 25 w' w.heap.size (fun _ => True) v3 x3_1) ∧ Aside0 (Below w.heap.size w w'))
 case atStart => exact ⟨(y128), (0), pj, H', ⟨Nat.le_refl _⟩, ⟨by refine kR ?_; exact HO130.out⟩, ⟨bl⟩⟩
 case round =>
  clear H'
  try clear p2
  try clear c3
  obtain ⟨x3_1, x4_1, rfl, HA, HK1, HO_3, HB⟩ := hrel
  cases gk with
  | zero => exact absurd HA.out (by simp [epitometop_row.l0])
  | succ k1 =>
   have H := HA.out
   clear HA
   simp only [epitometop_row.l0] at H
   by_cases c4 : (wrap64 (x4_1 + 1)) < (a0.size : Int)
   ·rw [if_pos c4] at H
    have c4b0 : decide ((wrap64 (x4_1 + 1)) < (a0.size : Int)) = true := decide_eq_true c4
    clear c4
    obtain ⟨ji5, hji5⟩ : ∃ j_ : Int, (wrap64 (x4_1 + 1)) = j_ := ⟨_, rfl⟩
    replace H : (if 0 ≤ (ji5) then (if 0 ≤ x4_1 then (if x4_1 < (a0.size : Int) then (if (bt a0 x4_1) = 107 then (if x3_1.length < 4398046511104 then (epitometop_row.l0 k1 a0 (x3_1 ++ [(⟨1, ((bt a0 (ji5)) - 48) % 256, (⟨#[]⟩ : ByteArray)⟩ : S25)]) (wrap64 (x4_1 + 2))) else (none)) else (if (bt a0 x4_1) = 100 then (if x3_1.length < 4398046511104 then (epitometop_row.l0 k1 a0 (x3_1 ++ [(⟨3, ((bt a0 (ji5)) - 48) % 256, (⟨#[]⟩ : ByteArray)⟩ : S25)]) (wrap64 (x4_1 + 2))) else (none)) else (if x4_1 ≤ (ji5) then (if (ji5) ≤ (a0.size : Int) then (if x3_1.length < 4398046511104 then (epitometop_row.l0 k1 a0 (x3_1 ++ [(⟨2, 0, a0.extract (x4_1 : Int).toNat ((ji5) : Int).toNat⟩ : S25)]) (wrap64 (x4_1 + 2))) else (none)) else (none)) else (none)))) else (none)) else (none)) else (none)) = some r := by first | (rw [hji5] at H; exact H) | (simp only [hji5] at H ⊢; exact H)
    (try rw [hji5] at c4b0)
    have hji5w : (IntKind.i64.wrap (x4_1 + 1)) = ji5 := (i64_w _).trans hji5
    by_cases c6 : 0 ≤ (ji5)
    ·rw [if_pos c6] at H
     have c6b0 : decide (0 ≤ (ji5)) = true := decide_eq_true c6
     clear c6
     by_cases c8 : 0 ≤ x4_1
     ·rw [if_pos c8] at H
      have c8b0 : decide (0 ≤ x4_1) = true := decide_eq_true c8
      clear c8
      by_cases c9 : x4_1 < (a0.size : Int)
      ·rw [if_pos c9] at H
       have c9b0 : decide (x4_1 < (a0.size : Int)) = true := decide_eq_true c9
       clear c9
       by_cases c11 : (bt a0 x4_1) = 107
       ·rw [if_pos c11] at H
        have c11b0 : ((bt a0 x4_1) == 107) = true := beq_iff_eq.mpr c11
        have c11b1 : ((bt a0 x4_1) != 107) = false := bne_eq_false_iff_eq.mpr c11
        clear c11
        by_cases c12 : x3_1.length < 4398046511104
        ·rw [if_pos c12] at H
         have LMc12 := am c12
         clear c12
         obtain ⟨y131, hy131⟩ : ∃ y_ : List (S25), y_ = (x3_1 ++ [(⟨1, ((bt a0 (ji5)) - 48) % 256, (⟨#[]⟩ : ByteArray)⟩ : S25)]) := ⟨_, rfl⟩
         replace H : (epitometop_row.l0 k1 a0 y131 (wrap64 (x4_1 + 2))) = some r := by first | (rw [hy131]; with_reducible exact H) | (have H2_ := (Option.bind_some _ _).symm.trans H; rw [hy131]; with_reducible exact H2_) | (have H2_ := (Option.bind_some _ _).symm.trans H; with_reducible exact H2_) | with_reducible exact H | (rw [hy131]; exact H) | exact H
         have Ny131 := am hy131
         clear hy131
         have H' := am H
         clear H
         have p7 : 0 ≤ ((ji5) : Int) := of_decide_eq_true as0
         have q7 : (ji5) < (a0.size : Int) := of_decide_eq_true as0
         have hx7 := bt_at a0 (ji5)
         replace p7 := eq_true p7
         replace q7 := eq_true q7
         have p10 : 0 ≤ (x4_1 : Int) := of_decide_eq_true as0
         have q10 : x4_1 < (a0.size : Int) := of_decide_eq_true as0
         have hx10 := bt_at a0 x4_1
         replace p10 := eq_true p10
         replace q10 := eq_true q10
         go_wp2_with (first | ((with_reducible refine gate_builtin (b := .append) (xs := #[.tmp 34, .tmp 37]) rfl ?_); at_builtin; refine Kd.R_append k25 (w0 := w) w.heap.size rfl (.tmp 34) (.tmp 37) 27 25 (.agg #[(.int .i64 0), (.int .i64 0), (.string ⟨#[]⟩)]) 32 rfl Tryd.underlying27 info25 rfl (by decide) (by omega) u3 x3_1 (⟨1, ((bt a0 (ji5)) - 48) % 256, (⟨#[]⟩ : ByteArray)⟩ : S25) [.int .i64 1, .int .i64 (((bt a0 (ji5)) - 48) % 256), .string (⟨#[]⟩ : ByteArray)] (fun _ => True) (fun _ => False) rfl rfl ?aP (fun _ hk => hk.elim) ?aF ?aO ?aB ?aS ?aL ?_; (case aP => exact k25_mkM _ _ _ (⟨1, ((bt a0 (ji5)) - 48) % 256, (⟨#[]⟩ : ByteArray)⟩ : S25)); (case aB => exact bl); (case aF => exact (fun _ _ => trivial)); (case aO => exact (by refine kR ?_; exact HO_3.out)); (case aS => exact (below_size bl)); (case aL => have := LMc12.out; omega); intro v132 w13 ho hb hg hat; rw [← Ny131.out] at ho; have n0_ := am (hb); have n1_ := am (ho); clear HB; clear HO_3; have HB := n0_; have HO133 := n1_; clear n0_ n1_; clear ho hb hg hat))
         go_roundg k1
         case measure => have := HK1.out; omega
         case rel => exact ⟨(y131), (wrap64 (x4_1 + 2)), pj, H', ⟨by have := HK1.out; omega⟩, ⟨by refine kR ?_; exact HO133.out⟩, ⟨bl⟩⟩
        ·rw [if_neg c12] at H
         exact absurd H (by simp)
       ·rw [if_neg c11] at H
        have c11b0 : ((bt a0 x4_1) == 107) = false := beq_eq_false_iff_ne.mpr c11
        have c11b1 : ((bt a0 x4_1) != 107) = true := bne_iff_ne.mpr c11
        by_cases c14 : (bt a0 x4_1) = 100
        ·rw [if_pos c14] at H
         have c14b0 : ((bt a0 x4_1) == 100) = true := beq_iff_eq.mpr c14
         have c14b1 : ((bt a0 x4_1) != 100) = false := bne_eq_false_iff_eq.mpr c14
         clear c14
         by_cases c15 : x3_1.length < 4398046511104
         ·rw [if_pos c15] at H
          have LMc15 := am c15
          clear c15
          obtain ⟨y134, hy134⟩ : ∃ y_ : List (S25), y_ = (x3_1 ++ [(⟨3, ((bt a0 (ji5)) - 48) % 256, (⟨#[]⟩ : ByteArray)⟩ : S25)]) := ⟨_, rfl⟩
          replace H : (epitometop_row.l0 k1 a0 y134 (wrap64 (x4_1 + 2))) = some r := by first | (rw [hy134]; with_reducible exact H) | (have H2_ := (Option.bind_some _ _).symm.trans H; rw [hy134]; with_reducible exact H2_) | (have H2_ := (Option.bind_some _ _).symm.trans H; with_reducible exact H2_) | with_reducible exact H | (rw [hy134]; exact H) | exact H
          have Ny134 := am hy134
          clear hy134
          have H' := am H
          clear H
          have p7 : 0 ≤ ((ji5) : Int) := of_decide_eq_true as0
          have q7 : (ji5) < (a0.size : Int) := of_decide_eq_true as0
          have hx7 := bt_at a0 (ji5)
          replace p7 := eq_true p7
          replace q7 := eq_true q7
          have p10 : 0 ≤ (x4_1 : Int) := of_decide_eq_true as0
          have q10 : x4_1 < (a0.size : Int) := of_decide_eq_true as0
          have hx10 := bt_at a0 x4_1
          replace p10 := eq_true p10
          replace q10 := eq_true q10
          go_wp2_with (first | ((with_reducible refine gate_builtin (b := .append) (xs := #[.tmp 41, .tmp 44]) rfl ?_); at_builtin; refine Kd.R_append k25 (w0 := w) w.heap.size rfl (.tmp 41) (.tmp 44) 27 25 (.agg #[(.int .i64 0), (.int .i64 0), (.string ⟨#[]⟩)]) 32 rfl Tryd.underlying27 info25 rfl (by decide) (by omega) u3 x3_1 (⟨3, ((bt a0 (ji5)) - 48) % 256, (⟨#[]⟩ : ByteArray)⟩ : S25) [.int .i64 3, .int .i64 (((bt a0 (ji5)) - 48) % 256), .string (⟨#[]⟩ : ByteArray)] (fun _ => True) (fun _ => False) rfl rfl ?aP (fun _ hk => hk.elim) ?aF ?aO ?aB ?aS ?aL ?_; (case aP => exact k25_mkM _ _ _ (⟨3, ((bt a0 (ji5)) - 48) % 256, (⟨#[]⟩ : ByteArray)⟩ : S25)); (case aB => exact bl); (case aF => exact (fun _ _ => trivial)); (case aO => exact (by refine kR ?_; exact HO_3.out)); (case aS => exact (below_size bl)); (case aL => have := LMc15.out; omega); intro v135 w16 ho hb hg hat; rw [← Ny134.out] at ho; have n0_ := am (hb); have n1_ := am (ho); clear HB; clear HO_3; have HB := n0_; have HO136 := n1_; clear n0_ n1_; clear ho hb hg hat))
          go_roundg k1
          case measure => have := HK1.out; omega
          case rel => exact ⟨(y134), (wrap64 (x4_1 + 2)), pj, H', ⟨by have := HK1.out; omega⟩, ⟨by refine kR ?_; exact HO136.out⟩, ⟨bl⟩⟩
         ·rw [if_neg c15] at H
          exact absurd H (by simp)
        ·rw [if_neg c14] at H
         have c14b0 : ((bt a0 x4_1) == 100) = false := beq_eq_false_iff_ne.mpr c14
         have c14b1 : ((bt a0 x4_1) != 100) = true := bne_iff_ne.mpr c14
         have c17b0 := eq_true (of_decide_eq_true as0 : 0 ≤ x4_1)
         by_cases c18 : x4_1 ≤ (ji5)
         ·rw [if_pos c18] at H
          have c18b0 := eq_true c18
          have c18b1 : decide (x4_1 ≤ (ji5)) = true := decide_eq_true c18
          clear c18
          by_cases c19 : (ji5) ≤ (a0.size : Int)
          ·rw [if_pos c19] at H
           have c19b0 := eq_true c19
           have c19b1 : decide ((ji5) ≤ (a0.size : Int)) = true := decide_eq_true c19
           clear c19
           by_cases c20 : x3_1.length < 4398046511104
           ·rw [if_pos c20] at H
            have LMc20 := am c20
            clear c20
            obtain ⟨y137, hy137⟩ : ∃ y_ : List (S25), y_ = (x3_1 ++ [(⟨2, 0, a0.extract (x4_1 : Int).toNat ((ji5) : Int).toNat⟩ : S25)]) := ⟨_, rfl⟩
            replace H : (epitometop_row.l0 k1 a0 y137 (wrap64 (x4_1 + 2))) = some r := by first | (rw [hy137]; with_reducible exact H) | (have H2_ := (Option.bind_some _ _).symm.trans H; rw [hy137]; with_reducible exact H2_) | (have H2_ := (Option.bind_some _ _).symm.trans H; with_reducible exact H2_) | with_reducible exact H | (rw [hy137]; exact H) | exact H
            have Ny137 := am hy137
            clear hy137
            have H' := am H
            clear H
            have p7 : 0 ≤ ((ji5) : Int) := of_decide_eq_true as0
            have q7 : (ji5) < (a0.size : Int) := of_decide_eq_true as0
            have hx7 := bt_at a0 (ji5)
            replace p7 := eq_true p7
            replace q7 := eq_true q7
            have p10 : 0 ≤ (x4_1 : Int) := of_decide_eq_true as0
            have q10 : x4_1 < (a0.size : Int) := of_decide_eq_true as0
            have hx10 := bt_at a0 x4_1
            replace p10 := eq_true p10
            replace q10 := eq_true q10
            go_wp2_with (first | ((with_reducible refine gate_builtin (b := .append) (xs := #[.tmp 23, .tmp 30]) rfl ?_); at_builtin; refine Kd.R_append k25 (w0 := w) w.heap.size rfl (.tmp 23) (.tmp 30) 27 25 (.agg #[(.int .i64 0), (.int .i64 0), (.string ⟨#[]⟩)]) 32 rfl Tryd.underlying27 info25 rfl (by decide) (by omega) u3 x3_1 (⟨2, 0, a0.extract (x4_1 : Int).toNat ((ji5) : Int).toNat⟩ : S25) [.int .i64 2, .int .i64 0, .string (a0.extract (x4_1 : Int).toNat ((ji5) : Int).toNat)] (fun _ => True) (fun _ => False) rfl rfl ?aP (fun _ hk => hk.elim) ?aF ?aO ?aB ?aS ?aL ?_; (case aP => exact k25_mkM _ _ _ (⟨2, 0, a0.extract (x4_1 : Int).toNat ((ji5) : Int).toNat⟩ : S25)); (case aB => exact bl); (case aF => exact (fun _ _ => trivial)); (case aO => exact (by refine kR ?_; exact HO_3.out)); (case aS => exact (below_size bl)); (case aL => have := LMc20.out; omega); intro v138 w21 ho hb hg hat; rw [← Ny137.out] at ho; have n0_ := am (hb); have n1_ := am (ho); clear HB; clear HO_3; have HB := n0_; have HO139 := n1_; clear n0_ n1_; clear ho hb hg hat))
            go_roundg k1
            case measure => have := HK1.out; omega
            case rel => exact ⟨(y137), (wrap64 (x4_1 + 2)), pj, H', ⟨by have := HK1.out; omega⟩, ⟨by refine kR ?_; exact HO139.out⟩, ⟨bl⟩⟩
           ·rw [if_neg c20] at H
            exact absurd H (by simp)
          ·rw [if_neg c19] at H
           exact absurd H (by simp)
         ·rw [if_neg c18] at H
          exact absurd H (by simp)
      ·rw [if_neg c9] at H
       exact absurd H (by simp)
     ·rw [if_neg c8] at H
      exact absurd H (by simp)
    ·rw [if_neg c6] at H
     exact absurd H (by simp)
   ·rw [if_neg c4] at H
    have c4b0 : decide ((wrap64 (x4_1 + 1)) < (a0.size : Int)) = false := decide_eq_false c4
    clear c4
    obtain rfl := Option.some.inj H
    simp only [Option.some.injEq, Prod.mk.injEq] at H
    obtain ⟨rfl⟩ := H
    go_wp2
    go_ret
    exact ⟨_, by first | rfl | (simp [errW_none, errW_some] <;> rfl) | (simp [*, errW_none, errW_some] <;> rfl), by refine kR ?_; exact HO_3.out, bl⟩
end Go.Proofs.YtegjegihcebimaaDoor.P
end
