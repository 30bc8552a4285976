/- Part 12 of the proof of topTwo_holds: out of the texts that this session's programs wrote, what the theorem reaches. -/
import Derived.BigQuiet
import Derived.BigRegion
import Derived.Deep.QuietTactic
import Derived.Deep.RegionHeld3
import Derived.Deep.RegionLaw
import Derived.Lib.OthersKept
import Derived.Lib.Walk
import Derived.Outline
import Derived.ScopeJumps
import Derived.StillTailTactics
import Derived.Test.YtegjegihcebimaaDoorZ6
import Derived.WalkMore
section
namespace Go.Proofs.YtegjegihcebimaaDoor.P
open Go.RowKit Go.Proofs.YtegjegihcebimaaDoorW.PrintWords Go.Proofs.YtegjegihcebimaaDoorW.PrintLast Go.Proofs.YtegjegihcebimaaDoorW.PrintMore
attribute [local go_sem] max2_int min2_int max_two min_two max_three min_three max_four min_four
set_option linter.unusedVariables false
set_option linter.unusedSimpArgs false
def OW (w0 W : World) (p Ba Bs : Nat) (va vs : Value) (a s out : List S25) (g : Nat) (C : Array Value) : Prop := OI w0 W p Ba Bs va vs a s out ∧ W.heap[g]? = some (.cells C 125 (0, 0))
theorem OW_below {w0 W W1 : World} {p Ba Bs g : Nat} {va vs : Value} {a s out : List S25} {C : Array Value} (h : OW w0 W p Ba Bs va vs a s out g C) (hb : Below W.heap.size W W1) : OW w0 W1 p Ba Bs va vs a s out g C := ⟨OI_below h.1 hb, blk_below h.2 hb⟩
theorem OW_app {w0 W W1 : World} {p Ba Bs g : Nat} {va vs v v1 : Value} {a s out : List S25} {C : Array Value} {x : S25} (h : OW w0 W p Ba Bs va vs a s out g C) (hv : W.heap[p]? = some (.cells #[v] 27 (0, 0))) (hR : Kd.R k25 25 W w0.heap.size (fun k => k ≠ Ba ∧ k ≠ Bs ∧ k ≠ p) v out)
  (hO : Kd.R k25 25 W1 w0.heap.size (fun k => k ≠ Ba ∧ k ≠ Bs ∧ k ≠ p) v1 (out ++ [x])) (hB : Below w0.heap.size w0 W1) (hg : W.grownBy W1 v.ownBlock) : OW w0 (W1.setCell ⟨p, 0, none⟩ v1) p Ba Bs va vs a s (out ++ [x]) g C := by
 refine ⟨OI_app h.1 hv hO hB hg, blk_far (blk_grown h.2 hg (Kd.R_ne hR h.2 (by decide))) (fun e => ?_) _⟩
 have h2 := h.2
 rw [e, hv] at h2
 injection h2 with h2
 injection h2 with _ h2
 exact absurd h2 (by decide)
theorem OW_row {w0 W : World} {p Ba Bs g : Nat} {va vs v : Value} {a s out : List S25} {C : Array Value} (h : OW w0 W p Ba Bs va vs a s out g C) (hv : W.heap[p]? = some (.cells #[v] 27 (0, 0))) : Kd.R k25 25 W w0.heap.size (fun k => k ≠ Ba ∧ k ≠ Bs ∧ k ≠ p) v out := by
 obtain ⟨⟨h1, h2, ⟨v', h3, h4⟩, h5, h6, h7, h8⟩, -⟩ := h
 obtain rfl : v' = v := by
  rw [h3] at hv
  injection hv with hv
  injection hv with hv
  injection hv with hv
  injection hv with hv
 exact h4
theorem OW_append {ops : Array Oper} {o : Oper} {rest : List Oper} {act : Act} {Q : Exit → Act → World → Prop} {w0 W : World} {p Ba Bs g : Nat} {va vs v : Value} {a s out : List S25} {C : Array Value} (x : S25) (h : OW w0 W p Ba Bs va vs a s out g C) (hv : W.heap[p]? = some (.cells #[v] 27 (0, 0))) (hl : out.length < 1000000000)
  (t1 t2 : Operand) (hgd : o.guard = none) (ho : o.op = .call { callee := .builtin .append, args := #[t1, t2], argTypes := #[27, 27] }) (hs : act.eval t1 = v) (hx : act.eval t2 = .slice (some ⟨W.heap.size, 0, none⟩) 1 1)
  (hk : ∀ v1 w1, (∃ A1 n1 c1, v1 = .slice A1 n1 c1) → Aside0 (OW w0 (w1.setCell ⟨p, 0, none⟩ v1) p Ba Bs va vs a s (out ++ [x]) g C) → w1.cell? ⟨p, 0, none⟩ = some v → w1.frozen? ⟨p, 0, none⟩ = false → wpList Tryd.prog ops Q rest (act.put o.dst v1) w1) :
  wpList Tryd.prog ops Q (o :: rest) act (W.alloc (.cells #[.int .i64 x.f0, .int .i64 x.f1, .string x.f2] 25)) := by
 have hR := OW_row h hv
 refine Kd.R_append k25 (w0 := w0) (W := W) w0.heap.size hgd t1 t2 27 25 (.agg #[(.int .i64 0), (.int .i64 0), (.string ⟨#[]⟩)]) 32 ho Tryd.underlying27 info25 rfl (by decide) (by omega) v out x [.int .i64 x.f0, .int .i64 x.f1, .string x.f2] (fun k_ => k_ ≠ Ba ∧ k_ ≠ Bs ∧ k_ ≠ p) (fun _ => False) hs hx (k25_mkM _ _ _ _) (fun _ hk => hk.elim) (OI_fresh h.1) hR h.1.2.2.2.1 h.1.2.2.2.1.size (compose_Of.room hl) ?_
 intro v1 w1 ho hb hg hat
 have hK : Kept W w1 (fun k => v.ownBlock = some k) := Kept.of_grown hg (Kept.refl _ _) (fun k e => .inl e)
 have hp : w1.heap[p]? = some (.cells #[v] 27 (0, 0)) := blk_kept hv hK (fun e => (hR.1 _ e).2.2 rfl)
 obtain ⟨A1, c1, e1, _, _⟩ := Kd.R_reads ho
 exact hk v1 w1 ⟨_, _, _, e1⟩ ⟨OW_app h hv hR ho hb hg⟩ ((blk_cell hp 0).trans rfl) (blk_frozen hp 0)
theorem OW_step {ops : Array Oper} {o : Oper} {act : Act} {Q : Exit → Act → World → Prop} {Kc : Act → World → Prop} {w0 W : World} {p Ba Bs g : Nat} {va vs v : Value} {a s out : List S25} {C : Array Value} (x : S25) (h : OW w0 W p Ba Bs va vs a s out g C) (hv : W.heap[p]? = some (.cells #[v] 27 (0, 0))) (hl : out.length < 1000000000)
  (t1 t2 : Operand) (hw : Region.wanted o (yielded ops act.tmps) = true) (ho : o.op = .call { callee := .builtin .append, args := #[t1, t2], argTypes := #[27, 27] }) (hs : act.eval t1 = v) (hx : act.eval t2 = .slice (some ⟨W.heap.size, 0, none⟩) 1 1)
  (hk : ∀ v1 w1, (∃ A1 n1 c1, v1 = .slice A1 n1 c1) → Aside0 (OW w0 (w1.setCell ⟨p, 0, none⟩ v1) p Ba Bs va vs a s (out ++ [x]) g C) → w1.cell? ⟨p, 0, none⟩ = some v → w1.frozen? ⟨p, 0, none⟩ = false → Kc (act.put o.dst v1) w1) :
  if Region.wanted o (yielded ops act.tmps) = true then Oper.wp Tryd.prog o act (W.alloc (.cells #[.int .i64 x.f0, .int .i64 x.f1, .string x.f2] 25)) Kc Q else Kc (act.put o.dst undef) (W.alloc (.cells #[.int .i64 x.f0, .int .i64 x.f1, .string x.f2] 25)) := by
 have hR := OW_row h hv
 refine Kd.R_append_step k25 (w0 := w0) (W := W) w0.heap.size hw t1 t2 27 25 (.agg #[(.int .i64 0), (.int .i64 0), (.string ⟨#[]⟩)]) 32 ho Tryd.underlying27 info25 rfl (by decide) (by omega) v out x [.int .i64 x.f0, .int .i64 x.f1, .string x.f2] (fun k_ => k_ ≠ Ba ∧ k_ ≠ Bs ∧ k_ ≠ p) (fun _ => False) hs hx (k25_mkM _ _ _ _) (fun _ hk => hk.elim) (OI_fresh h.1) hR h.1.2.2.2.1 h.1.2.2.2.1.size (compose_Of.room hl) ?_
 intro v1 w1 ho hb hg hat
 have hK : Kept W w1 (fun k => v.ownBlock = some k) := Kept.of_grown hg (Kept.refl _ _) (fun k e => .inl e)
 have hp : w1.heap[p]? = some (.cells #[v] 27 (0, 0)) := blk_kept hv hK (fun e => (hR.1 _ e).2.2 rfl)
 obtain ⟨A1, c1, e1, _, _⟩ := Kd.R_reads ho
 exact hk v1 w1 ⟨_, _, _, e1⟩ ⟨OW_app h hv hR ho hb hg⟩ ((blk_cell hp 0).trans rfl) (blk_frozen hp 0)
set_option maxHeartbeats 8000000 in
set_option maxRecDepth 100000 in
theorem under_put.calls (w0 w : World) (p Ba Bs : Nat) (va vs : Value) (a s out : List S25) (g : Nat) (C : Array Value) (x : S25) (h : OW w0 w p Ba Bs va vs a s out g C) (hl : out.length < 1000000000) :
  Calls Tryd.prog 69 #[.agg #[.int .i64 x.f0, .int .i64 x.f1, .string x.f2], .pointer (some ⟨p, 0, none⟩)] w fun e w' => e = .returned (.tuple #[]) ∧ OW w0 w' p Ba Bs va vs a s (out ++ [x]) g C := by
 have HO := Aside0.mk (OW_below h (below_alloc (Below.refl w.heap.size w) (.cells #[.int .i64 x.f0, .int .i64 x.f1, .string x.f2] 25)))
 have HN := Aside0.mk (heap_alloc_new w (.cells #[.int .i64 x.f0, .int .i64 x.f1, .string x.f2] 25))
 have HL := Aside0.mk hl
 clear h hl
 go_enter Tryd.func69, Tryd.ntmps69
 go_upto_region 1 with (fail)
 generalize w.alloc (.cells #[.int .i64 x.f0, .int .i64 x.f1, .string x.f2] 25) = w1 at HO HN ⊢
 generalize w.heap.size = gb at HN ⊢
 have x0 : w1.cell? ⟨gb, 0, none⟩ = some (.int .i64 x.f0) := (blk_cell HN.out 0).trans rfl
 have x1 : w1.cell? ⟨gb, 1, none⟩ = some (.int .i64 x.f1) := (blk_cell HN.out 1).trans rfl
 have x2 : w1.cell? ⟨gb, 2, none⟩ = some (.string x.f2) := (blk_cell HN.out 2).trans rfl
 obtain ⟨v, hv, -⟩ := HO.out.1.2.2.1
 have HV := Aside0.mk hv
 have cp : w1.cell? ⟨p, 0, none⟩ = some v := (blk_cell hv 0).trans rfl
 clear hv HN
 go_wp2_with ((with_reducible refine gate_builtin (b := .append) (xs := #[.tmp 3, .tmp 5]) rfl ?_); at_builtin; refine OW_append x HO.out HV.out HL.out (.tmp 3) (.tmp 5) rfl rfl rfl rfl ?_; rintro _ w7 ⟨A7, n7, c7, rfl⟩ HO7 cp7 fp7)
 go_end0
 exact ⟨rfl, HO7.out⟩
set_option maxHeartbeats 8000000 in
set_option maxRecDepth 100000 in
theorem under_keep.calls (w0 w : World) (p Ba Bs : Nat) (va vs : Value) (a s out : List S25) (g : Nat) (C : Array Value) (x : S25) (n : Int) (hT : Tabs w) (h : OW w0 w p Ba Bs va vs a s out g C) (hl : out.length < 1000000000) (hn : span_Out.f x.f0 x.f1 x.f2 = some n) :
  Calls Tryd.prog 70 #[.agg #[.int .i64 x.f0, .int .i64 x.f1, .string x.f2], .pointer (some ⟨p, 0, none⟩)] w fun e w' => e = .returned (.tuple #[]) ∧ OW w0 w' p Ba Bs va vs a s (out ++ [⟨1, n, ⟨#[]⟩⟩]) g C := by
 have HO := Aside0.mk (OW_below h (below_alloc (Below.refl w.heap.size w) (.cells #[.int .i64 x.f0, .int .i64 x.f1, .string x.f2] 25)))
 have HN := Aside0.mk (heap_alloc_new w (.cells #[.int .i64 x.f0, .int .i64 x.f1, .string x.f2] 25))
 have HT := Aside0.mk (Tabs.below hT (below_alloc (Below.refl w.heap.size w) (.cells #[.int .i64 x.f0, .int .i64 x.f1, .string x.f2] 25)))
 have HL := Aside0.mk hl
 have HSN := Aside0.mk hn
 clear h hl hT hn
 go_enter Tryd.func70, Tryd.ntmps70
 go_upto_region 1 with (fail)
 generalize w.alloc (.cells #[.int .i64 x.f0, .int .i64 x.f1, .string x.f2] 25) = w1 at HO HN HT ⊢
 generalize w.heap.size = gb at HN ⊢
 have x0 : w1.cell? ⟨gb, 0, none⟩ = some (.int .i64 x.f0) := (blk_cell HN.out 0).trans rfl
 have x1 : w1.cell? ⟨gb, 1, none⟩ = some (.int .i64 x.f1) := (blk_cell HN.out 1).trans rfl
 have x2 : w1.cell? ⟨gb, 2, none⟩ = some (.string x.f2) := (blk_cell HN.out 2).trans rfl
 obtain ⟨v, hv, -⟩ := HO.out.1.2.2.1
 have HV := Aside0.mk hv
 have cp : w1.cell? ⟨p, 0, none⟩ = some v := (blk_cell hv 0).trans rfl
 have HOD := Aside0.mk (OW_below HO.out (below_drew1 (Below.refl w1.heap.size w1)))
 have HCD := Aside0.mk (blk_below hv (below_drew1 (Below.refl w1.heap.size w1)))
 have HTD := Aside0.mk (Tabs.below HT.out (below_drew1 (Below.refl w1.heap.size w1)))
 clear hv HN
 go_region_law (first | (refine OW_step (⟨1, n, ⟨#[]⟩⟩ : S25) HO5.out HC5.out HL.out (.tmp 3) (.tmp 7) (by rfl) (by rfl) (by rfl) (by rfl) ?_; rintro _ w7 ⟨A7, n7, c7, rfl⟩ HO7 cp7 fp7) | (go_simp; go_at_call 48; (with_reducible refine (span_Out.calls _ _ _ n _ HTD.out HSN.out).mono ?_); rintro e w5 ⟨rfl, hb⟩; have HO5 := Aside0.mk (OW_below HOD.out hb); have HC5 := Aside0.mk (blk_below HCD.out hb); have cp5 : w5.cell? ⟨p, 0, none⟩ = some v := (blk_cell HC5.out 0).trans rfl; have cpa : (w5.alloc (.cells #[.int .i64 1, .int .i64 n, .string ⟨#[]⟩] 25)).cell? ⟨p, 0, none⟩ = some v := cell_past (below_alloc (Below.refl _ _) _) cp5; clear hb))
 all_goals go_end0
 all_goals exact ⟨rfl, HO7.out⟩
set_option maxHeartbeats 8000000 in
set_option maxRecDepth 100000 in
theorem under_take.calls (w0 w : World) (p Ba Bs : Nat) (va vs : Value) (a s out : List S25) (g : Nat) (C : Array Value) (x y : S25) (n : Int) (h : OW w0 w p Ba Bs va vs a s out g C) (hl : out.length < 1000000000) :
  Calls Tryd.prog 71 #[.agg #[.int .i64 x.f0, .int .i64 x.f1, .string x.f2], .agg #[.int .i64 y.f0, .int .i64 y.f1, .string y.f2], .int .i64 n, .pointer (some ⟨p, 0, none⟩)] w fun e w' => e = .returned (.tuple #[]) ∧ OW w0 w' p Ba Bs va vs a s (if y.f0 = 1 then out ++ [⟨x.f0, n, ⟨#[]⟩⟩] else out) g C := by
 have HO1 := Aside0.mk (OW_below h (below_alloc (Below.refl w.heap.size w) (.cells #[.int .i64 x.f0, .int .i64 x.f1, .string x.f2] 25)))
 have HN1 := Aside0.mk (heap_alloc_new w (.cells #[.int .i64 x.f0, .int .i64 x.f1, .string x.f2] 25))
 have HL := Aside0.mk hl
 obtain ⟨o', eo⟩ : ∃ o', o' = (if y.f0 = 1 then out ++ [⟨x.f0, n, ⟨#[]⟩⟩] else out) := ⟨_, rfl⟩
 rw [← eo]
 have EO := Aside0.mk eo
 clear h hl eo
 go_enter Tryd.func71, Tryd.ntmps71
 go_upto_region 1 with (fail)
 have hsz : (w.alloc (.cells #[.int .i64 x.f0, .int .i64 x.f1, .string x.f2] 25)).heap.size = w.heap.size + 1 := by simp
 generalize w.alloc (.cells #[.int .i64 x.f0, .int .i64 x.f1, .string x.f2] 25) = w1 at HO1 HN1 hsz ⊢
 have HO := Aside0.mk (OW_below HO1.out (below_alloc (Below.refl w1.heap.size w1) (.cells #[.int .i64 y.f0, .int .i64 y.f1, .string y.f2] 25)))
 have HNx := Aside0.mk (blk_alloc HN1.out (.cells #[.int .i64 y.f0, .int .i64 y.f1, .string y.f2] 25))
 have HNy := Aside0.mk (heap_alloc_new w1 (.cells #[.int .i64 y.f0, .int .i64 y.f1, .string y.f2] 25))
 rw [hsz] at HNy
 clear hsz HO1 HN1
 generalize w1.alloc (.cells #[.int .i64 y.f0, .int .i64 y.f1, .string y.f2] 25) = w2 at HO HNx HNy ⊢
 generalize w.heap.size + 1 = gy at HNy ⊢
 generalize w.heap.size = gx at HNx ⊢
 have y0 : w2.cell? ⟨gy, 0, none⟩ = some (.int .i64 y.f0) := (blk_cell HNy.out 0).trans rfl
 have x0 : w2.cell? ⟨gx, 0, none⟩ = some (.int .i64 x.f0) := (blk_cell HNx.out 0).trans rfl
 obtain ⟨v, hv, -⟩ := HO.out.1.2.2.1
 have HV := Aside0.mk hv
 have cp : w2.cell? ⟨p, 0, none⟩ = some v := (blk_cell hv 0).trans rfl
 clear hv HNx HNy
 by_cases yk : y.f0 = 1
 ·have ykb : (y.f0 == 1) = true := beq_iff_eq.mpr yk
  have YK := Aside0.mk yk
  clear yk
  go_wp2_with ((with_reducible refine gate_builtin (b := .append) (xs := #[.tmp 10, .tmp 15]) rfl ?_); at_builtin; refine OW_append (⟨x.f0, n, ⟨#[]⟩⟩ : S25) HO.out HV.out HL.out (.tmp 10) (.tmp 15) rfl rfl rfl rfl ?_; rintro _ w7 ⟨A7, n7, c7, rfl⟩ HO7 cp7 fp7)
  go_end0
  exact ⟨rfl, by rw [EO.out, if_pos YK.out]; exact HO7.out⟩
 ·have ykb : (y.f0 == 1) = false := beq_eq_false_iff_ne.mpr yk
  have YK := Aside0.mk yk
  clear yk
  go_wp2
  go_end0
  exact ⟨rfl, by rw [EO.out, if_neg YK.out]; exact HO.out⟩
end Go.Proofs.YtegjegihcebimaaDoor.P
end
