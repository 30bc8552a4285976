/- Part 15 of the proof of topReplays_holds: out of the texts that this session's programs wrote, what the theorem reaches. -/
import Derived.BigQuiet
import Derived.BigRegion
import Derived.Deep.QuietTactic
import Derived.Deep.RegionHeld3
import Derived.Deep.RegionLaw
import Derived.Defers
import Derived.Laws.CopyOwn
import Derived.Laws.Cover3
import Derived.Laws.Cover4
import Derived.Lib.OthersKept
import Derived.Lib.Walk
import Derived.Outline
import Derived.ScopeJumps
import Derived.Shelf.Abstract
import Derived.StillTailTactics
import Derived.Test.YtegjegihcebimaaDoorZ10
import Derived.Test.YtegjegihcebimaaDoorZ13
import Derived.Test.YtegjegihcebimaaDoorZ2
import Derived.Test.YtegjegihcebimaaDoorZ6
import Derived.Test.YtegjegihcebimaaDoorZ7
import Derived.WalkMore
section
namespace Go.Proofs.YtegjegihcebimaaDoor.P
open Go.RowKit Go.Proofs.YtegjegihcebimaaDoorW.PrintWords Go.Proofs.YtegjegihcebimaaDoorW.PrintLast Go.Proofs.YtegjegihcebimaaDoorW.PrintMore
attribute [local go_sem] max2_int min2_int max_two min_two max_three min_three max_four min_four
set_option linter.unusedVariables false
set_option linter.unusedSimpArgs false
theorem eql_nil (a : Option Addr) (l c : Nat) (W : World) : (binOp .eql 27 (.slice a l c) (.slice none 0 0)).run Tryd.prog W = .ok (.bool a.isNone) W := by
 simp only [binOp]
 simp [run_equal_slice_nil W 27 _ a l c Tryd.underlying27]
theorem R_none {w : World} {b B : Nat} {ok : Nat → Prop} (h : w.heap[b]? = some (.cells #[] 25 (0, 0))) (hB : B ≤ b) (hok : ok b) : Kd.R k25 25 w B ok (.slice (some ⟨b, 0, none⟩) 0 0) [] := by
 refine ⟨fun k hk => ?_, [], ⟨rfl, .inr ⟨b, 0, #[], rfl, hB, h, Nat.le_refl _, by decide, rfl, rfl⟩⟩, rfl, fun j p hj => by simp at hj⟩
 have : b = k := by simpa [Value.ownBlock] using hk
 subst this; exact hok
set_option maxHeartbeats 8000000 in
set_option maxRecDepth 100000 in
theorem slices_Clone.calls (A : Option Addr) (c : Nat) (l : List S25) (w : World) (hr : Kd.C k25 w A l.length l) (hc : l.length ≤ c) (hl : l.length < 1000000) :
  Calls Tryd.prog 64 #[.slice A l.length c] w fun e w' => ∃ v : Value, e = .returned v ∧ Kd.R k25 25 w' w.heap.size (fun _ => True) v l ∧ Below w.heap.size w w' := by
 cases A with
 | none =>
  have h0 : l = [] := by
   cases l with
   | nil => rfl
   | cons x l =>
    obtain ⟨ad, e, _⟩ := hr.2.2 (by simp)
    cases e
  subst h0
  have hq := fun W => eql_nil none 0 c W
  have HB := Aside0.mk (Below.refl w.heap.size w)
  clear hr hc hl
  go_enter Tryd.func64, Tryd.ntmps64
  go_wp2
  go_ret
  exact ⟨_, rfl, Kd.R_nil _ _ _ _ _, HB.out⟩
 | some ad =>
  have hq := fun W => eql_nil (some ad) l.length c W
  have HR := Aside0.mk (Kd.C_alloc hr (.cells #[] 25)); have HL := Aside0.mk hl
  have HO := Aside0.mk (R_none (ok := fun _ => True) (heap_alloc_new w (.cells #[] 25)) (Nat.le_refl _) trivial)
  have HB := Aside0.mk (below_alloc (Below.refl w.heap.size w) (.cells #[] 25))
  clear hr hc hl
  go_enter Tryd.func64, Tryd.ntmps64
  go_wp2_with ((with_reducible refine gate_builtin (b := .append) (xs := #[.tmp 5, .tmp 6]) rfl ?_); at_builtin; refine Kd.R_append_rows k25 (Rr := fun x cs => cs = [.int .i64 x.f0, .int .i64 x.f1, .string x.f2]) (w0 := w) w.heap.size rfl (.tmp 5) (.tmp 6) 27 25 (.agg #[(.int .i64 0), (.int .i64 0), (.string ⟨#[]⟩)]) 32 rfl Tryd.underlying27 info25 rfl (by decide) (by omega) (.slice (some ⟨w.heap.size, 0, none⟩) 0 0) [] l (some ad) l.length c (fun k_ => True) (fun _ => False) rfl rfl HO.out ?aR (fun x cs h => by subst h; exact k25_mkM _ _ _ x) (fun _ h => h.elim) (fun _ _ => trivial) HB.out (by simp) ?aL ?_; (case aR => exact ReadsRow.imp_ HR.out (Below.refl _ _) (fun x cs h => k25_open h)); (case aL => have := HL.out; simp only [List.length_nil]; omega); intro v1 w1 ho hb hg hat; have HO1 := Aside0.mk ho; have HB1 := Aside0.mk hb; clear ho hb hg hat)
  go_ret
  exact ⟨_, rfl, HO1.out, HB1.out⟩
end Go.Proofs.YtegjegihcebimaaDoor.P
end
section
namespace Go.Proofs.YtegjegihcebimaaDoor.P
open Go.RowKit Go.Proofs.YtegjegihcebimaaDoorW.PrintWords Go.Proofs.YtegjegihcebimaaDoorW.PrintLast Go.Proofs.YtegjegihcebimaaDoorW.PrintMore
set_option linter.unusedVariables false
set_option linter.unusedSimpArgs false
structure LP (w W : World) (gc : Nat) (s : ByteArray) (u1 u2 vr vs : Value) (R : List Int) (L : List (List S25)) : Prop where
 HB : Below w.heap.size w W
 gw : w.heap.size ≤ gc
 HG : W.heap[gc]? = some (.cells #[.string s, u1, u2] 42 (0, 0))
 HR : Kd.R (Kd.int .i64) 3 W w.heap.size (fun k => k ≠ gc) vr R
 HS : Kd.S (Kd.slice 25 k25) 27 W w.heap.size (fun k => k ≠ gc ∧ some k ≠ vr.ownBlock) vs L
 H2 : W.heap[w.heap.size]? = some (.cells #[.string ⟨#[]⟩, .slice none 0 0, .slice none 0 0] 42 (0, 0))
 gn : w.heap.size ≠ gc
structure LQ (w W : World) (gc : Nat) (s : ByteArray) (u1 u2 vr vs : Value) (R : List Int) (L : List (List S25)) (N : Nat) (y : List S25) (vy : Value) (bx : Nat) (d8 d9 : Bool) : Prop where
 HB : Below w.heap.size w W
 gw : w.heap.size ≤ gc
 gN : gc < N
 wN : w.heap.size ≤ N
 NW : N ≤ W.heap.size
 HG : W.heap[gc]? = some (.cells #[.string s, u1, u2] 42 (0, 0))
 HR : Kd.R (Kd.int .i64) 3 W w.heap.size (fun k => k ≠ gc ∧ k < N) vr R
 HS : Kd.S (Kd.slice 25 k25) 27 W w.heap.size (fun k => (k ≠ gc ∧ some k ≠ vr.ownBlock) ∧ k < N) vs L
 HY : d8 = true → Kd.R k25 25 W w.heap.size (fun k => N ≤ k) vy y
 HX : d9 = true → W.heap[bx]? = some (.cells #[vy] 27 (0, 0))
 H2 : W.heap[w.heap.size]? = some (.cells #[.string ⟨#[]⟩, .slice none 0 0, .slice none 0 0] 42 (0, 0))
 gn : w.heap.size ≠ gc
section
variable {w W W1 : World} {gc N bx : Nat} {s : ByteArray} {u1 u2 vr vs vy : Value} {R : List Int} {L : List (List S25)} {y : List S25} {d8 d9 : Bool}
theorem LP.set1 (J : LP w W gc s u1 u2 vr vs R L) : LP w (W.setCell ⟨gc, 1, none⟩ vr) gc s vr u2 vr vs R L :=
 ⟨J.HB.setCell J.gw _, J.gw, blk_put J.HG 1 vr rfl, Kd.R_mono (Kd.R_far (p := ⟨gc, 1, none⟩) J.HR (fun _ hk => hk) _) (fun _ hk => hk), Kd.S_mono (Kd.S_far (p := ⟨gc, 1, none⟩) J.HS (fun _ hk => hk.1) _) (fun _ hk => hk), blk_far J.H2 J.gn _, J.gn⟩
theorem LP.set2 (J : LP w W gc s u1 u2 vr vs R L) : LP w (W.setCell ⟨gc, 2, none⟩ vs) gc s u1 vs vr vs R L :=
 ⟨J.HB.setCell J.gw _, J.gw, blk_put J.HG 2 vs rfl, Kd.R_mono (Kd.R_far (p := ⟨gc, 2, none⟩) J.HR (fun _ hk => hk) _) (fun _ hk => hk), Kd.S_mono (Kd.S_far (p := ⟨gc, 2, none⟩) J.HS (fun _ hk => hk.1) _) (fun _ hk => hk), blk_far J.H2 J.gn _, J.gn⟩
theorem LP.q (J : LP w W gc s u1 u2 vr vs R L) : LQ w W gc s u1 u2 vr vs R L W.heap.size y vs 0 false false :=
 ⟨J.HB, J.gw, blk_lt J.HG, J.HB.size, Nat.le_refl _, J.HG, Kd.R_mono (Kd.R_bound J.HR) (fun k hk => ⟨hk.1, hk.2.2.1⟩), Kd.S_mono (Kd.S_bound J.HS) (fun k hk => ⟨hk.1, hk.2.2.1⟩), fun e => (by cases e), fun e => (by cases e), J.H2, J.gn⟩
theorem LQ.below (J : LQ w W gc s u1 u2 vr vs R L N y vy bx d8 d9) (hb : Below W.heap.size W W1) : LQ w W1 gc s u1 u2 vr vs R L N y vy bx d8 d9 :=
 ⟨below_step J.HB hb, J.gw, J.gN, J.wN, Nat.le_trans J.NW hb.size, blk_below J.HG hb, Kd.R_below J.HR hb, Kd.S_below J.HS hb, fun e => Kd.R_below (J.HY e) hb, fun e => blk_below (J.HX e) hb, blk_below J.H2 hb, J.gn⟩
theorem LQ.e8 (J : LQ w W gc s u1 u2 vr vs R L N y vy bx false false) {v : Value} (hb : Below W.heap.size W W1) (ho : Kd.R k25 25 W1 W.heap.size (fun _ => True) v y) : LQ w W1 gc s u1 u2 vr vs R L N y v bx true false := by
 have J1 := J.below hb
 exact ⟨J1.HB, J1.gw, J1.gN, J1.wN, J1.NW, J1.HG, J1.HR, J1.HS, fun _ => Kd.R_lower (Kd.R_mono (Kd.R_bound ho) (fun k hk => Nat.le_trans J.NW hk.2.1)) (Nat.le_trans J.wN J.NW), fun e => (by cases e), J1.H2, J1.gn⟩
theorem LQ.e9 (J : LQ w W gc s u1 u2 vr vs R L N y vy bx true false) : LQ w (W.alloc (.cells #[vy] 27)) gc s u1 u2 vr vs R L N y vy W.heap.size true true := by
 have J1 := J.below (below_alloc (Below.refl W.heap.size W) (.cells #[vy] 27))
 exact ⟨J1.HB, J1.gw, J1.gN, J1.wN, J1.NW, J1.HG, J1.HR, J1.HS, J1.HY, fun _ => heap_alloc_new W _, J1.H2, J1.gn⟩
variable {ops : Array Oper} {o : Oper} {rest : List Oper} {a : Act} {Q : Exit → Act → World → Prop} {K : Act → World → Prop}
theorem LQ.e10 (J : LQ w W gc s u1 u2 vr vs R L N y vy bx true true) (hl : L.length < 1000000) (hw : Region.wanted o (yielded ops a.tmps) = true) (s' x : Operand)
  (ho : o.op = .call { callee := .builtin .append, args := #[s', x], argTypes := #[28, 28] }) (hs : a.eval s' = vs) (hx : a.eval x = .slice (some ⟨bx, 0, none⟩) 1 1)
  (h : ∀ A c W1, LP w W1 gc s u1 u2 vr (.slice A (L.length + 1) c) R (L ++ [y]) → K (a.put o.dst (.slice A (L.length + 1) c)) W1) :
  if Region.wanted o (yielded ops a.tmps) = true then Oper.wp Tryd.prog o a W K Q else K (a.put o.dst undef) W := by
 have Y := J.HY rfl
 have hvs : ∀ k, vs.ownBlock = some k → k < N := fun k hk => ((Kd.S_R J.HS).1 k hk).2
 have hvr : ∀ k, vr.ownBlock = some k → k < N := fun k hk => (J.HR.1 k hk).2
 have g1 := J.gN
 have g2 := J.NW
 refine Kd.S_append_box (Kd.slice 25 k25) (w0 := w) w.heap.size hw s' x 28 27 (.slice none 0 0) 24 ho Tryd.underlying28 info27 rfl (show (0 : Nat) < 1 by decide) (by decide) vs L y [vy] bx (fun k => k ≠ gc ∧ some k ≠ vr.ownBlock) (fun k => N ≤ k) hs hx (J.HX rfl) rfl (Kd.M_row Y) ?_ ?_ ?_ J.HB (Nat.le_trans J.wN J.NW) (by omega) ?_
 ·intro k hk
  exact ⟨⟨by omega, fun e => by have := hvr k e.symm; omega⟩, fun e => by have := hvs k e.symm; omega⟩
 ·intro k hk
  exact ⟨by omega, fun e => by have := hvr k e.symm; omega⟩
 ·exact Kd.S_mono J.HS (fun k hk => ⟨hk.1, by omega⟩)
 ·intro v1 w1 hS hB hg hat
  obtain ⟨A, c, rfl⟩ := Kd.S_slice hS
  rw [List.length_append, List.length_singleton] at hS hat ⊢
  exact h A c w1 ⟨hB, J.gw, blk_grown J.HG hg (Kd.S_ne J.HS J.HG (by decide)), Kd.R_mono (Kd.R_over' J.HR (Kd.S_typed J.HS) (by decide) hg) (fun k hk => hk.1), hS, blk_grown J.H2 hg (Kd.S_ne J.HS J.H2 (by decide)), J.gn⟩
theorem LP.e5 (J : LP w W gc s vr u2 vr vs R L) (n : Int) (hl : R.length < 1000000) (hgd : o.guard = none) (s' x : Operand)
  (ho : o.op = .call { callee := .builtin .append, args := #[s', x], argTypes := #[38, 38] }) (hs : a.eval s' = vr) (hx : a.eval x = .slice (some ⟨W.heap.size, 0, none⟩) 1 1)
  (h : ∀ A c W1, LP w W1 gc s vr u2 (.slice A (R.length + 1) c) vs (R ++ [n]) L → wpList Tryd.prog ops Q rest (a.put o.dst (.slice A (R.length + 1) c)) W1) :
  wpList Tryd.prog ops Q (o :: rest) a (W.alloc (.cells #[.int .i64 n] 3)) := by
 have g1 := blk_lt J.HG
 refine Kd.R_append (Kd.int .i64) (w0 := w) w.heap.size hgd s' x 38 3 (.int .i64 0) 8 ho Tryd.underlying38 info3 rfl (show (0 : Nat) < 1 by decide) (by decide) vr R n [.int .i64 n] (fun k => k ≠ gc) (fun _ => False) hs hx rfl (fun _ h => h.elim) (fun k hk => by omega) J.HR J.HB J.HB.size (by omega) ?_
 intro v1 w1 hR hB hg hat
 obtain ⟨A, c, rfl⟩ := Kd.R_slice hR
 rw [List.length_append, List.length_singleton] at hR hat ⊢
 exact h A c w1 ⟨hB, J.gw, blk_grown J.HG hg (Kd.R_ne J.HR J.HG (by decide)), hR, Kd.S_after (ok := fun k => k ≠ gc) J.HS hg hat, blk_grown J.H2 hg (Kd.R_ne J.HR J.H2 (by decide)), J.gn⟩
end
def hrevs (n : Nat) : List Int := (List.range (n + 1)).map fun i : Nat => (i : Int)
theorem hrevs_len (n : Nat) : (hrevs n).length = n + 1 := by simp [hrevs]
theorem hrevs_succ (n : Nat) : hrevs (n + 1) = hrevs n ++ [((n + 1 : Nat) : Int)] := by unfold hrevs; rw [List.range_succ (n := n + 1), List.map_append]; rfl
theorem LP.start (w : World) (s : ByteArray) : LP w (((w.alloc (.cells #[.string ⟨#[]⟩, .slice none 0 0, .slice none 0 0] 42)).alloc (.cells #[.int .i64 0] 3)).alloc (.cells #[.string s, .slice (some ⟨w.heap.size + 1, 0, none⟩) 1 1, .slice none 0 0] 42)) (w.heap.size + 1 + 1) s (.slice (some ⟨w.heap.size + 1, 0, none⟩) 1 1) (.slice none 0 0) (.slice (some ⟨w.heap.size + 1, 0, none⟩) 1 1) (.slice none 0 0) (hrevs 0) [] := by
 have z1 : (w.alloc (.cells #[.string ⟨#[]⟩, .slice none 0 0, .slice none 0 0] 42)).heap.size = w.heap.size + 1 := alloc_heap_size _ _
 have z2 : ((w.alloc (.cells #[.string ⟨#[]⟩, .slice none 0 0, .slice none 0 0] 42)).alloc (.cells #[.int .i64 0] 3)).heap.size = w.heap.size + 1 + 1 := by rw [alloc_heap_size, z1]
 have b1 := heap_alloc_new (w.alloc (.cells #[.string ⟨#[]⟩, .slice none 0 0, .slice none 0 0] 42)) (.cells #[.int .i64 0] 3)
 rw [z1] at b1
 have b2 := heap_alloc_new ((w.alloc (.cells #[.string ⟨#[]⟩, .slice none 0 0, .slice none 0 0] 42)).alloc (.cells #[.int .i64 0] 3)) (.cells #[.string s, .slice (some ⟨w.heap.size + 1, 0, none⟩) 1 1, .slice none 0 0] 42)
 rw [z2] at b2
 exact ⟨below_alloc (below_alloc (below_alloc (Below.refl _ _) _) _) _, by omega, b2, R_one (blk_alloc b1 _) (by omega) (show w.heap.size + 1 ≠ w.heap.size + 1 + 1 by omega), Kd.S_nil _ _ _ _ _, blk_alloc (blk_alloc (heap_alloc_new w _) _) _, by omega⟩
end Go.Proofs.YtegjegihcebimaaDoor.P
end
