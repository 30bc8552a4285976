/- Part 10 of the proof of topTwo_holds: out of the texts that this session's programs wrote, what the theorem reaches. -/
import Derived.Test.YtegjegihcebimaaDoorZ4
import Derived.Test.YtegjegihcebimaaDoorZ9
section
namespace Go.Proofs.YtegjegihcebimaaDoor.P
open Go.RowKit Go.Proofs.YtegjegihcebimaaDoorW.PrintWords Go.Proofs.YtegjegihcebimaaDoorW.PrintLast Go.Proofs.YtegjegihcebimaaDoorW.PrintMore
attribute [local go_sem] max2_int min2_int max_two min_two max_three min_three max_four min_four
set_option linter.unusedVariables false
set_option linter.unusedSimpArgs false
def Kf (w W : World) (P : Nat → Prop) : Prop := Below 0 w W ∧ Kept w W P
theorem Kf.refl (w : World) (P : Nat → Prop) : Kf w w P := ⟨Below.refl _ _, Kept.refl _ _⟩
theorem Kf.step {w W W1 : World} {P : Nat → Prop} (h : Kf w W P) (hb : Below W.heap.size W W1) : Kf w W1 P := ⟨below_then h.1 (Nat.zero_le _) hb, h.2.below hb⟩
theorem Kf.of {w W : World} (hb : Below w.heap.size w W) (P : Nat → Prop) : Kf w W P := (Kf.refl w P).step hb
theorem Kf.grown {w W W1 : World} {P : Nat → Prop} {row : Option Nat} (h : Kf w W P) (hg : W.grownBy W1 row) (hr : ∀ k, row = some k → P k ∨ w.heap.size ≤ k) : Kf w W1 P := ⟨h.1.grown hg (Nat.zero_le _) (fun _ _ => Nat.zero_le _), h.2.of_grown hg hr⟩
theorem Kf.set {w W : World} {P : Nat → Prop} (h : Kf w W P) {p : Addr} (hp : P p.block ∨ w.heap.size ≤ p.block) (u : Value) : Kf w (W.setCell p u) P := ⟨h.1.setCell (Nat.zero_le _) u, h.2.setCell hp u⟩
theorem Kf.size {w W : World} {P : Nat → Prop} (h : Kf w W P) : w.heap.size ≤ W.heap.size := h.2.1
theorem Kf.trans {w W W1 : World} {P Q : Nat → Prop} (h : Kf w W P) (k : Kf W W1 Q) (hq : ∀ k, Q k → P k ∨ w.heap.size ≤ k) : Kf w W1 P := ⟨h.1.trans k.1, h.2.then_ k.2 hq⟩
theorem Kf.below {w W : World} {P : Nat → Prop} {B : Nat} (h : Kf w W P) (hB : B ≤ w.heap.size) (hP : ∀ k, P k → B ≤ k) : Below B w W :=
 ⟨h.1.os, h.1.tape, h.1.output, h.2.1, fun i hi => h.2.2 i (by omega) (fun hp => by have := hP i hp; omega)⟩
def SI (w : World) (P : Nat → Prop) (g : Nat) (s : ByteArray) (r : List Int) (l : List (List S25)) (z : List Int) : Prop :=
 P g ∧ (∀ k, P k → k < w.heap.size) ∧ ∃ vr vl vz : Value, w.heap[g]? = some (.cells #[.string s, vr, vl, vz, .func (.func 89) #[] #[]] 120 (0, 0)) ∧ Kd.S (Kd.slice 25 k25) 27 w 0 (fun k => P k ∧ k ≠ g) vl l ∧ Kd.R (Kd.int .i64) 3 w 0 (fun k => (P k ∧ k ≠ g) ∧ some k ≠ vz.ownBlock) vr r ∧ Kd.R (Kd.int .i64) 3 w 0 (fun k => P k ∧ k ≠ g) vz z
theorem SI.kf {w W : World} {P Q : Nat → Prop} {g : Nat} {s : ByteArray} {r z : List Int} {l : List (List S25)} (h : SI w P g s r l z) (hk : Kf w W Q) (hd : ∀ k, P k → ¬ Q k) : SI W P g s r l z := by
 obtain ⟨h1, h2, vr, vl, vz, h3, h4, h5, h6⟩ := h
 exact ⟨h1, fun k hk' => Nat.lt_of_lt_of_le (h2 k hk') hk.size, vr, vl, vz, blk_kept h3 hk.2 (hd g h1), Kd.S_kept h4 hk.2 (fun k hk' => hd k hk'.1), Kd.R_kept h5 hk.2 (fun k hk' => hd k hk'.1.1), Kd.R_kept h6 hk.2 (fun k hk' => hd k hk'.1)⟩
theorem SI.below {w W : World} {P : Nat → Prop} {g : Nat} {s : ByteArray} {r z : List Int} {l : List (List S25)} (h : SI w P g s r l z) (hb : Below w.heap.size w W) : SI W P g s r l z := h.kf (Kf.of hb (fun _ => False)) (fun _ _ => id)
theorem SI.mono {w : World} {P Q : Nat → Prop} {g : Nat} {s : ByteArray} {r z : List Int} {l : List (List S25)} (h : SI w P g s r l z) (hp : ∀ k, P k → Q k) (hq : ∀ k, Q k → k < w.heap.size) : SI w Q g s r l z := by
 obtain ⟨h1, h2, vr, vl, vz, h3, h4, h5, h6⟩ := h
 exact ⟨hp g h1, hq, vr, vl, vz, h3, Kd.S_mono h4 (fun k hk => ⟨hp k hk.1, hk.2⟩), Kd.R_mono h5 (fun k hk => ⟨⟨hp k hk.1.1, hk.1.2⟩, hk.2⟩), Kd.R_mono h6 (fun k hk => ⟨hp k hk.1, hk.2⟩)⟩
theorem SI.reads {w : World} {P : Nat → Prop} {g : Nat} {s : ByteArray} {r z : List Int} {l : List (List S25)} (h : SI w P g s r l z) :
  ∃ Ar cr Al cl Az cz, w.heap[g]? = some (.cells #[.string s, .slice Ar r.length cr, .slice Al l.length cl, .slice Az z.length cz, .func (.func 89) #[] #[]] 120 (0, 0)) ∧ r.length ≤ cr ∧ l.length ≤ cl ∧ z.length ≤ cz ∧ Kd.C (Kd.int .i64) w Ar r.length r ∧ Kd.C (Kd.slice 25 k25) w Al l.length l ∧ Kd.C (Kd.int .i64) w Az z.length z := by
 obtain ⟨h1, h2, vr, vl, vz, h3, h4, h5, h6⟩ := h
 obtain ⟨Al, cl, rfl⟩ := Kd.S_slice h4
 obtain ⟨Ar, cr, rfl⟩ := Kd.R_slice h5
 obtain ⟨Az, cz, rfl⟩ := Kd.R_slice h6
 have r2 := Kd.S_reads' h4
 have r3 := Kd.R_reads' h5
 have r4 := Kd.R_reads' h6
 exact ⟨Ar, cr, Al, cl, Az, cz, h3, r3.2.1, r2.2.1, r4.2.1, r3.2.2, r2.2.2, r4.2.2⟩
structure SJ (w W : World) (P : Nat → Prop) (g : Nat) (s : ByteArray) (r : List Int) (l : List (List S25)) (z : List Int) (y : List S25) (rv q : Int) (vr vl vz vy v2 v4 : Value) (b1 b3 b5 : Nat) (d1 d2 d3 d4 d5 : Bool) : Prop where
 HK : Kf w W P
 PB : ∀ k, P k → k < w.heap.size
 Pg : P g
 HG : W.heap[g]? = some (.cells #[.string s, vr, vl, vz, .func (.func 89) #[] #[]] 120 (0, 0))
 HZ : Kd.R (Kd.int .i64) 3 W 0 (fun k => P k ∧ k ≠ g) vz z
 HR0 : d4 = false → Kd.R (Kd.int .i64) 3 W 0 (fun k => (P k ∧ k ≠ g) ∧ some k ≠ vz.ownBlock) vr r
 HR1 : d4 = true → Kd.R (Kd.int .i64) 3 W 0 (fun k => ((P k ∨ w.heap.size ≤ k) ∧ k ≠ g) ∧ some k ≠ vz.ownBlock) v4 (r ++ [rv])
 HL0 : d2 = false → Kd.S (Kd.slice 25 k25) 27 W 0 (fun k => P k ∧ k ≠ g) vl l
 HL1 : d2 = true → Kd.S (Kd.slice 25 k25) 27 W 0 (fun k => (P k ∨ w.heap.size ≤ k) ∧ k ≠ g) v2 (l ++ [y])
 HY : Kd.R k25 25 W 0 (fun k => w.heap.size ≤ k) vy y
 X1 : d1 = true → d2 = false → W.heap[b1]? = some (.cells #[vy] 27 (0, 0))
 X3 : d3 = true → d4 = false → W.heap[b3]? = some (.cells #[.int .i64 rv] 3 (0, 0))
 X5 : d5 = true → W.heap[b5]? = some (.cells #[.int .i64 q] 3 (0, 0)) ∧ w.heap.size ≤ b5
 Y3 : d3 = true → d4 = false → w.heap.size ≤ b3
section
variable {w W W1 : World} {P : Nat → Prop} {g b1 b3 b5 : Nat} {s : ByteArray} {r z : List Int} {l : List (List S25)} {y : List S25} {rv q : Int} {vr vl vz vy v2 v4 : Value} {d1 d2 d3 d4 d5 : Bool}
theorem SJ.start (h : SI w P g s r l z) (hb : Below w.heap.size w W) (hy : Kd.R k25 25 W w.heap.size (fun _ => True) vy y) : ∃ vr vl vz, SJ w W P g s r l z y rv q vr vl vz vy (.int .i64 0) (.int .i64 0) 0 0 0 false false false false false := by
 obtain ⟨h1, h2, vr, vl, vz, h3, h4, h5, h6⟩ := h
 exact ⟨vr, vl, vz, Kf.of hb _, h2, h1, blk_below h3 hb, Kd.R_below h6 hb, fun _ => Kd.R_below h5 hb, fun e => (by cases e), fun _ => Kd.S_below h4 hb, fun e => (by cases e), Kd.R_lower (Kd.R_mono (Kd.R_bound hy) (fun k hk => hk.2.1)) (Nat.zero_le _), fun e => (by cases e), fun e => (by cases e), fun e => (by cases e), fun e => (by cases e)⟩
theorem SJ.below (J : SJ w W P g s r l z y rv q vr vl vz vy v2 v4 b1 b3 b5 d1 d2 d3 d4 d5) (hb : Below W.heap.size W W1) : SJ w W1 P g s r l z y rv q vr vl vz vy v2 v4 b1 b3 b5 d1 d2 d3 d4 d5 :=
 ⟨J.HK.step hb, J.PB, J.Pg, blk_below J.HG hb, Kd.R_below J.HZ hb, fun e => Kd.R_below (J.HR0 e) hb, fun e => Kd.R_below (J.HR1 e) hb, fun e => Kd.S_below (J.HL0 e) hb, fun e => Kd.S_below (J.HL1 e) hb, Kd.R_below J.HY hb, fun e f => blk_below (J.X1 e f) hb, fun e f => blk_below (J.X3 e f) hb, fun e => ⟨blk_below (J.X5 e).1 hb, (J.X5 e).2⟩, J.Y3⟩
theorem SJ.e1 (J : SJ w W P g s r l z y rv q vr vl vz vy v2 v4 b1 b3 b5 false false d3 d4 d5) : SJ w (W.alloc (.cells #[vy] 27)) P g s r l z y rv q vr vl vz vy v2 v4 W.heap.size b3 b5 true false d3 d4 d5 := by
 have J1 := J.below (below_alloc (Below.refl W.heap.size W) (.cells #[vy] 27))
 exact ⟨J1.HK, J1.PB, J1.Pg, J1.HG, J1.HZ, J1.HR0, J1.HR1, J1.HL0, J1.HL1, J1.HY, fun _ _ => heap_alloc_new W _, J1.X3, J1.X5, J1.Y3⟩
theorem SJ.e3 (J : SJ w W P g s r l z y rv q vr vl vz vy v2 v4 b1 b3 b5 d1 d2 false false d5) : SJ w (W.alloc (.cells #[.int .i64 rv] 3)) P g s r l z y rv q vr vl vz vy v2 v4 b1 W.heap.size b5 d1 d2 true false d5 := by
 have J1 := J.below (below_alloc (Below.refl W.heap.size W) (.cells #[.int .i64 rv] 3))
 exact ⟨J1.HK, J1.PB, J1.Pg, J1.HG, J1.HZ, J1.HR0, J1.HR1, J1.HL0, J1.HL1, J1.HY, J1.X1, fun _ _ => heap_alloc_new W _, J1.X5, fun _ _ => J.HK.size⟩
theorem SJ.e5 (J : SJ w W P g s r l z y rv q vr vl vz vy v2 v4 b1 b3 b5 d1 d2 d3 d4 false) : SJ w (W.alloc (.cells #[.int .i64 q] 3)) P g s r l z y rv q vr vl vz vy v2 v4 b1 b3 W.heap.size d1 d2 d3 d4 true := by
 have J1 := J.below (below_alloc (Below.refl W.heap.size W) (.cells #[.int .i64 q] 3))
 exact ⟨J1.HK, J1.PB, J1.Pg, J1.HG, J1.HZ, J1.HR0, J1.HR1, J1.HL0, J1.HL1, J1.HY, J1.X1, J1.X3, fun _ => ⟨heap_alloc_new W _, J.HK.size⟩, J1.Y3⟩
variable {ops : Array Oper} {o : Oper} {a : Act} {Q : Exit → Act → World → Prop} {K : Act → World → Prop}
theorem SJ.e2 (J : SJ w W P g s r l z y rv q vr vl vz vy v2 v4 b1 b3 b5 true false d3 false d5) (hl : l.length < 1000000) (hw : Region.wanted o (yielded ops a.tmps) = true) (s' x : Operand)
  (ho : o.op = .call { callee := .builtin .append, args := #[s', x], argTypes := #[28, 28] }) (hs : a.eval s' = vl) (hx : a.eval x = .slice (some ⟨b1, 0, none⟩) 1 1)
  (h : ∀ A c W1, SJ w W1 P g s r l z y rv q vr vl vz vy (.slice A (l.length + 1) c) v4 b1 b3 b5 true true d3 false d5 → K (a.put o.dst (.slice A (l.length + 1) c)) W1) :
  if Region.wanted o (yielded ops a.tmps) = true then Oper.wp Tryd.prog o a W K Q else K (a.put o.dst undef) W := by
 have L := J.HL0 rfl
 have hvl : ∀ k, vl.ownBlock = some k → P k := fun k hk => ((Kd.S_R L).1 k hk).1
 have hlt : ∀ k, vl.ownBlock = some k → k < w.heap.size := fun k hk => J.PB k (hvl k hk)
 have hgs := J.PB g J.Pg
 refine Kd.S_append_box (Kd.slice 25 k25) (w0 := W) 0 hw s' x 28 27 (.slice none 0 0) 24 ho Tryd.underlying28 info27 rfl (show (0 : Nat) < 1 by decide) (by decide) vl l y [vy] b1 (fun k => (P k ∨ w.heap.size ≤ k) ∧ k ≠ g) (fun k => w.heap.size ≤ k) hs hx (J.X1 rfl rfl) rfl (Kd.M_row J.HY) ?_ ?_ ?_ (Below.refl _ _) (Nat.zero_le _) (by omega) ?_
 ·intro k hk
  exact ⟨⟨.inr hk, by omega⟩, fun e => by have := hlt k e.symm; omega⟩
 ·intro k hk
  have := J.HK.size
  exact ⟨.inr (by omega), by omega⟩
 ·exact Kd.S_mono L (fun k hk => ⟨⟨.inl hk.1, hk.2⟩, fun e => by have := J.PB k hk.1; omega⟩)
 ·intro v1 w1 hS hB hg hat
  obtain ⟨A, c, rfl⟩ := Kd.S_slice hS
  rw [List.length_append, List.length_singleton] at hS hat ⊢
  refine h A c w1 ⟨J.HK.grown hg (fun k e => .inl (hvl k e)), J.PB, J.Pg, blk_grown J.HG hg (Kd.S_ne L J.HG (by decide)), Kd.R_over' J.HZ (Kd.S_typed L) (by decide) hg, fun e => Kd.R_over' (J.HR0 e) (Kd.S_typed L) (by decide) hg, fun e => (by cases e), fun e => (by cases e), fun _ => hS, Kd.R_grown J.HY hg (fun k hk e => by have := hlt k e.symm; omega), fun _ e => (by cases e), fun e f => blk_grown (J.X3 e f) hg (fun e2 => by have := hlt _ e2.symm; have := J.Y3 e f; omega), fun e => ⟨blk_grown (J.X5 e).1 hg (fun e2 => by have := hlt _ e2.symm; have := (J.X5 e).2; omega), (J.X5 e).2⟩, J.Y3⟩
theorem SJ.e4 (J : SJ w W P g s r l z y rv q vr vl vz vy v2 v4 b1 b3 b5 true true true false d5) (hl : r.length < 1000000) (hw : Region.wanted o (yielded ops a.tmps) = true) (s' x : Operand)
  (ho : o.op = .call { callee := .builtin .append, args := #[s', x], argTypes := #[38, 38] }) (hs : a.eval s' = vr) (hx : a.eval x = .slice (some ⟨b3, 0, none⟩) 1 1)
  (h : ∀ A c W1, SJ w W1 P g s r l z y rv q vr vl vz vy v2 (.slice A (r.length + 1) c) b1 b3 b5 true true true true d5 → K (a.put o.dst (.slice A (r.length + 1) c)) W1) :
  if Region.wanted o (yielded ops a.tmps) = true then Oper.wp Tryd.prog o a W K Q else K (a.put o.dst undef) W := by
 have L := J.HR0 rfl
 have hvr : ∀ k, vr.ownBlock = some k → (P k ∧ k ≠ g) ∧ some k ≠ vz.ownBlock := fun k hk => L.1 k hk
 have hlt : ∀ k, vr.ownBlock = some k → k < w.heap.size := fun k hk => J.PB k (hvr k hk).1.1
 have hvz : ∀ k, vz.ownBlock = some k → k < w.heap.size := fun k hk => J.PB k (J.HZ.1 k hk).1
 have hgs := J.PB g J.Pg
 refine Kd.R_append_rows_step (Kd.int .i64) (Rr := fun x c => c = [Value.int .i64 x]) (w0 := W) 0 hw s' x 38 3 (.int .i64 0) 8 ho Tryd.underlying38 info3 rfl (show (0 : Nat) < 1 by decide) (by decide) vr r [rv] (some ⟨b3, 0, none⟩) 1 1 (fun k => ((P k ∨ w.heap.size ≤ k) ∧ k ≠ g) ∧ some k ≠ vz.ownBlock) (fun _ => False) hs hx (Kd.R_mono L (fun k hk => ⟨⟨.inl hk.1.1, hk.1.2⟩, hk.2⟩)) (Kd.one_reads (cs := [Value.int .i64 rv]) (J.X3 rfl rfl) rfl rfl) (fun x c h => h) (fun _ h => h.elim) (fun k hk => ?_) (Below.refl _ _) (Nat.zero_le _) (by omega) ?_
 ·have := J.HK.size
  exact ⟨⟨.inr (by omega), by omega⟩, fun e => by have := hvz k e.symm; omega⟩
 ·intro v1 w1 hR hB hg hat
  obtain ⟨A, c, rfl⟩ := Kd.R_slice hR
  rw [List.length_append, List.length_singleton] at hR hat ⊢
  refine h A c w1 ⟨J.HK.grown hg (fun k e => .inl (hvr k e).1.1), J.PB, J.Pg, blk_grown J.HG hg (Kd.R_ne L J.HG (by decide)), Kd.R_grown2 J.HZ rfl hg (fun k e => (hvr k e).2), fun e => (by cases e), fun _ => hR, fun e => (by cases e), fun e => Kd.S_over' (J.HL1 e) (Kd.R_typed L) (by decide) hg, Kd.R_over' J.HY (Kd.R_typed L) (by decide) hg, fun _ e => (by cases e), fun _ e => (by cases e), fun e => ⟨blk_grown (J.X5 e).1 hg (fun e2 => by have := hlt _ e2.symm; have := (J.X5 e).2; omega), (J.X5 e).2⟩, fun _ e => (by cases e)⟩
theorem SJ.e6 (J : SJ w W P g s r l z y rv q vr vl vz vy v2 v4 b1 b3 b5 true true true true true) (hl : z.length < 1000000) (hw : Region.wanted o (yielded ops a.tmps) = true) (s' x : Operand)
  (ho : o.op = .call { callee := .builtin .append, args := #[s', x], argTypes := #[38, 38] }) (hs : a.eval s' = vz) (hx : a.eval x = .slice (some ⟨b5, 0, none⟩) 1 1)
  (h : ∀ A c W1, Kf w W1 P → W1.heap[g]? = some (.cells #[.string s, vr, vl, vz, .func (.func 89) #[] #[]] 120 (0, 0)) → Kd.S (Kd.slice 25 k25) 27 W1 0 (fun k => (P k ∨ w.heap.size ≤ k) ∧ k ≠ g) v2 (l ++ [y]) → Kd.R (Kd.int .i64) 3 W1 0 (fun k => ((P k ∨ w.heap.size ≤ k) ∧ k ≠ g) ∧ some k ≠ (Value.slice A (z.length + 1) c).ownBlock) v4 (r ++ [rv]) → Kd.R (Kd.int .i64) 3 W1 0 (fun k => (P k ∨ w.heap.size ≤ k) ∧ k ≠ g) (.slice A (z.length + 1) c) (z ++ [q]) → Kd.R k25 25 W1 0 (fun k => w.heap.size ≤ k) vy y → K (a.put o.dst (.slice A (z.length + 1) c)) W1) :
  if Region.wanted o (yielded ops a.tmps) = true then Oper.wp Tryd.prog o a W K Q else K (a.put o.dst undef) W := by
 have L := J.HZ
 have hvz : ∀ k, vz.ownBlock = some k → P k := fun k hk => (L.1 k hk).1
 have hgs := J.PB g J.Pg
 refine Kd.R_append_rows_step (Kd.int .i64) (Rr := fun x c => c = [Value.int .i64 x]) (w0 := W) 0 hw s' x 38 3 (.int .i64 0) 8 ho Tryd.underlying38 info3 rfl (show (0 : Nat) < 1 by decide) (by decide) vz z [q] (some ⟨b5, 0, none⟩) 1 1 (fun k => (P k ∨ w.heap.size ≤ k) ∧ k ≠ g) (fun _ => False) hs hx (Kd.R_mono L (fun k hk => ⟨.inl hk.1, hk.2⟩)) (Kd.one_reads (cs := [Value.int .i64 q]) (J.X5 rfl).1 rfl rfl) (fun x c h => h) (fun _ h => h.elim) (fun k hk => ?_) (Below.refl _ _) (Nat.zero_le _) (by omega) ?_
 ·have := J.HK.size
  exact ⟨.inr (by omega), by omega⟩
 ·intro v1 w1 hR hB hg hat
  obtain ⟨A, c, rfl⟩ := Kd.R_slice hR
  rw [List.length_append, List.length_singleton] at hR hat ⊢
  exact h A c w1 (J.HK.grown hg (fun k e => .inl (hvz k e))) (blk_grown J.HG hg (Kd.R_ne L J.HG (by decide))) (Kd.S_over' (J.HL1 rfl) (Kd.R_typed L) (by decide) hg) (Kd.R_after (J.HR1 rfl) hg hat) hR (Kd.R_over' J.HY (Kd.R_typed L) (by decide) hg)
end
set_option maxHeartbeats 8000000 in
set_option maxRecDepth 100000 in
theorem server_of.calls (k : Nat) (s : ByteArray) (Ar : Option Addr) (cr : Nat) (r : List Int) (Al : Option Addr) (cl : Nat) (l : List (List S25)) (z : List Int) (w : World) (hr : Kd.C (Kd.int .i64) w Ar r.length r) (hcr : r.length ≤ cr) (hl : Kd.C (Kd.slice 25 k25) w Al l.length l) (hcl : l.length ≤ cl) (hT : Tabs w) (h : chain_Sizes.f k s r l = some (z, 0)) :
  Calls Tryd.prog 67 #[.agg #[.string s, .slice Ar r.length cr, .slice Al l.length cl]] w fun e w' => ∃ (g : Nat) (vz : Value), e = .returned (.pointer (some ⟨g, 0, none⟩)) ∧ w'.heap[g]? = some (.cells #[.string s, .slice Ar r.length cr, .slice Al l.length cl, vz, .func (.func 89) #[] #[]] 120 (0, 0)) ∧ w.heap.size ≤ g ∧ Kd.R (Kd.int .i64) 3 w' w.heap.size (fun k => k ≠ g) vz z ∧ Below w.heap.size w w' := by
 have HC := Aside0.mk (chain_Sizes.calls k s Ar cr r Al cl l z 0 (w.alloc (.cells #[.string s, .slice Ar r.length cr, .slice Al l.length cl] 42)) (Kd.C_alloc hr _) hcr (Kd.C_alloc hl _) hcl (Tabs.below hT (below_alloc (Below.refl _ _) _)) h)
 have HB0 := Aside0.mk (below_alloc (Below.refl w.heap.size w) (.cells #[.string s, .slice Ar r.length cr, .slice Al l.length cl] 42))
 have HN := Aside0.mk (heap_alloc_new w (.cells #[.string s, .slice Ar r.length cr, .slice Al l.length cl] 42))
 clear hr hcr hl hcl hT h
 go_enter Tryd.func67, Tryd.ntmps67
 go_upto_region 1 with (fail)
 generalize w.alloc (.cells #[.string s, .slice Ar r.length cr, .slice Al l.length cl] 42) = w1 at HC HB0 HN ⊢
 generalize w.heap.size = g0 at HN ⊢
 have x0 : w1.cell? ⟨g0, 0, none⟩ = some (.string s) := (blk_cell HN.out 0).trans rfl
 have x1 : w1.cell? ⟨g0, 1, none⟩ = some (.slice Ar r.length cr) := (blk_cell HN.out 1).trans rfl
 have x2 : w1.cell? ⟨g0, 2, none⟩ = some (.slice Al l.length cl) := (blk_cell HN.out 2).trans rfl
 go_wp2_with (go_at_call 54; (with_reducible refine HC.out.mono ?_); rintro e w2 ⟨v2, rfl, ho, hb⟩; obtain ⟨A2, c2, rfl⟩ := Kd.R_slice ho; have HO := Aside0.mk ho; have HB := Aside0.mk hb; clear ho; have y0 := cell_past hb x0; have y1 := cell_past hb x1; have y2 := cell_past hb x2; clear hb x0 x1 x2)
 go_ret
 have b2 := heap_alloc_new w2 (.cells #[.string s, .slice Ar r.length cr, .slice Al l.length cl, .slice A2 z.length c2, .func (.func 89) #[] #[]] 120)
 have hs := HB.out.size
 have hs0 := HB0.out.size
 exact ⟨w2.heap.size, .slice A2 z.length c2, rfl, b2, by omega, Kd.R_lower (Kd.R_alloc (Kd.R_mono (Kd.R_bound HO.out) (fun k hk => by have := hk.2.2.1; omega)) _) hs0, below_then HB0.out hs0 (below_alloc HB.out _)⟩
theorem SI_of {w w' : World} {P : Nat → Prop} {g : Nat} {s : ByteArray} {r z : List Int} {l : List (List S25)} {vr vl vz : Value} (hP : ∀ k, P k → k < w.heap.size) (hr : Kd.R (Kd.int .i64) 3 w 0 P vr r) (hl : Kd.S (Kd.slice 25 k25) 27 w 0 P vl l)
  (hg : w'.heap[g]? = some (.cells #[.string s, vr, vl, vz, .func (.func 89) #[] #[]] 120 (0, 0))) (hgw : w.heap.size ≤ g) (hz : Kd.R (Kd.int .i64) 3 w' w.heap.size (fun k => k ≠ g) vz z) (hb : Below w.heap.size w w') :
  SI w' (fun k => P k ∨ (w.heap.size ≤ k ∧ k < w'.heap.size)) g s r l z := by
 have hs := hb.size
 have hgl := blk_lt hg
 refine ⟨.inr ⟨hgw, hgl⟩, fun k hk => ?_, vr, vl, vz, hg, Kd.S_mono (Kd.S_below hl hb) (fun k hk => ⟨.inl hk, by have := hP k hk; omega⟩), Kd.R_mono (Kd.R_below hr hb) (fun k hk => ⟨⟨.inl hk, by have := hP k hk; omega⟩, fun e => ?_⟩), Kd.R_lower (Kd.R_mono (Kd.R_bound hz) (fun k hk => ⟨.inr ⟨hk.2.1, hk.2.2.1⟩, hk.1⟩)) (Nat.zero_le _)⟩
 ·rcases hk with hk | hk
  ·have := hP k hk; omega
  ·exact hk.2
 ·have h1 := hP k hk
  have h2 := Kd.R_base hz k e.symm
  omega
set_option maxHeartbeats 8000000 in
set_option maxRecDepth 100000 in
theorem server_New.calls (k : Nat) (s : ByteArray) (n : Int) (w : World) (hT : Tabs w) (h : points_Count.f s = some n) (h0 : 0 ≤ n) (h1 : n ≤ 1048576) (h2 : chain_Sizes.f k s [0] [] = some ([n], 0)) :
  Calls Tryd.prog 30 #[.string s] w fun e w' => ∃ g, e = .returned (.tuple #[.pointer (some ⟨g, 0, none⟩), .int .i64 0]) ∧ SI w' (fun k => w.heap.size ≤ k ∧ k < w'.heap.size) g s [0] [] [n] ∧ Below w.heap.size w w' := by
 have H := Aside0.mk h
 have HT := Aside0.mk hT
 have H2 := Aside0.mk h2
 have d0 : decide (n < 0) = false := decide_eq_false (by omega)
 have d1 : decide (1048576 < n) = false := decide_eq_false (by omega)
 clear h hT h2
 go_enter Tryd.func30, Tryd.ntmps30
 go_upto_region 6 with (go_at_call 10; (with_reducible refine (points_Count.calls s n _ HT.out H.out).mono ?_); rintro e w1 ⟨rfl, hb⟩; have HB1 := Aside0.mk hb; clear hb)
 have b1 := heap_alloc_new w1 (.cells #[.int .i64 0] 3)
 have HBA := Aside0.mk (below_alloc HB1.out (.cells #[.int .i64 0] 3))
 have hr := R_one (B := 0) (ok := fun k => w.heap.size ≤ k ∧ k < (w1.alloc (.cells #[.int .i64 0] 3)).heap.size) b1 (Nat.zero_le _) ⟨HB1.out.size, by simp⟩
 have HR := Aside0.mk hr
 have HC := Aside0.mk (by have h9 := server_of.calls k s (some ⟨w1.heap.size, 0, none⟩) 1 [0] none 0 [] [n] (w1.alloc (.cells #[.int .i64 0] 3)) (Kd.R_reads' hr).2.2 (by decide) (Kd.C_nil _ _) (Nat.le_refl _) (Tabs.below HT.out HBA.out) H2.out; rw [List.length_singleton, List.length_nil] at h9; exact h9)
 clear hr b1
 go_wp2_with (go_at_call 67; (with_reducible refine HC.out.mono ?_); rintro e w3 ⟨g, vz, rfl, hg, hgw, hz, hb⟩; have HG := Aside0.mk (SI_of (fun k hk => hk.2) HR.out (Kd.S_nil _ _ _ _ _) hg hgw hz hb); have HB3 := Aside0.mk hb; clear hg hgw hz hb)
 go_ret2
 have hs := HBA.out.size
 have hs3 := HB3.out.size
 obtain ⟨q1, q2, vr, vl, vz, q3, q4, q5, q6⟩ := HG.out
 have hm : ∀ k, ((w.heap.size ≤ k ∧ k < (w1.alloc (.cells #[.int .i64 0] 3)).heap.size) ∨ ((w1.alloc (.cells #[.int .i64 0] 3)).heap.size ≤ k ∧ k < w3.heap.size)) → w.heap.size ≤ k ∧ k < w3.heap.size := fun k hk => by omega
 exact ⟨g, rfl, ⟨hm _ q1, fun k hk => hk.2, vr, vl, vz, q3, Kd.S_mono q4 (fun k hk => ⟨hm k hk.1, hk.2⟩), Kd.R_mono q5 (fun k hk => ⟨⟨hm k hk.1.1, hk.1.2⟩, hk.2⟩), Kd.R_mono q6 (fun k hk => ⟨hm k hk.1, hk.2⟩)⟩, below_step HBA.out HB3.out⟩
set_option maxHeartbeats 8000000 in
set_option maxRecDepth 100000 in
theorem server_Head.calls (w : World) (P : Nat → Prop) (g : Nat) (s : ByteArray) (r : List Int) (l : List (List S25)) (z : List Int) (m : Nat) (hd : Int) (h : SI w P g s r l z) (hm : r.length = m + 1) (hb : m < 1000000) (hh : rd r (m : Int) = hd) :
  Calls Tryd.prog 68 #[.pointer (some ⟨g, 0, none⟩)] w fun e w' => e = .returned (.int .i64 hd) ∧ Below w.heap.size w w' := by
 obtain ⟨Ar, cr, Al, cl, Az, cz, hg, l1, l2, l3, r1, r2, r3⟩ := h.reads
 have EW : wrap64 ((r.length : Int) - 1) = (m : Int) := by unfold wrap64; omega
 obtain ⟨ad, hA, hc⟩ := Kd.at_int r1 (m : Int) (by omega) (by omega)
 subst hA
 rw [Int.toNat_natCast, hh] at hc
 have c1 : w.cell? ⟨g, 1, none⟩ = some (.slice (some ad) r.length cr) := (blk_cell hg 1).trans rfl
 have p1 : (0 : Int) ≤ (m : Int) := by omega
 have p2 : (m : Int) < (r.length : Int) := by omega
 have p3 : m < r.length := by omega
 have HB := Aside0.mk (Below.refl w.heap.size w)
 clear h hg l1 l2 l3 r1 r2 r3 hh hm hb
 go_enter Tryd.func68, Tryd.ntmps68
 go_wp2
 go_quiet (fail)
 go_wp2
 go_ret
 exact ⟨rfl, pw_below_drewN HB.out _⟩
set_option maxHeartbeats 8000000 in
set_option maxRecDepth 100000 in
theorem server_Text.calls (k : Nat) (w : World) (P : Nat → Prop) (g : Nat) (s : ByteArray) (r : List Int) (l : List (List S25)) (z : List Int) (t : ByteArray) (hT : Tabs w) (h : SI w P g s r l z) (ht : chain_At.f k s r l (l.length : Int) = some (t, 0)) :
  Calls Tryd.prog 34 #[.pointer (some ⟨g, 0, none⟩)] w fun e w' => e = .returned (.string t) ∧ Below w.heap.size w w' := by
 obtain ⟨Ar, cr, Al, cl, Az, cz, hg, l1, l2, l3, r1, r2, r3⟩ := h.reads
 have HG := Aside0.mk hg
 have HC := Aside0.mk (fun (W : World) (hW : Below w.heap.size w W) => chain_At.calls k s Ar cr r Al cl l (l.length : Int) t 0 W (Kd.C_below r1 hW) l1 (Kd.C_below r2 hW) l2 (Tabs.below hT hW) ht)
 have HB := Aside0.mk (Below.refl w.heap.size w)
 have c0 : w.cell? ⟨g, 0, none⟩ = some (.string s) := (blk_cell hg 0).trans rfl
 have c1 : w.cell? ⟨g, 1, none⟩ = some (.slice Ar r.length cr) := (blk_cell hg 1).trans rfl
 have c2 : w.cell? ⟨g, 2, none⟩ = some (.slice Al l.length cl) := (blk_cell hg 2).trans rfl
 clear h hT ht hg l1 l2 l3 r1 r2 r3
 go_enter Tryd.func34, Tryd.ntmps34
 go_wp2
 go_region_held3 (fun w' => w'.cell? ⟨g, 0, none⟩ = some (.string s) ∧ w'.cell? ⟨g, 1, none⟩ = some (.slice Ar r.length cr) ∧ w'.cell? ⟨g, 2, none⟩ = some (.slice Al l.length cl)) (first | go_keep | exact ⟨(blk_cell (blk_below HG.out HB2.out) 0).trans rfl, (blk_cell (blk_below HG.out HB2.out) 1).trans rfl, (blk_cell (blk_below HG.out HB2.out) 2).trans rfl⟩) ((go_at_call 27; (with_reducible refine (HC.out _ (below_drew1 HB.out)).mono ?_); rintro e w2 ⟨rfl, hb⟩; have HB2 := Aside0.mk (below_step (below_drew1 HB.out) hb); clear hb))
 go_wp2
 go_ret
 exact ⟨rfl, HB2.out⟩
end Go.Proofs.YtegjegihcebimaaDoor.P
end
