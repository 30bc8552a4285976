/- Part 10 of the proof of topLogs_holds: out of the texts that this session's programs wrote, what the theorem reaches. -/
import Derived.BigQuiet
import Derived.BigRegion
import Derived.Deep.QuietTactic
import Derived.Deep.RegionHeld3
import Derived.Deep.RegionLaw
import Derived.Defers
import Derived.Laws.CopyOwn
import Derived.Laws.Cover3
import Derived.Laws.Cover4
import Derived.Lib.OthersKept
import Derived.Lib.Walk
import Derived.Outline
import Derived.ScopeJumps
import Derived.Shelf.Abstract
import Derived.StillTailTactics
import Derived.Test.YtegjegihcebimaaDoorZ2
import Derived.Test.YtegjegihcebimaaDoorZ3
import Derived.Test.YtegjegihcebimaaDoorZ4
import Derived.Test.YtegjegihcebimaaDoorZ5
import Derived.Test.YtegjegihcebimaaDoorZ6
import Derived.Test.YtegjegihcebimaaDoorZ7
import Derived.Test.YtegjegihcebimaaDoorZ8
import Derived.Test.YtegjegihcebimaaDoorZ9
import Derived.WalkMore
section
namespace Go.Proofs.YtegjegihcebimaaDoor.P
open Go.RowKit Go.Proofs.YtegjegihcebimaaDoorW.PrintWords Go.Proofs.YtegjegihcebimaaDoorW.PrintLast Go.Proofs.YtegjegihcebimaaDoorW.PrintMore
attribute [local go_sem] max2_int min2_int max_two min_two max_three min_three max_four min_four
set_option linter.unusedVariables false
set_option linter.unusedSimpArgs false
def compact_Of.to (y : Int) : List Int → Nat → Option Nat
 | [], _ => none
 | x :: l, i => if x = y then some i else compact_Of.to y l (i + 1)
def compact_Of.l (k : Nat) (sz revs : List Int) (segs : List (List S25)) : Nat → List Int → Option (List (List S25))
 | _, [] => some []
 | at_, y :: rest => (compact_Of.to y (revs.drop at_) at_).bind fun t => if t ≤ segs.length ∧ at_ < sz.length then (fuse_Of.f k (rd sz (at_ : Int)) ((segs.take t).drop at_)).bind fun r => (if r.2 = 0 then (compact_Of.l k sz revs segs t rest).bind fun o => some (r.1 :: o) else none) else none
def compact_Of.f (k : Nat) (s : ByteArray) (revs : List Int) (segs : List (List S25)) (set : List Int) (floor : Int) : Option (ByteArray × List Int × List (List S25) × Int) :=
 if segs.length < 1000000 ∧ revs.length < 1000000 then (chain_Sizes.f k s revs segs).bind fun z => (if z.2 = 0 then (keep_Floor.f k revs floor).bind fun a => (chain_At.f k s revs segs a).bind fun b => (if b.2 = 0 then (keep_Of.f k revs set floor).bind fun kept => (if 0 ≤ a ∧ 1 ≤ kept.length ∧ kept.length < 1000000 then (compact_Of.l k z.1 revs segs a.toNat (kept.drop 1)).bind fun o => some (b.1, kept, o, 0) else none) else none) else none) else none
def SG (w : World) (base gS m : Nat) (rows : List (List S25)) : Prop := ∃ (cs : List Value) (f : Nat → Nat), cs.length = m ∧ rows.length ≤ m ∧ w.heap[gS]? = some (.cells cs.toArray 27 (0, 0)) ∧
 (∀ j x, rows[j]? = some x → ∃ v, cs[j]? = some v ∧ Kd.R k25 25 w base (fun k => f k = j ∧ k ≠ gS) v x) ∧ (∀ j, rows.length ≤ j → j < m → cs[j]? = some (.slice none 0 0))
theorem made_nil (m : Nat) : madeCells #[.slice none 0 0] m = (List.replicate m (Value.slice none 0 0)).toArray := by
 unfold madeCells
 apply Array.ext
 ·simp
 ·intro i h1 h2
  simp [Nat.mod_one]
theorem SG_start {w : World} {base gS m : Nat} (h : w.heap[gS]? = some (.cells (madeCells #[.slice none 0 0] m) 27 (0, 0))) : SG w base gS m [] := by
 refine ⟨List.replicate m (.slice none 0 0), fun _ => 0, by simp, Nat.zero_le _, by rw [← made_nil]; exact h, fun j x hx => by simp at hx, fun j _ hj => by simp [hj]⟩
theorem SG_drewN {w : World} {base gS m : Nat} {rows : List (List S25)} (h : SG w base gS m rows) (n : Nat) : SG (w.drewN n) base gS m rows := by
 obtain ⟨cs, f, h1, h2, h3, h4, h5⟩ := h
 exact ⟨cs, f, h1, h2, h3, fun j x hx => by obtain ⟨v, e, hr⟩ := h4 j x hx; exact ⟨v, e, Kd.R_drewN hr n⟩, h5⟩
theorem SG_put {w w1 : World} {base gS m : Nat} {rows : List (List S25)} {v : Value} {x : List S25} (h : SG w base gS m rows) (hm : rows.length < m) (hb : Below w.heap.size w w1) (hr : Kd.R k25 25 w1 w.heap.size (fun _ => True) v x) (hbase : base ≤ w.heap.size) :
  SG (w1.setCell ⟨gS, rows.length, none⟩ v) base gS m (rows ++ [x]) := by
 obtain ⟨cs, f, h1, h2, h3, h4, h5⟩ := h
 have hlt := blk_lt h3
 refine ⟨cs.set rows.length v, fun k => if w.heap.size ≤ k then rows.length else f k, by simp [h1], by simp; omega, ?_, ?_, ?_⟩
 ·have := blk_put (blk_below h3 hb) rows.length v rfl
  rw [this]; simp
 ·intro j y hy
  by_cases c : j < rows.length
  ·rw [List.getElem?_append_left c] at hy
   obtain ⟨u, e, hu⟩ := h4 j y hy
   refine ⟨u, by rw [List.getElem?_set_ne (by omega)]; exact e, ?_⟩
   have h6 := Kd.R_far (p := ⟨gS, rows.length, none⟩) (Kd.R_below (Kd.R_bound hu) hb) (fun k hk => hk.1.2) v
   exact Kd.R_mono h6 (fun k hk => ⟨by show (if w.heap.size ≤ k then rows.length else f k) = j; rw [if_neg (by have := hk.2.2.1; omega)]; exact hk.1.1, hk.1.2⟩)
  ·rw [List.getElem?_append_right (by omega)] at hy
   have hj : j = rows.length := by
    have := (List.getElem?_eq_some_iff.mp hy).1
    simp at this; omega
   subst hj
   have hyx : x = y := by simpa using hy
   subst hyx
   refine ⟨v, by rw [List.getElem?_set_self (by omega)], ?_⟩
   have h6 := Kd.R_far (p := ⟨gS, rows.length, none⟩) (Kd.R_bound hr) (fun k hk => by have := hk.2.1; show k ≠ gS; omega) v
   exact Kd.R_lower (Kd.R_mono h6 (fun k hk => ⟨by show (if w.heap.size ≤ k then rows.length else f k) = rows.length; rw [if_pos hk.2.1], by have := hk.2.1; omega⟩)) hbase
 ·intro j hj hjm
  rw [List.length_append, List.length_singleton] at hj
  rw [List.getElem?_set_ne (by omega)]
  exact h5 j (by omega) hjm
theorem SG_S {w : World} {base gS m : Nat} {rows : List (List S25)} (h : SG w base gS m rows) (hm : rows.length = m) (hb : base ≤ gS) (hml : m ≤ maxLen) : Kd.S (Kd.slice 25 k25) 27 w base (fun _ => True) (.slice (some ⟨gS, 0, none⟩) m m) rows := by
 obtain ⟨cs, f, h1, h2, h3, h4, h5⟩ := h
 refine ⟨f, fun _ _ => trivial, cs, ⟨by rw [List.length_zipIdx, hm, h1]; show m = m * 1; omega, .inr ⟨gS, m, cs.toArray, by rw [List.length_zipIdx, hm], hb, h3, by rw [List.length_zipIdx, hm]; exact Nat.le_refl _, hml, by show cs.toArray.size = m * 1; simp [h1], ?_⟩⟩, ?_⟩
 ·show cs.toArray.toList.take (rows.zipIdx.length * 1) = cs
  rw [List.length_zipIdx, hm, Nat.mul_one, List.toList_toArray, ← h1, List.take_length]
 ·refine ⟨by rw [List.length_zipIdx, hm, h1]; show m = m * 1; omega, fun j p hj => ?_⟩
  rw [List.getElem?_zipIdx] at hj
  obtain ⟨x, hx, rfl⟩ := Option.map_eq_some_iff.1 hj
  obtain ⟨v, hv, hr⟩ := h4 j x hx
  have e : (cs.drop (j * (Kd.tag f (Kd.slice 25 k25)).sz)).take (Kd.tag f (Kd.slice 25 k25)).sz = [v] := by
   show (cs.drop (j * 1)).take 1 = [v]
   rw [Nat.mul_one]
   have hlt := (List.getElem?_eq_some_iff.mp hv).1
   rw [List.drop_eq_getElem_cons hlt]
   have := (List.getElem?_eq_some_iff.mp hv).2
   simp [this]
  rw [e]
  refine Kd.M_row (Kd.R_mono hr (fun k hk => ⟨⟨trivial, ?_⟩, by simpa using hk.1⟩))
  simp only [Value.ownBlock]
  intro e2
  injection e2 with e2
  exact hk.2 e2
def _root_.Go.World.next (w : World) : Nat := w.heap.size
def compact_Of.NS (w w6 : World) (gR gS gL n m : Nat) (b : ByteArray) : Prop :=
 w.heap[gR]? = some (.cells (madeCells #[.int .i64 0] n) 3 (0, 0)) ∧ w.heap[gS]? = some (.cells (madeCells #[.slice none 0 0] m) 27 (0, 0)) ∧ w.heap[gL]? = some (.cells #[.string b, .slice (some ⟨gR, 0, none⟩) n n, .slice (some ⟨gS, 0, none⟩) m m] 42 (0, 0)) ∧ Below w6.heap.size w6 w ∧ gR ≠ gS ∧ gR ≠ gL ∧ gS ≠ gL ∧ w6.next ≤ gR ∧ w6.next ≤ gS ∧ w6.next ≤ gL
theorem compact_Of.three (w6 : World) (o1 o2 o3 : Obj) : ((((w6.alloc o1).alloc o2).alloc o3).drew).heap[w6.heap.size]? = some o1 ∧ ((((w6.alloc o1).alloc o2).alloc o3).drew).heap[w6.heap.size + 1]? = some o2 ∧ ((((w6.alloc o1).alloc o2).alloc o3).drew).heap[w6.heap.size + 1 + 1]? = some o3 ∧ Below w6.heap.size w6 ((((w6.alloc o1).alloc o2).alloc o3).drew) ∧ w6.next = w6.heap.size := by
 refine ⟨blk_alloc (blk_alloc (heap_alloc_new w6 o1) _) _, ?_, ?_, below_drew1 (((below_alloc (Below.refl _ _) _).alloc (by simp) _).alloc (by simp; omega) _), rfl⟩
 ·have := heap_alloc_new (w6.alloc o1) o2
  rw [show (w6.alloc o1).heap.size = w6.heap.size + 1 by simp] at this
  exact blk_alloc this _
 ·have := heap_alloc_new ((w6.alloc o1).alloc o2) o3
  rw [show ((w6.alloc o1).alloc o2).heap.size = w6.heap.size + 1 + 1 by simp] at this
  exact this
def compact_Of.MF (w w6 : World) (gR gS gL m : Nat) (kept : List Int) (b : ByteArray) (rows : List (List S25)) : Prop :=
 w.heap[gR]? = some (.cells (kept.map (Value.int .i64)).toArray 3 (0, 0)) ∧ w.heap[gL]? = some (.cells #[.string b, .slice (some ⟨gR, 0, none⟩) kept.length kept.length, .slice (some ⟨gS, 0, none⟩) m m] 42 (0, 0)) ∧ SG w w6.next gS m rows ∧ Below w6.heap.size w6 w ∧ (gR ≠ gS ∧ gR ≠ gL ∧ gS ≠ gL ∧ w6.next ≤ gR ∧ w6.next ≤ gS ∧ w6.next ≤ gL)
theorem compact_Of.MF_drewN {w w6 : World} {gR gS gL m : Nat} {kept : List Int} {b : ByteArray} {rows : List (List S25)} (h : compact_Of.MF w w6 gR gS gL m kept b rows) (n : Nat) : compact_Of.MF (w.drewN n) w6 gR gS gL m kept b rows := by
 obtain ⟨h1, h2, h3, h4, h5⟩ := h
 exact ⟨h1, h2, SG_drewN h3 n, pw_below_drewN h4 n, h5⟩
theorem compact_Of.MF_put {w w1 w6 : World} {gR gS gL m : Nat} {kept : List Int} {b : ByteArray} {rows : List (List S25)} {v : Value} {x : List S25} (h : compact_Of.MF w w6 gR gS gL m kept b rows) (hm : rows.length < m) (hb : Below w.heap.size w w1) (hr : Kd.R k25 25 w1 w.heap.size (fun _ => True) v x) :
  compact_Of.MF (w1.setCell ⟨gS, rows.length, none⟩ v) w6 gR gS gL m kept b (rows ++ [x]) := by
 obtain ⟨h1, h2, h3, h4, h5⟩ := h
 refine ⟨?_, ?_, SG_put h3 hm hb hr h4.size, (below_then h4 h4.size hb).setCell (p := ⟨gS, rows.length, none⟩) h5.2.2.2.2.1 _, h5⟩
 ·rw [Below.heap_setCell w1 ⟨gS, rows.length, none⟩ v gR h5.1]; exact blk_below h1 hb
 ·rw [Below.heap_setCell w1 ⟨gS, rows.length, none⟩ v gL (fun e => h5.2.2.1 e.symm)]; exact blk_below h2 hb
theorem compact_Of.copied {w6 w9 : World} {gR gS gL m : Nat} {kept : List Int} {b : ByteArray} (h : compact_Of.NS w9 w6 gR gS gL kept.length m b) :
  compact_Of.MF (w9.setRow gR ((madeCells #[.int .i64 0] kept.length).toList.take 0 ++ (kept.map (Value.int .i64) ++ (madeCells #[.int .i64 0] kept.length).toList.drop (0 + (kept.map (Value.int .i64)).length))).toArray) w6 gR gS gL m kept b [] := by
 obtain ⟨h1, h2, h3, h4, h5, h6, h7, h8, h9, h10⟩ := h
 have e : ((madeCells #[.int .i64 0] kept.length).toList.take 0 ++ (kept.map (Value.int .i64) ++ (madeCells #[.int .i64 0] kept.length).toList.drop (0 + (kept.map (Value.int .i64)).length))) = kept.map (Value.int .i64) := by
  rw [List.take_zero, List.nil_append, List.drop_of_length_le (by rw [Array.length_toList, size_madeCells, List.length_map]; omega), List.append_nil]
 rw [e]
 refine ⟨setRow_heap w9 gR _ _ _ _ h1, by rw [setRow_other w9 gR gL _ (fun e => h6 e.symm)]; exact h3, SG_start (by rw [setRow_other w9 gR gS _ (fun e => h5 e.symm)]; exact h2), below_setRow h4 h8 _, h5, h6, h7, h8, h9, h10⟩
theorem compact_Of.to_next (y : Int) (l : List Int) (j t : Nat) (h : compact_Of.to y (l.drop j) j = some t) : j < l.length ∧ ((rd l (j : Int) = y ∧ t = j) ∨ (rd l (j : Int) ≠ y ∧ compact_Of.to y (l.drop (j + 1)) (j + 1) = some t)) := by
 by_cases c : j < l.length
 ·refine ⟨c, ?_⟩
  have e : rd l (j : Int) = l[j] := by unfold rd; rw [Int.toNat_natCast, List.getD_eq_getElem?_getD, List.getElem?_eq_getElem c]; rfl
  rw [List.drop_eq_getElem_cons c, compact_Of.to] at h
  rw [e]
  by_cases z : l[j] = y
  ·rw [if_pos z] at h
   exact .inl ⟨z, (Option.some.inj h).symm⟩
  ·rw [if_neg z] at h
   exact .inr ⟨z, h⟩
 ·rw [List.drop_of_length_le (by omega), compact_Of.to] at h
  cases h
theorem compact_Of.src {w : World} {A : Option Addr} {l : List Int} (h : Kd.C (Kd.int .i64) w A l.length l) (h0 : 0 < l.length) : ∃ ad, A = some ad ∧ ∀ j v, (l.map (Value.int .i64))[j]? = some v → w.cell? (ad.add j) = some v := by
 obtain ⟨ad, e, _⟩ := Kd.at_int h 0 (by omega) (by omega)
 refine ⟨ad, e, fun j v hj => ?_⟩
 subst e
 rw [List.getElem?_map] at hj
 obtain ⟨x, hx, rfl⟩ := Option.map_eq_some_iff.1 hj
 have hlt := (List.getElem?_eq_some_iff.mp hx).1
 obtain ⟨ad', e', hc⟩ := Kd.at_int h (j : Int) (by omega) (by omega)
 cases e'
 rw [Int.toNat_natCast] at hc
 rw [hc]
 unfold rd
 rw [Int.toNat_natCast, List.getD_eq_getElem?_getD, hx]
 rfl
theorem compact_Of.cut (A : Option Addr) (n c a t : Nat) (h1 : a ≤ t) (h2 : t ≤ n) (hc : n ≤ c) (W : World) : (Instr.slice 28 (.slice A n c) (some (.int .i64 (a : Int))) (some (.int .i64 (t : Int))) none).run Tryd.prog W = .ok (.slice (if c = a then A else A.map (·.add (a * 1))) (t - a) (c - a)) W := by
 obtain ⟨i0, hi0, _, hsz, _⟩ := info_parts info27
 have h := cut_mid (P := Tryd.prog) 28 27 .i64 .i64 Tryd.underlying28 hi0 1 hsz A n c (a : Int) (t : Int) (by omega) (by omega) (by omega) hc W
 rw [Int.toNat_natCast, Int.toNat_natCast] at h
 exact h
theorem compact_Of.store_at {w w1 : World} {base gS m : Nat} {rows : List (List S25)} (h : SG w base gS m rows) (hm : rows.length < m) (hb : Below w.heap.size w w1) : w1.cell? ⟨gS, rows.length, none⟩ = some (.slice none 0 0) ∧ w1.frozen? ⟨gS, rows.length, none⟩ = false := by
 obtain ⟨cs, f, h1, h2, h3, h4, h5⟩ := h
 have h6 := blk_below h3 hb
 refine ⟨?_, blk_frozen h6 _⟩
 rw [blk_cell h6 rows.length]
 have := h5 rows.length (Nat.le_refl _) hm
 simpa using this
theorem compact_Of.i1w {i i1 m n : Nat} (h : i + 1 = i1) (hm : n = m + 1) (hn : n < 1000000) (hi : i < m) : wrap64 ((i : Int) + 1) = (i1 : Int) ∧ IntKind.i64.wrap ((i : Int) + 1) = (i1 : Int) ∧ i1 < n ∧ (i1 : Int) < (n : Int) := by
 refine ⟨by unfold wrap64; omega, by rw [IntKind.wrap_i64]; omega, by omega, by omega⟩
theorem compact_Of.i1m {i i1 m : Nat} (h : i + 1 = i1) (hi : i < m) : i1 ≤ m := by omega
theorem compact_Of.i1l {i i1 m : Nat} (h : i + 1 = i1) (hi : i < m) : m - (intOf (.int .i64 (i1 : Int))).toNat < m - (intOf (.int .i64 (i : Int))).toNat := by
 show m - ((i1 : Int)).toNat < m - ((i : Int)).toNat
 omega
theorem compact_Of.fin {wr w6 : World} {gR gS gL m B : Nat} {kept : List Int} {b : ByteArray} {rows : List (List S25)} (h : compact_Of.MF wr w6 gR gS gL m kept b rows) (hm : rows.length = m) (p : Nat) (hp : p < w6.next) (u0 u1 u2 : Value) (hB : B ≤ w6.next) (hk : kept.length ≤ maxLen) (hr : m ≤ maxLen) :
  Kd.R (Kd.int .i64) 3 (((wr.setCell ⟨p, 0, none⟩ u0).setCell ⟨p, 1, none⟩ u1).setCell ⟨p, 2, none⟩ u2) B (fun _ => True) (.slice (some ⟨gR, 0, none⟩) kept.length kept.length) kept ∧ Kd.S (Kd.slice 25 k25) 27 (((wr.setCell ⟨p, 0, none⟩ u0).setCell ⟨p, 1, none⟩ u1).setCell ⟨p, 2, none⟩ u2) B (fun _ => True) (.slice (some ⟨gS, 0, none⟩) m m) rows := by
 obtain ⟨h1, h2, h3, h4, h5, h6, h7, h8, h9, h10⟩ := h
 constructor
 ·have e : (((wr.setCell ⟨p, 0, none⟩ u0).setCell ⟨p, 1, none⟩ u1).setCell ⟨p, 2, none⟩ u2).heap[gR]? = some (.cells (kept.map (Value.int .i64)).toArray 3 (0, 0)) := by
   rw [Below.heap_setCell _ ⟨p, 2, none⟩ u2 gR (by show gR ≠ p; omega), Below.heap_setCell _ ⟨p, 1, none⟩ u1 gR (by show gR ≠ p; omega), Below.heap_setCell _ ⟨p, 0, none⟩ u0 gR (by show gR ≠ p; omega)]
   exact h1
  refine Kd.R_of_own (h1 := fun _ => rfl) (ok := fun _ => True) (enc := Value.int .i64) ⟨by simp [encs], .inr ⟨gR, kept.length, _, rfl, by omega, e, Nat.le_refl _, hk, by simp, by simp [encs, List.take_of_length_le]⟩⟩ (fun _ _ => trivial)
 ·have hS := SG_S h3 hm h9 hr
  have k0 := Kd.S_far (p := ⟨p, 0, none⟩) (Kd.S_bound hS) (fun k hk => by have := hk.2.1; show k ≠ p; omega) u0
  have k1 := Kd.S_far (p := ⟨p, 1, none⟩) k0 (fun k hk => by have := hk.2.1; show k ≠ p; omega) u1
  have k2 := Kd.S_far (p := ⟨p, 2, none⟩) k1 (fun k hk => by have := hk.2.1; show k ≠ p; omega) u2
  exact Kd.S_lower (Kd.S_mono k2 (fun _ _ => trivial)) hB
theorem compact_Of.gather {P : Program} {c : Code} {Q : Exit → Act → World → Prop} {a : Act} {w : World} (F : Act → Nat → Nat → Nat → Act) (N : World → Nat → Nat → Nat → Prop) (h1 : c.wp P (fun e act W => ∃ gR gS gL, e = .normal ∧ act = F a gR gS gL ∧ N W gR gS gL) a w)
  (h2 : ∀ gR gS gL W, N W gR gS gL → Q .normal (F a gR gS gL) W) : c.wp P Q a w :=
 Code.wp_mono (fun e act W h => by obtain ⟨gR, gS, gL, he, ha, hn⟩ := h; subst he; subst ha; exact h2 _ _ _ _ hn) h1
theorem compact_Of.sz1 : (Tryd.prog.info? 3).map (·.size) = some 1 := by
 obtain ⟨i0, hi, _, hz1, _⟩ := info_parts info3
 rw [hi]; simp [hz1]
theorem compact_Of.make1 (n : Nat) (hn : n < 1000000) (W : World) : (Instr.makeSlice 38 (.int .i64 (n : Int)) (.int .i64 (n : Int))).run Tryd.prog W = .ok (.slice (some ⟨W.heap.size, 0, none⟩) n n) (W.alloc (.cells (madeCells #[.int .i64 0] (n * 1)) 3)) := by
 obtain ⟨i0, hi, hz0, hz1, hz2⟩ := info_parts info3
 have hr := run_make (P := Tryd.prog) W 38 3 i0 (.int .i64 0) Tryd.underlying38 hi hz0 .i64 .i64 (n : Int) (n : Int) (by omega) (by omega) (by rw [hz2]; omega) (by omega)
 simp only [Int.toNat_natCast] at hr
 rw [hz1] at hr
 exact hr
theorem compact_Of.make2 (n : Nat) (hn : n < 1000000) (W : World) : (Instr.makeSlice 28 (.int .i64 (n : Int)) (.int .i64 (n : Int))).run Tryd.prog W = .ok (.slice (some ⟨W.heap.size, 0, none⟩) n n) (W.alloc (.cells (madeCells #[.slice none 0 0] (n * 1)) 27)) := by
 obtain ⟨i0, hi, hz0, hz1, hz2⟩ := info_parts info27
 have hr := run_make (P := Tryd.prog) W 28 27 i0 (.slice none 0 0) Tryd.underlying28 hi hz0 .i64 .i64 (n : Int) (n : Int) (by omega) (by omega) (by rw [hz2]; omega) (by omega)
 simp only [Int.toNat_natCast] at hr
 rw [hz1] at hr
 exact hr
set_option maxHeartbeats 8000000 in
set_option maxRecDepth 100000 in
theorem compact_Of.calls (k : Nat) (a0_0 : ByteArray) (A0_1 : Option Addr) (c0_1 : Nat) (l0_1 : List Int) (A0_2 : Option Addr) (c0_2 : Nat) (l0_2 : List (List (S25))) (A1 : Option Addr) (c1 : Nat) (l1 : List Int) (a2 : Int) (r1 : ByteArray) (r2 : List Int) (r3 : List (List (S25))) (r4 : Int) (w : World) (hr0_1 : Kd.C (Kd.int .i64) w A0_1 l0_1.length l0_1) (hc0_1 : l0_1.length ≤ c0_1) (hr0_2 : Kd.C (Kd.slice 25 k25) w A0_2 l0_2.length l0_2) (hc0_2 : l0_2.length ≤ c0_2) (hr1 : Kd.C (Kd.int .i64) w A1 l1.length l1) (hc1 : l1.length ≤ c1) (hT : Tabs w) (h : compact_Of.f k a0_0 l0_1 l0_2 l1 a2 = some (r1, r2, r3, r4)) :
  Calls Tryd.prog 17 #[.agg #[.string a0_0, .slice A0_1 l0_1.length c0_1, .slice A0_2 l0_2.length c0_2], .slice A1 l1.length c1, .int .i64 a2] w fun e w' => ∃ v1_ v2_ : Value, e = .returned (.tuple #[.agg #[.string r1, v1_, v2_], .int .i64 r4]) ∧ Kd.R (Kd.int .i64) 3 w' w.heap.size (fun _ => True) v1_ r2 ∧ Kd.S (Kd.slice 25 k25) 27 w' w.heap.size (fun _ => True) v2_ r3 ∧ Below w.heap.size w w' := by
 unfold compact_Of.f at h
 by_cases hs : l0_2.length < 1000000 ∧ l0_1.length < 1000000
 ·rw [if_pos hs] at h
  obtain ⟨⟨sz, e1⟩, hz, h⟩ := Option.bind_eq_some_iff.mp h
  by_cases z1 : e1 = 0
  ·subst z1
   rw [if_pos rfl] at h
   obtain ⟨a, ha, h⟩ := Option.bind_eq_some_iff.mp h
   obtain ⟨⟨b, e2⟩, hb, h⟩ := Option.bind_eq_some_iff.mp h
   by_cases z2 : e2 = 0
   ·subst z2
    rw [if_pos rfl] at h
    obtain ⟨kept, hk, h⟩ := Option.bind_eq_some_iff.mp h
    by_cases z3 : 0 ≤ a ∧ 1 ≤ kept.length ∧ kept.length < 1000000
    ·rw [if_pos z3] at h
     obtain ⟨o, ho, h⟩ := Option.bind_eq_some_iff.mp h
     simp only [Option.some.injEq, Prod.mk.injEq] at h
     obtain ⟨rfl, rfl, rfl, rfl⟩ := h
     obtain ⟨z3, z4, z5⟩ := z3
     obtain ⟨a, rfl⟩ : ∃ m : Nat, a = (m : Int) := ⟨a.toNat, by omega⟩
     rw [Int.toNat_natCast] at ho
     have HR1 := am hr0_1; have HC1 := am hc0_1; have HR2 := am hr0_2; have HC2 := am hc0_2; have HRS := am hr1; have HCS := am hc1; have HT := am hT; have HZ := am hz; have HA := am ha; have HAT := am hb; have HK := am hk; have HOO := am ho; have HS := am hs; have HK1 := am z4; have HK2 := am z5
     clear hr0_1 hc0_1 hr0_2 hc0_2 hr1 hc1 hT hz ha hb hk ho hs z3 z4 z5
     have HB2 : Aside0 (Below w.heap.size w ((w.alloc (.cells #[.string a0_0, .slice A0_1 l0_1.length c0_1, .slice A0_2 l0_2.length c0_2] 42)).alloc (.cells #[.string ⟨#[]⟩, .slice none 0 0, .slice none 0 0] 42))) := ⟨(below_alloc (Below.refl _ _) _).alloc (by simp) _⟩
     have HG2 : Aside0 (((w.alloc (.cells #[.string a0_0, .slice A0_1 l0_1.length c0_1, .slice A0_2 l0_2.length c0_2] 42)).alloc (.cells #[.string ⟨#[]⟩, .slice none 0 0, .slice none 0 0] 42)).heap[w.heap.size]? = some (.cells #[.string a0_0, .slice A0_1 l0_1.length c0_1, .slice A0_2 l0_2.length c0_2] 42 (0, 0))) := ⟨blk_alloc (heap_alloc_new w _) _⟩
     have HE2 : Aside0 (((w.alloc (.cells #[.string a0_0, .slice A0_1 l0_1.length c0_1, .slice A0_2 l0_2.length c0_2] 42)).alloc (.cells #[.string ⟨#[]⟩, .slice none 0 0, .slice none 0 0] 42)).heap[w.heap.size + 1]? = some (.cells #[.string ⟨#[]⟩, .slice none 0 0, .slice none 0 0] 42 (0, 0))) := ⟨by have := heap_alloc_new (w.alloc (.cells #[.string a0_0, .slice A0_1 l0_1.length c0_1, .slice A0_2 l0_2.length c0_2] 42)) (.cells #[.string ⟨#[]⟩, .slice none 0 0, .slice none 0 0] 42); simpa using this⟩
     go_enter Tryd.func17, Tryd.ntmps17
     go_wp2_with (first | (go_at_call 54; (with_reducible refine (chain_Sizes.calls k a0_0 A0_1 c0_1 l0_1 A0_2 c0_2 l0_2 sz 0 _ (Kd.C_below HR1.out HB2.out) HC1.out (Kd.C_below HR2.out HB2.out) HC2.out (Tabs.below HT.out HB2.out) HZ.out).mono ?_); rintro e w3 ⟨v8, rfl, ho3, hb⟩; have HB3 := am (below_then HB2.out HB2.out.size hb); have HG3 := am (blk_below HG2.out hb); have HE3 := am (blk_below HE2.out hb); have HV3 := am (Kd.R_lower ho3 HB2.out.size); have ca3 : (w3).cell? ⟨w.heap.size, 0, none⟩ = some (.string a0_0) := (blk_cell HG3.out 0).trans rfl; have cb3 : (w3).cell? ⟨w.heap.size, 1, none⟩ = some (.slice A0_1 l0_1.length c0_1) := (blk_cell HG3.out 1).trans rfl; have cc3 : (w3).cell? ⟨w.heap.size, 2, none⟩ = some (.slice A0_2 l0_2.length c0_2) := (blk_cell HG3.out 2).trans rfl; clear hb ho3) | (go_at_call 55; (with_reducible refine (keep_Floor.calls k A0_1 c0_1 l0_1 a2 (a : Int) _ (Kd.C_below HR1.out HB3.out) HC1.out HA.out).mono ?_); rintro e w4 ⟨rfl, m4, rfl⟩; have HB4 := am (pw_below_drewN HB3.out m4); have HG4 : Aside0 ((w3.drewN m4).heap[w.heap.size]? = some (.cells #[.string a0_0, .slice A0_1 l0_1.length c0_1, .slice A0_2 l0_2.length c0_2] 42 (0, 0))) := ⟨HG3.out⟩; have HE4 : Aside0 ((w3.drewN m4).heap[w.heap.size + 1]? = some (.cells #[.string ⟨#[]⟩, .slice none 0 0, .slice none 0 0] 42 (0, 0))) := ⟨HE3.out⟩; have HV4 := am (Kd.R_drewN HV3.out m4); have ca4 : (w3.drewN m4).cell? ⟨w.heap.size, 0, none⟩ = some (.string a0_0) := (blk_cell HG4.out 0).trans rfl; have cb4 : (w3.drewN m4).cell? ⟨w.heap.size, 1, none⟩ = some (.slice A0_1 l0_1.length c0_1) := (blk_cell HG4.out 1).trans rfl; have cc4 : (w3.drewN m4).cell? ⟨w.heap.size, 2, none⟩ = some (.slice A0_2 l0_2.length c0_2) := (blk_cell HG4.out 2).trans rfl) | (go_at_call 27; (with_reducible refine (chain_At.calls k a0_0 A0_1 c0_1 l0_1 A0_2 c0_2 l0_2 (a : Int) b 0 _ (Kd.C_below HR1.out HB4.out) HC1.out (Kd.C_below HR2.out HB4.out) HC2.out (Tabs.below HT.out HB4.out) HAT.out).mono ?_); rintro e w5 ⟨rfl, hb⟩; have HB5 := am (below_then HB4.out HB4.out.size hb); have HG5 := am (blk_below HG4.out hb); have HE5 := am (blk_below HE4.out hb); have HV5 := am (Kd.R_below HV4.out hb); have ca5 : (w5).cell? ⟨w.heap.size, 0, none⟩ = some (.string a0_0) := (blk_cell HG5.out 0).trans rfl; have cb5 : (w5).cell? ⟨w.heap.size, 1, none⟩ = some (.slice A0_1 l0_1.length c0_1) := (blk_cell HG5.out 1).trans rfl; have cc5 : (w5).cell? ⟨w.heap.size, 2, none⟩ = some (.slice A0_2 l0_2.length c0_2) := (blk_cell HG5.out 2).trans rfl; clear hb) | (go_at_call 56; (with_reducible refine (keep_Of.calls k A0_1 c0_1 l0_1 A1 c1 l1 a2 kept _ (Kd.C_below HR1.out HB5.out) HC1.out (Kd.C_below HRS.out HB5.out) HCS.out HK.out).mono ?_); rintro e w6 ⟨v12, rfl, ho6, hb⟩; have HB6 := am (below_then HB5.out HB5.out.size hb); have HG6 := am (blk_below HG5.out hb); have HE6 := am (blk_below HE5.out hb); have HV6 := am (Kd.R_below HV5.out hb); have HW6 := am ho6; have ca6 : (w6).cell? ⟨w.heap.size, 0, none⟩ = some (.string a0_0) := (blk_cell HG6.out 0).trans rfl; have cb6 : (w6).cell? ⟨w.heap.size, 1, none⟩ = some (.slice A0_1 l0_1.length c0_1) := (blk_cell HG6.out 1).trans rfl; have cc6 : (w6).cell? ⟨w.heap.size, 2, none⟩ = some (.slice A0_2 l0_2.length c0_2) := (blk_cell HG6.out 2).trans rfl; obtain ⟨A6, c6, e6⟩ := Kd.R_slice ho6; subst e6; clear hb ho6))
     obtain ⟨m, hm⟩ : ∃ m, kept.length = m + 1 := ⟨kept.length - 1, by have := HK1.out; omega⟩
     have HM := am hm
     have hw1 : wrap64 ((kept.length : Int) - 1) = (m : Int) := by have := HK2.out; unfold wrap64; omega
     have hmk1 := compact_Of.make1 kept.length (by have := HK2.out; omega)
     have hmk2 := compact_Of.make2 m (by have := HK2.out; omega)
     clear hm
     refine compact_Of.gather (fun a gR gS gL => (((((((((a.put (some 44) (.string b)).put (some 45) (.slice A6 kept.length c6)).put (some 46) (.int .i64 (kept.length : Int))).put (some 47) (.slice (some ⟨gR, 0, none⟩) kept.length kept.length)).put (some 48) (.slice A6 kept.length c6)).put (some 49) (.int .i64 (kept.length : Int))).put (some 50) (.int .i64 (wrap64 ((kept.length : Int) - 1)))).put (some 51) (.slice (some ⟨gS, 0, none⟩) m m)).put (some 52) (.agg #[.string b, .slice (some ⟨gR, 0, none⟩) kept.length kept.length, .slice (some ⟨gS, 0, none⟩) m m])).put (some 13) (.pointer (some ⟨gL, 0, none⟩))) (fun W gR gS gL => compact_Of.NS W w6 gR gS gL kept.length m b) ?_ (fun gR gS gL w9 hq9 => ?_)
     ·go_region
      all_goals (first | (obtain ⟨h1, h2, h3, h4, h5⟩ := compact_Of.three w6 (.cells (madeCells #[.int .i64 0] kept.length) 3) (.cells (madeCells #[.slice none 0 0] m) 27) (.cells #[.string b, .slice (some ⟨w6.heap.size, 0, none⟩) kept.length kept.length, .slice (some ⟨w6.heap.size + 1, 0, none⟩) m m] 42); refine ⟨w6.heap.size, w6.heap.size + 1, w6.heap.size + 1 + 1, rfl, ?_, ⟨h1, h2, h3, h4, by omega, by omega, by omega, by omega, by omega, by omega⟩⟩; simp only [Act.put, List.setIfInBounds_toArray, List.set_cons_zero, List.set_cons_succ] <;> rfl) | (obtain ⟨h1, h2, h3, h4, h5⟩ := compact_Of.three w6 (.cells (madeCells #[.int .i64 0] kept.length) 3) (.cells #[.string b, .slice (some ⟨w6.heap.size, 0, none⟩) kept.length kept.length, .slice (some ⟨w6.heap.size + 1 + 1, 0, none⟩) m m] 42) (.cells (madeCells #[.slice none 0 0] m) 27); refine ⟨w6.heap.size, w6.heap.size + 1 + 1, w6.heap.size + 1, rfl, ?_, ⟨h1, h3, h2, h4, by omega, by omega, by omega, by omega, by omega, by omega⟩⟩; simp only [Act.put, List.setIfInBounds_toArray, List.set_cons_zero, List.set_cons_succ] <;> rfl) | (obtain ⟨h1, h2, h3, h4, h5⟩ := compact_Of.three w6 (.cells (madeCells #[.slice none 0 0] m) 27) (.cells (madeCells #[.int .i64 0] kept.length) 3) (.cells #[.string b, .slice (some ⟨w6.heap.size + 1, 0, none⟩) kept.length kept.length, .slice (some ⟨w6.heap.size, 0, none⟩) m m] 42); refine ⟨w6.heap.size + 1, w6.heap.size, w6.heap.size + 1 + 1, rfl, ?_, ⟨h2, h1, h3, h4, by omega, by omega, by omega, by omega, by omega, by omega⟩⟩; simp only [Act.put, List.setIfInBounds_toArray, List.set_cons_zero, List.set_cons_succ] <;> rfl) | (obtain ⟨h1, h2, h3, h4, h5⟩ := compact_Of.three w6 (.cells (madeCells #[.slice none 0 0] m) 27) (.cells #[.string b, .slice (some ⟨w6.heap.size + 1 + 1, 0, none⟩) kept.length kept.length, .slice (some ⟨w6.heap.size, 0, none⟩) m m] 42) (.cells (madeCells #[.int .i64 0] kept.length) 3); refine ⟨w6.heap.size + 1 + 1, w6.heap.size, w6.heap.size + 1, rfl, ?_, ⟨h3, h1, h2, h4, by omega, by omega, by omega, by omega, by omega, by omega⟩⟩; simp only [Act.put, List.setIfInBounds_toArray, List.set_cons_zero, List.set_cons_succ] <;> rfl) | (obtain ⟨h1, h2, h3, h4, h5⟩ := compact_Of.three w6 (.cells #[.string b, .slice (some ⟨w6.heap.size + 1, 0, none⟩) kept.length kept.length, .slice (some ⟨w6.heap.size + 1 + 1, 0, none⟩) m m] 42) (.cells (madeCells #[.int .i64 0] kept.length) 3) (.cells (madeCells #[.slice none 0 0] m) 27); refine ⟨w6.heap.size + 1, w6.heap.size + 1 + 1, w6.heap.size, rfl, ?_, ⟨h2, h3, h1, h4, by omega, by omega, by omega, by omega, by omega, by omega⟩⟩; simp only [Act.put, List.setIfInBounds_toArray, List.set_cons_zero, List.set_cons_succ] <;> rfl) | (obtain ⟨h1, h2, h3, h4, h5⟩ := compact_Of.three w6 (.cells #[.string b, .slice (some ⟨w6.heap.size + 1 + 1, 0, none⟩) kept.length kept.length, .slice (some ⟨w6.heap.size + 1, 0, none⟩) m m] 42) (.cells (madeCells #[.slice none 0 0] m) 27) (.cells (madeCells #[.int .i64 0] kept.length) 3); refine ⟨w6.heap.size + 1 + 1, w6.heap.size + 1, w6.heap.size, rfl, ?_, ⟨h3, h2, h1, h4, by omega, by omega, by omega, by omega, by omega, by omega⟩⟩; simp only [Act.put, List.setIfInBounds_toArray, List.set_cons_zero, List.set_cons_succ] <;> rfl))
     ·have HQ9 := am hq9
      clear hq9
      simp only [Act.put, List.setIfInBounds_toArray, List.set_cons_zero, List.set_cons_succ]
      obtain ⟨ad6, e6, hsrc6⟩ := compact_Of.src (w := w6) (Kd.R_reads' HW6.out).2.2 (by have := HK1.out; omega)
      subst e6
      have HSRC : Aside0 (∀ j v, (kept.map (Value.int .i64))[j]? = some v → w9.cell? (ad6.add j) = some v) := ⟨fun j v hj => (HQ9.out.2.2.2.1.cell (World.block_lt_of_cell? w6 _ (hsrc6 j v hj))).trans (hsrc6 j v hj)⟩
      have cl1 : w9.cell? ⟨gL, 1, none⟩ = some (.slice (some ⟨gR, 0, none⟩) kept.length kept.length) := (blk_cell HQ9.out.2.2.1 1).trans rfl
      have HMF := am (compact_Of.copied HQ9.out)
      have cl2 := (blk_cell HMF.out.2.1 2).trans rfl
      clear hsrc6
      go_wp2_with ((with_reducible refine gate_builtin (b := .copy) (xs := #[.tmp 54, .tmp 55]) rfl ?_); refine wpList_copy_own rfl (.tmp 54) (.tmp 55) 38 38 rfl 3 Tryd.underlying38 compact_Of.sz1 gR 0 kept.length kept.length ad6 kept.length c6 rfl rfl (madeCells #[.int .i64 0] kept.length) 3 HQ9.out.1 (kept.map (Value.int .i64)) (by simp) HSRC.out (by rw [size_madeCells]; simp) (by intro v hv; obtain ⟨x, _, rfl⟩ := List.mem_map.1 hv; rfl) ?_; generalize hw10 : w9.setRow gR _ = w10 at HMF cl2 ⊢; clear hw10)
      obtain ⟨A8, c8, e8⟩ := Kd.R_slice HV6.out
      subst e8
      have HV8 := am (Kd.R_reads' HV6.out).2.2
      have HK6 := am (Kd.R_reads' HW6.out).2.2
      clear cl2 cl1 HSRC
      have HO0 : Aside0 (compact_Of.l k sz l0_1 l0_2 a (kept.drop (0 + 1)) = some o) := HOO
      go_loopw [9, 10, 14, 15, 60] (fun _ v10 _ _ v60 wr => ∃ (i a : Nat) (outs rest : List (List S25)), v60 = .int .i64 i ∧ v10 = .int .i64 a ∧ i ≤ m ∧ Aside0 (compact_Of.l k sz l0_1 l0_2 a (kept.drop (i + 1)) = some rest) ∧ Aside0 (outs ++ rest = o) ∧ Aside0 (outs.length = i) ∧ Aside0 (compact_Of.MF wr w6 gR gS gL m kept b outs)) (fun _ _ _ _ v60 _ => m - (intOf v60).toNat)
      case atStart => exact ⟨0, a, [], o, rfl, rfl, Nat.zero_le _, HO0, ⟨rfl⟩, ⟨rfl⟩, HMF⟩
      case round =>
       clear HO0 HMF HOO
       obtain ⟨i, a, outs, rest, rfl, rfl, hi, HL, HAP, HLN, HMF⟩ := hrel
       by_cases hlt : i < m
       ·have hltb : decide ((i : Int) < (m : Int)) = true := decide_eq_true (by omega)
        have hltc : decide (i < m) = true := decide_eq_true hlt
        have hltd : (i < m) = True := eq_true hlt
        have HLT := am hlt
        obtain ⟨i1, hi1e⟩ : ∃ i1, i + 1 = i1 := ⟨_, rfl⟩
        rw [hi1e] at HL
        have hkd : kept.drop i1 = rd kept (i1 : Int) :: kept.drop (i1 + 1) := by
         have hl : i1 < kept.length := by have := HM.out; omega
         rw [List.drop_eq_getElem_cons hl]
         unfold rd
         rw [Int.toNat_natCast, List.getD_eq_getElem?_getD, List.getElem?_eq_getElem hl]
         rfl
        obtain ⟨y, hy⟩ : ∃ y, rd kept (i1 : Int) = y := ⟨_, rfl⟩
        have h := HL.out
        clear HL
        rw [hkd, hy, compact_Of.l] at h
        obtain ⟨t, ht, h⟩ := Option.bind_eq_some_iff.mp h
        by_cases z1 : t ≤ l0_2.length ∧ a < sz.length
        ·rw [if_pos z1] at h
         obtain ⟨⟨seg, e3⟩, hf, h⟩ := Option.bind_eq_some_iff.mp h
         by_cases z2 : e3 = 0
         ·subst z2
          rw [if_pos rfl] at h
          obtain ⟨rest', hr, h⟩ := Option.bind_eq_some_iff.mp h
          obtain rfl := Option.some.inj h
          obtain ⟨adk, ek, hxk⟩ := Kd.at_int HK6.out (i1 : Int) (by omega) (by have := HM.out; omega)
          cases ek
          rw [Int.toNat_natCast, hy] at hxk
          have HXK := am hxk; have HT1 := am ht; have HZ1 := am z1; have HF := am hf; have HRR := am hr
          obtain ⟨hi1, hi2, hi3', hi4'⟩ := compact_Of.i1w hi1e HM.out HK2.out HLT.out
          have hi3 : (i1 < kept.length) = True := eq_true hi3'
          have hi4 : ((i1 : Int) < (kept.length : Int)) = True := eq_true hi4'
          clear hi3' hi4'
          have HI1 := am hi1e
          clear hlt h hkd hy ht z1 hf hr hxk hi1e
          go_wp2
          have HMF0 := HMF
          go_loopw [15] (fun v15 wi => ∃ (t0 n : Nat), v15 = .int .i64 t0 ∧ a ≤ t0 ∧ wi = wr.drewN n ∧ Aside0 (compact_Of.to y (l0_1.drop t0) t0 = some t)) (fun v15 _ => l0_1.length - (intOf v15).toNat)
          case atStart => exact ⟨a, 0, rfl, Nat.le_refl _, rfl, HT1⟩
          case round =>
           clear HMF HT1
           obtain ⟨t0, n, rfl, hat, rfl, HT0⟩ := hrel
           obtain ⟨ht0, hcase⟩ := compact_Of.to_next y l0_1 t0 t HT0.out
           have HMD := am (compact_Of.MF_drewN HMF0.out (n + 1))
           obtain ⟨adr, er, hxr⟩ := Kd.at_int (Kd.C_below HR1.out (below_then HB6.out HB6.out.size HMD.out.2.2.2.1)) (t0 : Int) (by omega) (by omega)
           subst er
           rw [Int.toNat_natCast] at hxr
           have hxk : (wr.drewN (n + 1)).cell? (ad6.add i1) = some (.int .i64 y) := (HMD.out.2.2.2.1.cell (World.block_lt_of_cell? w6 _ HXK.out)).trans HXK.out
           have hxb : (wr.drewN (n + 1)).cell? ⟨w.heap.size, 1, none⟩ = some (.slice (some adr) l0_1.length c0_1) := (blk_cell (blk_below HG6.out HMD.out.2.2.2.1) 1).trans rfl
           have q1 : (t0 < l0_1.length) = True := eq_true ht0
           have q2 : ((t0 : Int) < (l0_1.length : Int)) = True := eq_true (by omega)
           have hwt : wrap64 ((t0 : Int) + 1) = ((t0 + 1 : Nat) : Int) := by have := HS.out; unfold wrap64; omega
           have HAT2 := am hat; have HT0L := am ht0
           rcases hcase with ⟨hy1, rfl⟩ | ⟨hy1, hto⟩
           ·have hyb : (rd l0_1 (t : Int) != y) = false := by simp [hy1]
            clear hat ht0 HT0
            go_wp2
            go_region
            have HD2 := am (compact_Of.MF_drewN HMF0.out (n + 2))
            obtain ⟨ad8, e8, hx8⟩ := Kd.at_int HV8.out (a : Int) (by omega) (by have := HZ1.out.2; omega)
            subst e8
            rw [Int.toNat_natCast] at hx8
            have hz8 : (wr.drewN (n + 2)).cell? (ad8.add a) = some (.int .i64 (rd sz (a : Int))) := (HD2.out.2.2.2.1.cell (World.block_lt_of_cell? w6 _ hx8)).trans hx8
            have hb2 : (wr.drewN (n + 2)).cell? ⟨w.heap.size, 2, none⟩ = some (.slice A0_2 l0_2.length c0_2) := (blk_cell (blk_below HG6.out HD2.out.2.2.2.1) 2).trans rfl
            have hl2 : (wr.drewN (n + 2)).cell? ⟨gL, 2, none⟩ = some (.slice (some ⟨gS, 0, none⟩) m m) := (blk_cell HD2.out.2.1 2).trans rfl
            have ha1 : (a < sz.length) = True := eq_true HZ1.out.2
            have ha2 : ((a : Int) < (sz.length : Int)) = True := eq_true (by have := HZ1.out.2; omega)
            obtain ⟨q, hq⟩ : ∃ q, (l0_2.take t).drop a = q := ⟨_, rfl⟩
            have hql : t - a = q.length := by rw [← hq, List.length_drop, List.length_take]; have := HZ1.out.1; omega
            obtain ⟨AQ, hAQ⟩ : ∃ A, (if c0_2 = a then A0_2 else A0_2.map (·.add (a * 1))) = A := ⟨_, rfl⟩
            have hcq0 := Kd.C_drop (Kd.C_take (Kd.C_below HR2.out (below_then HB6.out HB6.out.size HD2.out.2.2.2.1)) (m := t) HZ1.out.1) (m := a) (c := c0_2) (by rw [List.length_take]; have := HZ1.out.1; have := HAT2.out; omega) (by rw [List.length_take]; have := HC2.out; omega)
            rw [hq] at hcq0
            have HCQ : Aside0 (Kd.C (Kd.slice 25 k25) (wr.drewN (n + 2)) AQ q.length q) := ⟨by rw [← hAQ]; exact hcq0⟩
            have hcut := compact_Of.cut A0_2 l0_2.length c0_2 a t HAT2.out HZ1.out.1 HC2.out
            rw [hAQ, hql] at hcut
            have HFQ : Aside0 (fuse_Of.f k (rd sz (a : Int)) q = some (seg, 0)) := ⟨by rw [← hq]; exact HF.out⟩
            have HCC : Aside0 (q.length ≤ c0_2 - a) := ⟨by rw [← hql]; have := HC2.out; have := HZ1.out.1; omega⟩
            have HTQ : Aside0 (Tabs (wr.drewN (n + 2))) := ⟨Tabs.below HT.out (below_then HB6.out HB6.out.size HD2.out.2.2.2.1)⟩
            have HLT2 : Aside0 (outs.length < m) := ⟨by rw [HLN.out]; exact HLT.out⟩
            have HX8 := am hx8
            clear hq hql hAQ hcq0 hx8
            go_wp2
            refine wp_region_noPanic ?_
            go_region_law (go_simp; go_at_call 11; (with_reducible refine (fuse_Of.calls k (rd sz (a : Int)) AQ (c0_2 - a) q seg 0 _ HCQ.out HCC.out HTQ.out HFQ.out).mono ?_); rintro e w20 ⟨vf, rfl, hrf, hbf⟩; obtain ⟨Af, cf, ef⟩ := Kd.R_slice hrf; subst ef; have HMP := am (compact_Of.MF_put HD2.out HLT2.out hbf hrf); rw [HLN.out] at HMP; have HB20 := am (below_then HD2.out.2.2.2.1 HD2.out.2.2.2.1.size hbf); have hz8' : w20.cell? (ad8.add a) = some (.int .i64 (rd sz (a : Int))) := (HB20.out.cell (World.block_lt_of_cell? w6 _ HX8.out)).trans HX8.out; have hb2' : w20.cell? ⟨w.heap.size, 2, none⟩ = some (.slice A0_2 l0_2.length c0_2) := (blk_cell (blk_below HG6.out HB20.out) 2).trans rfl; have hl2' : w20.cell? ⟨gL, 2, none⟩ = some (.slice (some ⟨gS, 0, none⟩) m m) := (blk_cell (blk_below HD2.out.2.1 hbf) 2).trans rfl; have hst := compact_Of.store_at HD2.out.2.2.1 HLT2.out hbf; rw [HLN.out] at hst; obtain ⟨hs1, hs2⟩ := hst; clear hrf hbf)
            all_goals (refine NoPanic.normal ?_)
            all_goals go_wp2
            all_goals exact ⟨⟨i1, t, outs ++ [seg], rest', rfl, rfl, compact_Of.i1m HI1.out HLT.out, HRR, ⟨by rw [List.append_assoc]; exact HAP.out⟩, ⟨by rw [List.length_append, HLN.out]; exact HI1.out⟩, HMP⟩, compact_Of.i1l HI1.out HLT.out⟩
           ·have hyb : (rd l0_1 (t0 : Int) != y) = true := by simp [hy1]
            have HTO := am hto
            clear hat ht0 HT0 hto hy1
            go_wp2
            go_region
            go_wp2
            go_roundw
            case rel => exact ⟨t0 + 1, n + 1, by rw [hwt], Nat.le_succ_of_le HAT2.out, rfl, HTO⟩
            case measure => exact op_sum.less HT0L.out hwt
         ·rw [if_neg z2] at h; cases h
        ·rw [if_neg z1] at h; cases h
       ·have hltb : decide ((i : Int) < (m : Int)) = false := decide_eq_false (by omega)
        have hltc : decide (i < m) = false := decide_eq_false hlt
        have hie : i = m := by omega
        subst hie
        have h := HL.out
        clear HL hlt hi
        rw [List.drop_of_length_le (by rw [HM.out]; exact Nat.le_refl _), compact_Of.l] at h
        obtain rfl := Option.some.inj h
        have HOE : Aside0 (outs = o) := ⟨by rw [← HAP.out, List.append_nil]⟩
        have e0 : wr.cell? ⟨gL, 0, none⟩ = some (.string b) := (blk_cell HMF.out.2.1 0).trans rfl
        have e1 : wr.cell? ⟨gL, 1, none⟩ = some (.slice (some ⟨gR, 0, none⟩) kept.length kept.length) := (blk_cell HMF.out.2.1 1).trans rfl
        have e2 : wr.cell? ⟨gL, 2, none⟩ = some (.slice (some ⟨gS, 0, none⟩) i i) := (blk_cell HMF.out.2.1 2).trans rfl
        have HE9 := am (blk_below HE6.out HMF.out.2.2.2.1)
        have k0 : wr.cell? ⟨w.heap.size + 1, 0, none⟩ = some (.string ⟨#[]⟩) := (blk_cell HE9.out 0).trans rfl
        have k1 : wr.cell? ⟨w.heap.size + 1, 1, none⟩ = some (.slice none 0 0) := (blk_cell HE9.out 1).trans rfl
        have k2 : wr.cell? ⟨w.heap.size + 1, 2, none⟩ = some (.slice none 0 0) := (blk_cell HE9.out 2).trans rfl
        have f0 := blk_frozen HE9.out 0
        have f1 := blk_frozen HE9.out 1
        have f2 := blk_frozen HE9.out 2
        clear h
        have HGR : Aside0 (((((wr.setCell ⟨w.heap.size + 1, 0, none⟩ (.string b)).setCell ⟨w.heap.size + 1, 1, none⟩ (.slice (some ⟨gR, 0, none⟩) kept.length kept.length)).setCell ⟨w.heap.size + 1, 2, none⟩ (.slice (some ⟨gS, 0, none⟩) i i))).heap[w.heap.size + 1]? = some (.cells #[.string b, .slice (some ⟨gR, 0, none⟩) kept.length kept.length, .slice (some ⟨gS, 0, none⟩) i i] 42 (0, 0))) := ⟨blk_put (blk_put (blk_put HE9.out 0 _ rfl) 1 _ rfl) 2 _ rfl⟩
        have HFI := am (compact_Of.fin HMF.out HLN.out (w.heap.size + 1) (by have := blk_lt HE6.out; show _ < w6.heap.size; exact this) (.string b) (.slice (some ⟨gR, 0, none⟩) kept.length kept.length) (.slice (some ⟨gS, 0, none⟩) i i) (B := w.heap.size) HB6.out.size (by have := HK2.out; unfold maxLen; omega) (by have := HK2.out; have := HM.out; unfold maxLen; omega))
        have HBF := am ((((below_then HB6.out HB6.out.size HMF.out.2.2.2.1).setCell (p := ⟨w.heap.size + 1, 0, none⟩) (Nat.le_succ _) (.string b)).setCell (p := ⟨w.heap.size + 1, 1, none⟩) (Nat.le_succ _) (.slice (some ⟨gR, 0, none⟩) kept.length kept.length)).setCell (p := ⟨w.heap.size + 1, 2, none⟩) (Nat.le_succ _) (.slice (some ⟨gS, 0, none⟩) i i))
        go_wp2
        refine bodyPost_ret (results_ct rfl _ _ (w.heap.size + 1) 42 _ (0, 0) _ rfl HGR.out Tryd.underlying42 rfl (by kernel_rfl)) rfl ?_
        exact ⟨_, _, rfl, HFI.out.1, HOE.out ▸ HFI.out.2, HBF.out⟩
    ·rw [if_neg z3] at h; cases h
   ·rw [if_neg z2] at h; cases h
  ·rw [if_neg z1] at h; cases h
 ·rw [if_neg hs] at h; cases h
def seek_Find.idx (r : Int) : List Int → Int → Int
 | [], _ => -1
 | x :: l, i => if x > r then i else seek_Find.idx r l (i + 1)
theorem seek_Find.idx_spec (r : Int) : ∀ (l : List Int) (i : Nat), (seek_Find.idx r l (i : Int) = -1 ∧ ∀ x ∈ l, x ≤ r) ∨ ∃ k, k < l.length ∧ seek_Find.idx r l (i : Int) = ((i + k : Nat) : Int) ∧ l.getD k 0 > r ∧ ∀ x ∈ l.take k, x ≤ r
 | [], _ => .inl ⟨rfl, fun _ h => by cases h⟩
 | x :: l, i => by
  by_cases h : x > r
  ·exact .inr ⟨0, by simp, by simp [seek_Find.idx, h], by simpa using h, by simp⟩
  ·have e1 : seek_Find.idx r (x :: l) (i : Int) = seek_Find.idx r l ((i + 1 : Nat) : Int) := by rw [seek_Find.idx, if_neg h]; rfl
   rw [e1]
   rcases seek_Find.idx_spec r l (i + 1) with ⟨a, b⟩ | ⟨k, hk, a, b, c⟩
   ·exact .inl ⟨a, fun y hy => by rcases List.mem_cons.1 hy with rfl | hy; exact Int.not_lt.1 h; exact b y hy⟩
   ·refine .inr ⟨k + 1, by simpa using hk, by rw [a]; congr 1; omega, by simpa using b, fun y hy => ?_⟩
    rw [List.take_succ_cons] at hy
    rcases List.mem_cons.1 hy with rfl | hy
    ·exact Int.not_lt.1 h
    ·exact c y hy
theorem seek_Find.idx_next (r : Int) (l : List Int) (j : Nat) (h : j < l.length) : seek_Find.idx r (l.drop j) (j : Int) = if rd l (j : Int) > r then (j : Int) else seek_Find.idx r (l.drop (j + 1)) ((j + 1 : Nat) : Int) := by
 rw [List.drop_eq_getElem_cons h, seek_Find.idx]
 have e : rd l (j : Int) = l[j] := by unfold rd; rw [Int.toNat_natCast, List.getD_eq_getElem?_getD, List.getElem?_eq_getElem h]; rfl
 rw [e]
 rfl
theorem seek_Find.less (x r : Int) (g : Nat) (w : World) (h : w.heap[g]? = some (.cells #[.int .i64 r] 3 (0, 0))) :
  Calls Tryd.prog 58 #[.int .i64 x, .pointer (some ⟨g, 0, none⟩)] w fun e w' => e = .returned (.bool (decide (x > r))) ∧ Below w.heap.size w w' := by
 have hc : w.cell? ⟨g, 0, none⟩ = some (.int .i64 r) := (blk_cell h 0).trans rfl
 have HB := am (Below.refl w.heap.size w)
 have e1 : decide (x > r) = decide (r < x) := rfl
 rw [e1]
 go_enter Tryd.func58, Tryd.ntmps58
 go_wp2
 go_ret
 exact ⟨by first | rfl | (simp; done), by repeat (first | exact HB.out | apply pw_below_drewN | apply below_drew1)⟩
set_option maxHeartbeats 8000000 in
set_option maxRecDepth 100000 in
theorem seek_Find.index (A0 : Option Addr) (c0 : Nat) (l0 : List Int) (r : Int) (g : Nat) (w : World) (hr0 : Kd.C (Kd.int .i64) w A0 l0.length l0) (hg : w.heap[g]? = some (.cells #[.int .i64 r] 3 (0, 0))) (hs : l0.length < 1000000000) :
  Calls Tryd.prog 57 #[.slice A0 l0.length c0, .func (Fn.func 58) #[] #[.pointer (some ⟨g, 0, none⟩)]] w fun e w' => e = .returned (.int .i64 (seek_Find.idx r l0 0)) ∧ Below w.heap.size w w' := by
 have HR0 := am hr0; have HZ := am hs; have HG := am hg
 obtain ⟨q, hr⟩ : ∃ q, seek_Find.idx r l0 0 = q := ⟨_, rfl⟩
 rw [hr]
 have H := am hr
 clear hr0 hs hr hg
 go_enter Tryd.func57, Tryd.ntmps57
 go_wp2
 go_loopw [5, 8] (fun _ v8 wr => ∃ j : Nat, v8 = .int .i64 j ∧ j ≤ l0.length ∧ Aside0 (seek_Find.idx r (l0.drop j) (j : Int) = q) ∧ Aside0 (Below w.heap.size w wr)) (fun _ v8 _ => l0.length - (intOf v8).toNat)
 case atStart => exact ⟨0, rfl, Nat.zero_le _, H, ⟨Below.refl _ _⟩⟩
 case round =>
  clear H
  obtain ⟨j, rfl, hj, HA, HB⟩ := hrel
  by_cases hlt : j < l0.length
  ·have hltb : decide ((j : Int) < (l0.length : Int)) = true := decide_eq_true (by omega)
   have HL := am hlt
   have h := HA.out
   clear HA
   rw [seek_Find.idx_next r l0 j hlt] at h
   obtain ⟨ad, rfl, hx0⟩ := Kd.at_int (Kd.C_below HR0.out HB.out) (j : Int) (by omega) (by omega)
   rw [Int.toNat_natCast] at hx0
   have p1 : (0 ≤ (j : Int)) = True := eq_true (by omega)
   have p2 : ((j : Int) < (l0.length : Int)) = True := eq_true (by omega)
   have p3 : (j < l0.length) = True := eq_true hlt
   have ew : wrap64 ((j : Int) + 1) = ((j + 1 : Nat) : Int) := by have := HZ.out; unfold wrap64; omega
   have HK := am (blk_below HG.out HB.out)
   by_cases he : rd l0 (j : Int) > r
   ·rw [if_pos he] at h
    have hd : decide (rd l0 (j : Int) > r) = true := decide_eq_true he
    have HD := am hd
    subst h
    clear hlt he hd
    go_wp2_with (go_at_call 58; (with_reducible refine (seek_Find.less _ r g _ HK.out).mono ?_); rintro e w1 ⟨rfl, hb⟩; rw [HD.out]; have HB1 := am (below_then HB.out HB.out.size hb); clear hb)
    go_ret
    exact ⟨rfl, HB1.out⟩
   ·rw [if_neg he] at h
    have hd : decide (rd l0 (j : Int) > r) = false := decide_eq_false he
    have HD := am hd
    have HE := am h
    clear hlt he h hd
    go_wp2_with (go_at_call 58; (with_reducible refine (seek_Find.less _ r g _ HK.out).mono ?_); rintro e w1 ⟨rfl, hb⟩; rw [HD.out]; have HB1 := am (below_then HB.out HB.out.size hb); clear hb)
    go_round
    case measure => exact op_sum.less HL.out ew
    case rel => exact ⟨j + 1, by rw [ew], HL.out, HE, HB1⟩
  ·have hltb : decide ((j : Int) < (l0.length : Int)) = false := decide_eq_false (by omega)
   have h := HA.out
   clear HA
   rw [List.drop_of_length_le (by omega), seek_Find.idx] at h
   subst h
   go_wp2
   go_ret
   exact ⟨rfl, HB.out⟩
def seek_Find.ab (l0 : List Int) (a1 : Int) : Int := if seek_Find.idx a1 l0 0 < 0 then (l0.length : Int) else seek_Find.idx a1 l0 0
def seek_Find.f (l0 : List Int) (a1 : Int) : Option (Int × Int × Int) :=
 if l0.length < 1000000000 then (if l0.length = 0 then some (0, 0, 6) else if seek_Find.ab l0 a1 = (l0.length : Int) ∧ rd l0 ((l0.length : Int) - 1) ≠ a1 then some (0, 0, 6) else if seek_Find.ab l0 a1 = 0 then some (0, 0, 11)
  else some (seek_Find.ab l0 a1 - 1, rd l0 (seek_Find.ab l0 a1 - 1), if rd l0 (seek_Find.ab l0 a1 - 1) = a1 then 0 else 10)) else none
set_option maxHeartbeats 8000000 in
set_option maxRecDepth 100000 in
theorem seek_Find.calls (A0 : Option Addr) (c0 : Nat) (l0 : List Int) (a1 : Int) (r1 r2 r3 : Int) (w : World) (hr0 : Kd.C (Kd.int .i64) w A0 l0.length l0) (hc0 : l0.length ≤ c0) (h : seek_Find.f l0 a1 = some (r1, r2, r3)) :
  Calls Tryd.prog 19 #[.slice A0 l0.length c0, .int .i64 a1] w fun e w' => e = .returned (.tuple #[.int .i64 r1, .int .i64 r2, .int .i64 r3]) ∧ Below w.heap.size w w' := by
 have hmf : ∀ (fn : Fn) (first cap : Array Value) (w : World), (Instr.makeFunc fn first cap).run Tryd.prog w = .ok (.func fn first cap) w := fun _ _ _ _ => rfl
 unfold seek_Find.f at h
 by_cases hs : l0.length < 1000000000
 ·rw [if_pos hs] at h
  have HR0 := am hr0; have HZ := am hs
  have HA := am (below_alloc (Below.refl w.heap.size w) (.cells #[.int .i64 a1] 3))
  have HG : Aside0 ((w.alloc (.cells #[.int .i64 a1] 3)).heap[w.heap.size]? = some (.cells #[.int .i64 a1] 3 (0, 0))) := ⟨heap_alloc_new w _⟩
  have HI := am (seek_Find.index A0 c0 l0 a1 w.heap.size (w.alloc (.cells #[.int .i64 a1] 3)) (Kd.C_below HR0.out HA.out) HG.out hs)
  obtain ⟨ix, hix⟩ : ∃ ix, seek_Find.idx a1 l0 0 = ix := ⟨_, rfl⟩
  have hib : -1 ≤ ix ∧ ix < (l0.length : Int) := by
   have := seek_Find.idx_spec a1 l0 0
   rw [show ((0 : Nat) : Int) = 0 from rfl, hix] at this
   rcases this with ⟨e, _⟩ | ⟨k, hk, e, _⟩ <;> omega
  rw [hix] at HI
  have hab : seek_Find.ab l0 a1 = if ix < 0 then (l0.length : Int) else ix := by unfold seek_Find.ab; rw [hix]
  rw [hab] at h
  have HIB := am hib
  clear hr0 hs hab hix hib
  by_cases z0 : l0.length = 0
  ·rw [if_pos z0] at h
   simp only [Option.some.injEq, Prod.mk.injEq] at h
   obtain ⟨rfl, rfl, rfl⟩ := h
   have zi : ix < 0 := by have := HIB.out; omega
   have z0b : ((l0.length : Int) == 0) = true := by simp [z0]
   have z0c : decide ((l0.length : Int) = 0) = true := by simp [z0]
   have zib : decide (ix < 0) = true := decide_eq_true zi
   clear z0 zi
   go_enter Tryd.func19, Tryd.ntmps19
   go_wp2_with (go_at_call 57; (with_reducible refine HI.out.mono ?_); rintro e w1 ⟨rfl, hb⟩; have HB1 := am (below_then HA.out HA.out.size hb); have HC1 := am (blk_below HG.out hb); clear hb)
   go_ret3
   exact ⟨rfl, HB1.out⟩
  ·rw [if_neg z0] at h
   have z0b : ((l0.length : Int) == 0) = false := by simp [z0]
   have z0c : decide ((l0.length : Int) = 0) = false := by simp [z0]
   by_cases zi : ix < 0
   ·rw [if_pos zi] at h
    have zib : decide (ix < 0) = true := decide_eq_true zi
    obtain ⟨m, hm⟩ : ∃ m, l0.length = m + 1 := ⟨l0.length - 1, by omega⟩
    have em : (l0.length : Int) - 1 = (m : Int) := by omega
    obtain ⟨ad, ead, hx0⟩ := Kd.at_int HR0.out (m : Int) (by omega) (by omega)
    rw [Int.toNat_natCast] at hx0
    subst ead
    have hp0 : (m < l0.length) = True := eq_true (by omega)
    have hp1 : ((m : Int) < (l0.length : Int)) = True := eq_true (by omega)
    have hw : wrap64 ((l0.length : Int) - 1) = (m : Int) := by rw [em]; have := HZ.out; unfold wrap64; omega
    have hw2 : IntKind.i64.wrap ((l0.length : Int) - 1) = (m : Int) := by rw [IntKind.wrap_i64, em]; have := HZ.out; omega
    rw [em] at h
    by_cases z1 : rd l0 (m : Int) = a1
    ·have z1b : (rd l0 (m : Int) != a1) = false := by simp [z1]
     have z2b : ((l0.length : Int) == 0) = false := by simp [z0]
     rw [if_neg (fun hh => hh.2 z1), if_neg (by omega), if_pos z1] at h
     simp only [Option.some.injEq, Prod.mk.injEq] at h
     obtain ⟨rfl, rfl, rfl⟩ := h
     have HX0 := am hx0
     clear z0 zi z1 hx0 em hm
     go_enter Tryd.func19, Tryd.ntmps19
     go_wp2_with (go_at_call 57; (with_reducible refine HI.out.mono ?_); rintro e w1 ⟨rfl, hb⟩; have HB1 := am (below_then HA.out HA.out.size hb); have HC1 := am (blk_below HG.out hb); clear hb)
     have hx1 : w1.drew.cell? _ = _ := (HB1.out.cell (World.block_lt_of_cell? w _ HX0.out)).trans HX0.out
     have hx2 : w1.drew.cell? ⟨w.heap.size, 0, none⟩ = some (.int .i64 a1) := (blk_cell HC1.out 0).trans rfl
     go_region
     go_wp2
     go_ret3
     exact ⟨rfl, below_drew1 HB1.out⟩
    ·have z1b : (rd l0 (m : Int) != a1) = true := by simp [z1]
     rw [if_pos ⟨rfl, z1⟩] at h
     simp only [Option.some.injEq, Prod.mk.injEq] at h
     obtain ⟨rfl, rfl, rfl⟩ := h
     have HX0 := am hx0
     clear z0 zi z1 hx0 em hm
     go_enter Tryd.func19, Tryd.ntmps19
     go_wp2_with (go_at_call 57; (with_reducible refine HI.out.mono ?_); rintro e w1 ⟨rfl, hb⟩; have HB1 := am (below_then HA.out HA.out.size hb); have HC1 := am (blk_below HG.out hb); clear hb)
     have hx1 : w1.drew.cell? _ = _ := (HB1.out.cell (World.block_lt_of_cell? w _ HX0.out)).trans HX0.out
     have hx2 : w1.drew.cell? ⟨w.heap.size, 0, none⟩ = some (.int .i64 a1) := (blk_cell HC1.out 0).trans rfl
     go_region
     go_wp2
     go_ret3
     exact ⟨rfl, below_drew1 HB1.out⟩
   ·rw [if_neg zi] at h
    have zib : decide (ix < 0) = false := decide_eq_false zi
    obtain ⟨m, hm⟩ : ∃ m : Nat, ix = (m : Int) := ⟨ix.toNat, by omega⟩
    subst hm
    have hlt : m < l0.length := by have := HIB.out; omega
    have z2 : ¬ ((m : Int) = (l0.length : Int)) := by omega
    have z2b : ((m : Int) == (l0.length : Int)) = false := by simp; omega
    rw [if_neg (fun hh => z2 hh.1)] at h
    by_cases z3 : (m : Int) = 0
    ·rw [if_pos z3] at h
     have z3b : ((m : Int) == 0) = true := by simp at z3 ⊢; exact z3
     simp only [Option.some.injEq, Prod.mk.injEq] at h
     obtain ⟨rfl, rfl, rfl⟩ := h
     clear z0 zi z2 z3 hlt
     go_enter Tryd.func19, Tryd.ntmps19
     go_wp2_with (go_at_call 57; (with_reducible refine HI.out.mono ?_); rintro e w1 ⟨rfl, hb⟩; have HB1 := am (below_then HA.out HA.out.size hb); have HC1 := am (blk_below HG.out hb); clear hb)
     go_region
     go_wp2
     go_ret3
     exact ⟨rfl, below_drew1 HB1.out⟩
    ·rw [if_neg z3] at h
     have z3b : ((m : Int) == 0) = false := by simp at z3 ⊢; exact z3
     obtain ⟨q, rfl⟩ : ∃ q, m = q + 1 := ⟨m - 1, by omega⟩
     have em : ((q + 1 : Nat) : Int) - 1 = (q : Int) := by omega
     obtain ⟨ad, ead, hx0⟩ := Kd.at_int HR0.out (q : Int) (by omega) (by omega)
     rw [Int.toNat_natCast] at hx0
     subst ead
     have hp0 : (q < l0.length) = True := eq_true (by omega)
     have hp1 : ((q : Int) < (l0.length : Int)) = True := eq_true (by omega)
     have hw : wrap64 (((q + 1 : Nat) : Int) - 1) = (q : Int) := by rw [em]; have := HZ.out; unfold wrap64; omega
     have hw2 : wrap64 ((q : Int) + 1 - 1) = (q : Int) := by have := HZ.out; unfold wrap64; omega
     have hw3 : wrap64 (q : Int) = (q : Int) := by have := HZ.out; unfold wrap64; omega
     have z3c : ((q : Int) + 1 == 0) = false := by simp; omega
     have z2c : ((q : Int) + 1 == (l0.length : Int)) = false := by simp; omega
     rw [em] at h
     by_cases z4 : rd l0 (q : Int) = a1
     ·have z4b : (rd l0 (q : Int) != a1) = false := by simp [z4]
      rw [if_pos z4] at h
      simp only [Option.some.injEq, Prod.mk.injEq] at h
      obtain ⟨rfl, rfl, rfl⟩ := h
      have HX0 := am hx0
      clear z0 zi z2 z3 z4 hlt hx0 em
      go_enter Tryd.func19, Tryd.ntmps19
      go_wp2_with (go_at_call 57; (with_reducible refine HI.out.mono ?_); rintro e w1 ⟨rfl, hb⟩; have HB1 := am (below_then HA.out HA.out.size hb); have HC1 := am (blk_below HG.out hb); clear hb)
      have hx1 : w1.drew.cell? _ = _ := (HB1.out.cell (World.block_lt_of_cell? w _ HX0.out)).trans HX0.out
      have hx2 : w1.drew.cell? ⟨w.heap.size, 0, none⟩ = some (.int .i64 a1) := (blk_cell HC1.out 0).trans rfl
      go_region
      go_wp2
      go_ret3
      exact ⟨by rw [← hw3]; simp only [hw3]; first | rfl | (simp [hw3]; done), below_drew1 HB1.out⟩
     ·have z4b : (rd l0 (q : Int) != a1) = true := by simp [z4]
      rw [if_neg z4] at h
      simp only [Option.some.injEq, Prod.mk.injEq] at h
      obtain ⟨rfl, rfl, rfl⟩ := h
      have HX0 := am hx0
      clear z0 zi z2 z3 z4 hlt hx0 em
      go_enter Tryd.func19, Tryd.ntmps19
      go_wp2_with (go_at_call 57; (with_reducible refine HI.out.mono ?_); rintro e w1 ⟨rfl, hb⟩; have HB1 := am (below_then HA.out HA.out.size hb); have HC1 := am (blk_below HG.out hb); clear hb)
      have hx1 : w1.drew.cell? _ = _ := (HB1.out.cell (World.block_lt_of_cell? w _ HX0.out)).trans HX0.out
      have hx2 : w1.drew.cell? ⟨w.heap.size, 0, none⟩ = some (.int .i64 a1) := (blk_cell HC1.out 0).trans rfl
      go_region
      go_wp2
      go_ret3
      exact ⟨by rw [← hw3]; simp only [hw3]; first | rfl | (simp [hw3]; done), below_drew1 HB1.out⟩
 ·rw [if_neg hs] at h; cases h
def epitometop_few.f (l0 : List Int) : Option (List Int) := if 0 ≤ (mn (l0.length : Int) 30) then (if (mn (l0.length : Int) 30) ≤ (l0.length : Int) then (some (l0.take ((mn (l0.length : Int) 30) : Int).toNat)) else (none)) else (none)
set_option maxHeartbeats 8000000 in
set_option maxRecDepth 100000 in
theorem epitometop_few.calls (P0_ : Nat → Prop) (A0 : Option Addr) (c0 : Nat) (l0 : List Int) (r : List Int) (w : World) (hs0 : Kd.V (Kd.int .i64) 3 w w.heap.size (fun k_ => P0_ k_) (.slice A0 l0.length c0) l0) (h : epitometop_few.f l0 = some r) :
  Calls Tryd.prog 18 #[.slice A0 l0.length c0] w fun e w' => ∃ v0_ : Value, e = .returned (v0_) ∧ Kd.V (Kd.int .i64) 3 w' w.heap.size (fun k_ => (P0_ k_ ∨ w.heap.size ≤ k_)) v0_ r ∧ Below w.heap.size w w' := by
 have HO0 := am (show Kd.V (Kd.int .i64) 3 w w.heap.size (fun k_ => (P0_ k_ ∨ w.heap.size ≤ k_)) (.slice A0 l0.length c0) l0 from Kd.V_mono hs0 (fun k_ hk => .inl hk))
 have HB := am (Below.refl w.heap.size w)
 have H : (if 0 ≤ (mn (l0.length : Int) 30) then (if (mn (l0.length : Int) 30) ≤ (l0.length : Int) then (some (l0.take ((mn (l0.length : Int) 30) : Int).toNat)) else (none)) else (none)) = some r := h
 clear h
 obtain ⟨ji2, hji2⟩ : ∃ j_ : Int, (mn (l0.length : Int) 30) = j_ := ⟨_, rfl⟩
 replace H : (if 0 ≤ (ji2) then (if (ji2) ≤ (l0.length : Int) then (some (l0.take ((ji2) : Int).toNat)) else (none)) else (none)) = some r := by first | (rw [hji2] at H; exact H) | (simp only [hji2] at H ⊢; exact H)
 (try (have hji2h : ji2 ≤ 30 := by (rw [← hji2]; unfold mn; (repeat' split) <;> omega)))
 (try (have hji2g : ji2 ≤ 64 := by omega))
 (try (have hji2l : 0 ≤ ji2 := by (rw [← hji2]; unfold mn; (repeat' split) <;> omega)))
 (try (have hji2m : 0 ≤ ji2 := by omega))
 have hji2_ : (if 30 < (l0.length : Int) then 30 else (l0.length : Int)) = ji2 := hji2
 by_cases c3 : 0 ≤ (ji2)
 ·rw [if_pos c3] at H
  have c3b0 := eq_true c3
  have c3b1 : decide (0 ≤ (ji2)) = true := decide_eq_true c3
  clear c3
  by_cases c4 : (ji2) ≤ (l0.length : Int)
  ·rw [if_pos c4] at H
   have c4b0 := eq_true c4
   have c4b1 : decide ((ji2) ≤ (l0.length : Int)) = true := decide_eq_true c4
   clear c4
   obtain ⟨y330, hy330⟩ : ∃ y_ : List Int, y_ = (l0.take ((ji2) : Int).toNat) := ⟨_, rfl⟩
   replace H : (some y330) = some r := by first | (rw [hy330]; with_reducible exact H) | (have H2_ := (Option.bind_some _ _).symm.trans H; rw [hy330]; with_reducible exact H2_) | (have H2_ := (Option.bind_some _ _).symm.trans H; with_reducible exact H2_) | with_reducible exact H | (rw [hy330]; exact H) | exact H
   have Ny330 := am hy330
   clear hy330
   obtain rfl := Option.some.inj H
   simp only [Option.some.injEq, Prod.mk.injEq] at H
   obtain ⟨rfl⟩ := H
   have q5 : ((ji2) : Int) ≤ ((l0.length : Int) : Int) := of_decide_eq_true as0
   obtain ⟨i05, hi05, _, hsz5, _⟩ := info_parts info3
   have hroom5 : l0.length ≤ c0 := (Kd.V_reads' HO0.out).2.1
   have hC5 : Kd.F (Kd.int .i64) _ _ A0 l0.length l0 := (Kd.V_at (base := w.heap.size) HO0.out).2.2
   have hcut5 := cut_to (P := Tryd.prog) 38 3 .i64 Tryd.underlying38 hi05 A0 l0.length c0 (ji2) (of_decide_eq_true as0) q5 hroom5
   have hr5 := Kd.F_take (m := ((ji2) : Int).toNat) hC5 (by omega)
   have hy5 : y330.length = ((ji2) : Int).toNat := (by rw [Ny330.out, List.length_take]; omega)
   rw [← Ny330.out] at hr5
   rw [← hy5] at hcut5
   have HO334 := am (show Kd.V (Kd.int .i64) 3 _ w.heap.size _ (.slice A0 y330.length c0) y330 from Kd.V_mk (by omega) hr5)
   have HC334 := am (show y330.length ≤ c0 from by omega)
   clear hr5 hC5 hroom5 hi05 hsz5
   have KY5 := am hy5
   clear hy5
   replace q5 := eq_true q5
   go_enter Tryd.func18, Tryd.ntmps18
   go_wp2
   go_ret
   exact ⟨_, by first | rfl | (simp [errW_none, errW_some] <;> rfl) | (simp only [← hji2]; first | rfl | (simp [errW_none, errW_some] <;> rfl)) | (simp [*, errW_none, errW_some] <;> rfl), by (with_reducible repeat (first | apply Kd.V_alloc | apply Kd.V_drewN | apply Kd.V_drew)); exact HO334.out, bl⟩
  ·rw [if_neg c4] at H
   exact absurd H (by simp)
 ·rw [if_neg c3] at H
  exact absurd H (by simp)
def server_after.f (a0 : Int) : Option (Int × Int) := if a0 ≥ 268435455 then (some (0, 2)) else (some (wrap64 (a0 + 1), 0))
set_option maxHeartbeats 8000000 in
set_option maxRecDepth 100000 in
theorem server_after.calls (a0 : Int) (r1 : Int) (r2 : Int) (w : World) (h : server_after.f a0 = some (r1, r2)) :
  Calls Tryd.prog 89 #[.int .i64 a0] w fun e w' => e = .returned (.tuple #[.int .i64 r1, .int .i64 r2]) ∧ Drawn0 w w' := by
 have H : (if a0 ≥ 268435455 then (some (0, 2)) else (some (wrap64 (a0 + 1), 0))) = some (r1, r2) := h
 clear h
 by_cases c2 : a0 ≥ 268435455
 ·rw [if_pos c2] at H
  have c2b0 : decide (268435455 ≤ a0) = true := decide_eq_true c2
  clear c2
  simp only [Option.some.injEq, Prod.mk.injEq] at H
  obtain ⟨rfl, rfl⟩ := H
  go_enter Tryd.func89, Tryd.ntmps89
  go_wp2
  go_ret2
  exact ⟨pj, by repeat (first | exact Drawn0.refl _ | apply Drawn0.step)⟩
 ·rw [if_neg c2] at H
  have c2b0 : decide (268435455 ≤ a0) = false := decide_eq_false c2
  clear c2
  simp only [Option.some.injEq, Prod.mk.injEq] at H
  obtain ⟨rfl, rfl⟩ := H
  go_enter Tryd.func89, Tryd.ntmps89
  go_wp2
  go_ret2
  exact ⟨pj, by repeat (first | exact Drawn0.refl _ | apply Drawn0.step)⟩
def fuse_Chain.l (k : Nat) : Int → List (List S25) → Option (Int × Int)
 | x, [] => some (x, 0)
 | x, y :: l => (fuse_next.f k x y).bind fun r => if r.2 = 0 then fuse_Chain.l k r.1 l else some (0, r.2)
def fuse_Chain.f (k : Nat) (a0 : Int) (l1 : List (List S25)) : Option (Int × Int) := if l1.length < 1000000000 then (op_Keep.f k a0).bind fun t => (if t.2 = 0 then fuse_Chain.l k a0 l1 else some (0, t.2)) else none
set_option maxHeartbeats 8000000 in
set_option maxRecDepth 100000 in
theorem fuse_Chain.fold (k : Nat) (xs : Int) (A1 : Option Addr) (c1 : Nat) (l1 : List (List S25)) (r1 : Int) (r2 : Int) (w : World)
  (hr1 : Kd.C (Kd.slice 25 k25) w A1 l1.length l1) (hs : l1.length < 1000000000) (hT : Tabs w) (h : fuse_Chain.l k xs l1 = some (r1, r2)) :
  Calls Tryd.prog 93 #[.int .i64 xs, .slice A1 l1.length c1, .func (Fn.func 94) #[] #[]] w fun e w' => e = .returned (.tuple #[.int .i64 r1, .int .i64 r2]) ∧ Below w.heap.size w w' := by
 have HR1 := am hr1; have HT := am hT; have HZ := am hs; have H := am h
 clear hr1 hT hs h
 go_enter Tryd.func93, Tryd.ntmps93
 go_wp2
 go_loopw [0, 9, 10, 11, 12, 15] (fun v0 _ _ _ _ v15 wr => ∃ j : Nat, v15 = .int .i64 j ∧ j ≤ l1.length ∧ ∃ x : Int, v0 = .int .i64 x ∧ Aside0 (fuse_Chain.l k x (l1.drop j) = some (r1, r2)) ∧ Aside0 (Below w.heap.size w wr)) (fun _ _ _ _ _ v15 _ => l1.length - (intOf v15).toNat)
 case atStart => exact ⟨0, rfl, Nat.zero_le _, xs, rfl, H, ⟨Below.refl _ _⟩⟩
 case round =>
  clear H
  obtain ⟨j, rfl, hj, x, rfl, HA, HW⟩ := hrel
  by_cases hlt : j < l1.length
  ·have hltb : decide ((j : Int) < (l1.length : Int)) = true := decide_eq_true (by omega)
   have HL := am hlt
   have h := HA.out
   clear HA
   rw [rows_next l1 j hlt, fuse_Chain.l] at h
   obtain ⟨r, hr, h2⟩ := Option.bind_eq_some_iff.mp h
   clear h
   obtain ⟨ad, Ay, cy, rfl, hx0, hcy, hCy⟩ := at_rows (Kd.C_below HR1.out HW.out) j hlt
   have p1 : (0 ≤ (j : Int)) = True := eq_true (by omega)
   have p2 : ((j : Int) < (l1.length : Int)) = True := eq_true (by omega)
   have p3 : (j < l1.length) = True := eq_true hlt
   have ew := fuse_Of.wrap hlt HZ.out
   have HCY := am hCy; have HCYY := am hcy; have HRR := am hr
   clear hlt hr hCy hcy hj
   generalize rowsAt l1 j = y at *
   by_cases z : r.2 = 0
   ·rw [if_pos z] at h2
    have zb : (r.2 != 0) = false := bne_eq_false_iff_eq.mpr z
    have HE := am h2
    clear h2 z
    go_wp2_with (go_at_call 94; (with_reducible refine (fuse_next.calls k x Ay cy y r.1 r.2 _ HCY.out HCYY.out (Tabs.below HT.out HW.out) HRR.out).mono ?_); rintro e w1 ⟨rfl, hb⟩; have HW1 := am (below_then HW.out HW.out.size hb); clear hb)
    go_round
    case measure => exact op_sum.less HL.out ew
    case rel => exact ⟨j + 1, by rw [ew], HL.out, r.1, rfl, HE, HW1⟩
   ·rw [if_neg z] at h2
    have zb : (r.2 != 0) = true := bne_iff_ne.mpr z
    simp only [Option.some.injEq, Prod.mk.injEq] at h2
    obtain ⟨rfl, rfl⟩ := h2
    clear z
    go_wp2_with (go_at_call 94; (with_reducible refine (fuse_next.calls k x Ay cy y r.1 r.2 _ HCY.out HCYY.out (Tabs.below HT.out HW.out) HRR.out).mono ?_); rintro e w1 ⟨rfl, hb⟩; have HW1 := am (below_then HW.out HW.out.size hb); clear hb)
    go_ret2
    exact ⟨rfl, HW1.out⟩
  ·have hltb : decide ((j : Int) < (l1.length : Int)) = false := decide_eq_false (by omega)
   have h := HA.out
   clear HA
   rw [List.drop_of_length_le (by omega), fuse_Chain.l] at h
   simp only [Option.some.injEq, Prod.mk.injEq] at h
   obtain ⟨rfl, rfl⟩ := h
   go_wp2
   go_ret2
   exact ⟨rfl, HW.out⟩
set_option maxHeartbeats 8000000 in
set_option maxRecDepth 100000 in
theorem fuse_Chain.calls (k : Nat) (a0 : Int) (A1 : Option Addr) (c1 : Nat) (l1 : List (List S25)) (r1 : Int) (r2 : Int) (w : World) (hr1 : Kd.C (Kd.slice 25 k25) w A1 l1.length l1) (hc1 : l1.length ≤ c1) (hT : Tabs w) (h : fuse_Chain.f k a0 l1 = some (r1, r2)) :
  Calls Tryd.prog 83 #[.int .i64 a0, .slice A1 l1.length c1] w fun e w' => e = .returned (.tuple #[.int .i64 r1, .int .i64 r2]) ∧ Below w.heap.size w w' := by
 unfold fuse_Chain.f at h
 by_cases c : l1.length < 1000000000
 ·rw [if_pos c] at h
  obtain ⟨t, ht, h⟩ := Option.bind_eq_some_iff.mp h
  have HR1 := am hr1; have HT := am hT; have HZ := am c; have HK := am ht
  clear hr1 hc1 hT c ht
  by_cases z : t.2 = 0
  ·rw [if_pos z] at h
   have zb : (t.2 != 0) = false := bne_eq_false_iff_eq.mpr z
   have H := am h
   clear h z
   go_enter Tryd.func83, Tryd.ntmps83
   go_wp2_with (first | (go_at_call 42; (with_reducible refine (op_Keep.calls k a0 t.1 t.2 _ HK.out).mono ?_); rintro e w1 ⟨v1, rfl, ho, hb⟩; have HB1 := am hb; clear ho hb) | (go_at_call 93; (with_reducible refine (fuse_Chain.fold k a0 A1 c1 l1 r1 r2 w1 (Kd.C_below HR1.out HB1.out) HZ.out (Tabs.below HT.out HB1.out) H.out).mono ?_); rintro e w2 ⟨rfl, hb⟩; have HB2 := am (below_then HB1.out HB1.out.size hb); clear hb))
   go_ret2
   exact ⟨rfl, HB2.out⟩
  ·rw [if_neg z] at h
   have zb : (t.2 != 0) = true := bne_iff_ne.mpr z
   simp only [Option.some.injEq, Prod.mk.injEq] at h
   obtain ⟨rfl, rfl⟩ := h
   clear z
   go_enter Tryd.func83, Tryd.ntmps83
   go_wp2_with (go_at_call 42; (with_reducible refine (op_Keep.calls k a0 t.1 t.2 _ HK.out).mono ?_); rintro e w1 ⟨v1, rfl, ho, hb⟩; have HB1 := am hb; clear ho hb)
   go_ret2
   exact ⟨rfl, HB1.out⟩
 ·rw [if_neg c] at h; cases h
def through_may.f (k : Nat) (l0 : List (S25)) (l1 : List (List (S25))) : Option (Int) := (op_May.f k l0).bind fun t191 => (if t191 = 0 then ((op_In.f l0).bind fun t192 => ((fuse_Chain.f k t192 l1).bind fun bt193 => (some bt193.2))) else (some t191))
set_option maxHeartbeats 8000000 in
set_option maxRecDepth 100000 in
theorem through_may.calls (k : Nat) (A0 : Option Addr) (c0 : Nat) (l0 : List (S25)) (A1 : Option Addr) (c1 : Nat) (l1 : List (List (S25))) (r : Int) (w : World) (hr0 : Kd.C k25 w A0 l0.length l0) (hc0 : l0.length ≤ c0) (hr1 : Kd.C (Kd.slice 25 k25) w A1 l1.length l1) (hc1 : l1.length ≤ c1) (hT : Tabs w) (h : through_may.f k l0 l1 = some r) :
  Calls Tryd.prog 45 #[.slice A0 l0.length c0, .slice A1 l1.length c1] w fun e w' => e = .returned (.int .i64 r) ∧ Below w.heap.size w w' := by
 have HT := am hT
 clear hT
 have HR0 := am hr0
 have HC0 := am hc0
 clear hr0 hc0
 have HR1 := am hr1
 have HC1 := am hc1
 clear hr1 hc1
 have HB := am (Below.refl w.heap.size w)
 have H : ((op_May.f k l0).bind fun t191 => (if t191 = 0 then ((op_In.f l0).bind fun t192 => ((fuse_Chain.f k t192 l1).bind fun bt193 => (some bt193.2))) else (some t191))) = some r := h
 clear h
 replace H := Option.bind_eq_some_iff.mp H
 obtain ⟨t191, A30, H⟩ := H
 replace H : (if t191 = 0 then ((op_In.f l0).bind fun t192 => ((fuse_Chain.f k t192 l1).bind fun bt193 => (some bt193.2))) else (some t191)) = some r := H
 have A3 := am A30
 clear A30
 by_cases c4 : t191 = 0
 ·rw [if_pos c4] at H
  have c4b0 : (t191 == 0) = true := beq_iff_eq.mpr c4
  have c4b1 : (t191 != 0) = false := bne_eq_false_iff_eq.mpr c4
  clear c4
  replace H := Option.bind_eq_some_iff.mp H
  obtain ⟨t192, A50, H⟩ := H
  replace H : ((fuse_Chain.f k t192 l1).bind fun bt193 => (some bt193.2)) = some r := H
  have A5 := am A50
  clear A50
  replace H := Option.bind_eq_some_iff.mp H
  obtain ⟨⟨t193, t194⟩, A60, H⟩ := H
  replace H : (some t194) = some r := H
  have A6 := am A60
  clear A60
  obtain rfl := Option.some.inj H
  simp only [Option.some.injEq, Prod.mk.injEq] at H
  obtain ⟨rfl⟩ := H
  go_enter Tryd.func45, Tryd.ntmps45
  go_wp2_with (first | ((with_reducible refine gate_callee (f := 46) rfl ?_); refine goesL_ (some 9) rfl rfl Tryd.func46 (by kernel_rfl) rfl #[.slice A0 l0.length c0] rfl ar ?_; (with_reducible refine (op_May.calls k _ _ l0 t191 _ ?side1 ?side2 ?side3 A3.out).mono ?_); (case side1 => repeat (first | exact HR0.out | (with_reducible refine Kd.C_alloc ?_ _) | (with_reducible refine Kd.C_drewN ?_ _) | (with_reducible refine Kd.C_drew ?_))); (case side2 => exact HC0.out); (case side3 => exact Tabs.below HT.out bl); rintro e w7 ⟨rfl, hb⟩; refine ⟨_, rfl, ?_⟩; have n0_ := am (below_step bl hb); clear HB; have HB := n0_; clear n0_; (try clear hb); (try clear hb2); (try clear hk); (try clear hi)) | ((with_reducible refine gate_callee (f := 20) rfl ?_); refine goesL_ (some 15) rfl rfl Tryd.func20 (by kernel_rfl) rfl #[.slice A0 l0.length c0] rfl ar ?_; (with_reducible refine (op_In.calls _ _ l0 t192 _ ?side1 ?side2 ?side3 A5.out).mono ?_); (case side1 => repeat (first | exact (Kd.C_below HR0.out HB.out) | (with_reducible refine Kd.C_alloc ?_ _) | (with_reducible refine Kd.C_drewN ?_ _) | (with_reducible refine Kd.C_drew ?_))); (case side2 => exact HC0.out); (case side3 => exact Tabs.below HT.out bl); rintro e w8 ⟨rfl, hb⟩; refine ⟨_, rfl, ?_⟩; have n0_ := am (below_step bl hb); clear HB; have HB := n0_; clear n0_; (try clear hb); (try clear hb2); (try clear hk); (try clear hi)) | ((with_reducible refine gate_callee (f := 83) rfl ?_); refine goesL_ (some 17) rfl rfl Tryd.func83 (by kernel_rfl) rfl #[.int .i64 t192, .slice A1 l1.length c1] rfl ar ?_; (with_reducible refine (fuse_Chain.calls k t192 _ _ l1 t193 t194 _ ?side1 ?side2 ?side3 A6.out).mono ?_); (case side1 => repeat (first | exact (Kd.C_below HR1.out HB.out) | (with_reducible refine Kd.C_alloc ?_ _) | (with_reducible refine Kd.C_drewN ?_ _) | (with_reducible refine Kd.C_drew ?_))); (case side2 => exact HC1.out); (case side3 => exact Tabs.below HT.out bl); rintro e w9 ⟨rfl, hb⟩; refine ⟨_, rfl, ?_⟩; have n0_ := am (below_step bl hb); clear HB; have HB := n0_; clear n0_; (try clear hb); (try clear hb2); (try clear hk); (try clear hi)))
  go_ret
  exact ⟨by first | rfl | (simp [errW_none, errW_some] <;> rfl) | (simp [*, errW_none, errW_some] <;> rfl), bl⟩
 ·rw [if_neg c4] at H
  have c4b0 : (t191 == 0) = false := beq_eq_false_iff_ne.mpr c4
  have c4b1 : (t191 != 0) = true := bne_iff_ne.mpr c4
  obtain rfl := Option.some.inj H
  simp only [Option.some.injEq, Prod.mk.injEq] at H
  obtain ⟨rfl⟩ := H
  go_enter Tryd.func45, Tryd.ntmps45
  go_wp2_with (first | ((with_reducible refine gate_callee (f := 46) rfl ?_); refine goesL_ (some 9) rfl rfl Tryd.func46 (by kernel_rfl) rfl #[.slice A0 l0.length c0] rfl ar ?_; (with_reducible refine (op_May.calls k _ _ l0 t191 _ ?side1 ?side2 ?side3 A3.out).mono ?_); (case side1 => repeat (first | exact HR0.out | (with_reducible refine Kd.C_alloc ?_ _) | (with_reducible refine Kd.C_drewN ?_ _) | (with_reducible refine Kd.C_drew ?_))); (case side2 => exact HC0.out); (case side3 => exact Tabs.below HT.out bl); rintro e w10 ⟨rfl, hb⟩; refine ⟨_, rfl, ?_⟩; have n0_ := am (below_step bl hb); clear HB; have HB := n0_; clear n0_; (try clear hb); (try clear hb2); (try clear hk); (try clear hi)))
  go_ret
  exact ⟨by first | rfl | (simp [errW_none, errW_some] <;> rfl) | (simp [*, errW_none, errW_some] <;> rfl), bl⟩
def through_Of.l (k : Nat) : List S25 → List (List S25) → Option (List S25)
 | s, [] => some s
 | s, x :: l => (over_Of.f k s x).bind fun r => through_Of.l k r.1 l
def through_Of.f (k : Nat) (l0 : List S25) (l1 : List (List S25)) : Option (List S25 × Int) :=
 if l1.length < 1000000000 then (through_may.f k l0 l1).bind fun e => (if e = 0 then (normal_Of.f l0).bind fun s => (through_Of.l k s l1).bind fun r => some (r, 0) else some ([], e)) else none
theorem through_Of.cut (ad : Addr) (n c j : Nat) (hj : j < n) (hc : n ≤ c) (W : World) : (Instr.slice 28 (.slice (some ad) n c) (some (.int .i64 (j : Int))) (some (.int .i64 ((j : Int) + 1))) (some (.int .i64 ((j : Int) + 1)))).run Tryd.prog W = .ok (.slice (some (ad.add j)) 1 1) W := by
 obtain ⟨i0, hi0, _, hsz, _⟩ := info_parts info27
 have hel : Tryd.prog.elem 28 = 27 := by simp [Program.elem, Tryd.underlying28]
 have hu : Tryd.prog.underlying 28 = some (.slice (Tryd.prog.elem 28)) := by rw [hel]; exact Tryd.underlying28
 rw [run_slice_lhm W 28 (some ad) n c hu .i64 .i64 .i64 (j : Int) ((j : Int) + 1) ((j : Int) + 1) (by omega) (by omega) (by omega) (by omega), hel]
 have e1 : ((j : Int) + 1).toNat = j + 1 := by omega
 have e2 : ((j : Int)).toNat = j := by omega
 simp [sizeOf, typeInfo, hi0, hsz, sliced, Result.andThen, e1, e2]
set_option maxHeartbeats 8000000 in
set_option maxRecDepth 100000 in
theorem through_Of.calls (k : Nat) (A0 : Option Addr) (c0 : Nat) (l0 : List S25) (A1 : Option Addr) (c1 : Nat) (l1 : List (List S25)) (r1 : List S25) (r2 : Int) (w : World) (hr0 : Kd.C k25 w A0 l0.length l0) (hc0 : l0.length ≤ c0) (hr1 : Kd.C (Kd.slice 25 k25) w A1 l1.length l1) (hc1 : l1.length ≤ c1) (hT : Tabs w) (h : through_Of.f k l0 l1 = some (r1, r2)) :
  Calls Tryd.prog 12 #[.slice A0 l0.length c0, .slice A1 l1.length c1] w fun e w' => ∃ v0_ : Value, e = .returned (.tuple #[v0_, .int .i64 r2]) ∧ Kd.R k25 25 w' w.heap.size (fun _ => True) v0_ r1 ∧ Below w.heap.size w w' := by
 unfold through_Of.f at h
 by_cases c : l1.length < 1000000000
 ·rw [if_pos c] at h
  obtain ⟨e0, he0, h⟩ := Option.bind_eq_some_iff.mp h
  have HR0 := am hr0; have HC0 := am hc0; have HR1 := am hr1; have HC1 := am hc1; have HT := am hT; have HE0 := am he0; have HZ := am c
  by_cases z0 : e0 = 0
  ·subst z0
   rw [if_pos rfl] at h
   obtain ⟨s0, hs0, h⟩ := Option.bind_eq_some_iff.mp h
   obtain ⟨r, hr, h⟩ := Option.bind_eq_some_iff.mp h
   simp only [Option.some.injEq, Prod.mk.injEq] at h
   obtain ⟨rfl, rfl⟩ := h
   have HS0 := am hs0; have HRR := am hr
   clear hr0 hc0 hr1 hc1 hT he0 hs0 hr c
   go_enter Tryd.func12, Tryd.ntmps12
   go_wp2_with (first | (go_at_call 45; (with_reducible refine (through_may.calls k A0 c0 l0 A1 c1 l1 0 _ HR0.out HC0.out HR1.out HC1.out HT.out HE0.out).mono ?_); rintro e w1 ⟨rfl, hb⟩; have HB1 := am hb; clear hb) | (go_at_call 33; (with_reducible refine (normal_Of.calls A0 c0 l0 s0 _ (Kd.C_below HR0.out HB1.out) HC0.out HS0.out).mono ?_); rintro e w2 ⟨v2, rfl, ho, hb⟩; have HO2 := am (Kd.R_lower ho HB1.out.size); have HB2 := am (below_then HB1.out HB1.out.size hb); clear ho hb))
   go_loopw [7, 8, 10, 21] (fun v7 _ _ v21 wr => ∃ j : Nat, v21 = .int .i64 j ∧ j ≤ l1.length ∧ ∃ s : List S25, Aside0 (through_Of.l k s (l1.drop j) = some r) ∧ Aside0 (Kd.R k25 25 wr w.heap.size (fun _ => True) v7 s) ∧ Aside0 (Below w.heap.size w wr)) (fun _ _ _ v21 _ => l1.length - (intOf v21).toNat)
   case atStart => exact ⟨0, rfl, Nat.zero_le _, s0, HRR, HO2, HB2⟩
   case round =>
    clear HRR HO2 HB2
    obtain ⟨j, rfl, hj, s, HA, HO, HW⟩ := hrel
    by_cases hlt : j < l1.length
    ·have hltb : decide ((j : Int) < (l1.length : Int)) = true := decide_eq_true (by omega)
     have HL := am hlt
     obtain ⟨ad, Ay, cy, rfl, hx0, hcy, hCy⟩ := at_rows HR1.out j hlt
     have hcut := through_Of.cut ad l1.length c1 j hlt HC1.out
     have ew := fuse_Of.wrap hlt HZ.out
     have p3 : (j < l1.length) = True := eq_true hlt
     have HX0 := am hx0; have HCY := am hCy; have HCYY := am hcy
     have HRN := am (rows_next l1 j hlt)
     clear hlt hCy hcy hj hx0
     generalize rowsAt l1 j = y at *
     have HA' := am (HRN.out ▸ HA.out)
     clear HA HRN
     go_wp2
     have EW := am ew
     clear ew
     go_loopw [7, 10, 32] (fun v7 _ v32 wi => ∃ i : Nat, v32 = .int .i64 i ∧ i ≤ 1 ∧ ∃ s' : List S25, Aside0 (through_Of.l k s' (if i = 0 then y :: l1.drop (j + 1) else l1.drop (j + 1)) = some r) ∧ Aside0 (Kd.R k25 25 wi w.heap.size (fun _ => True) v7 s') ∧ Aside0 (Below w.heap.size w wi)) (fun _ _ v32 _ => 1 - (intOf v32).toNat)
     case atStart => exact ⟨0, rfl, by omega, s, HA', HO, HW⟩
     case round =>
      clear HA' HO HW
      obtain ⟨i, rfl, hi, s', HA, HO, HW⟩ := hrel
      obtain ⟨As, cs, rfl, hcs, hCs⟩ := Kd.R_reads HO.out
      have HCS := am hcs; have HCC := am hCs
      clear hcs hCs
      rcases (by omega : i = 0 ∨ i = 1) with rfl | rfl
      ·have hx := cell_past HW.out HX0.out
       have h := HA.out
       clear HA
       rw [if_pos rfl, through_Of.l] at h
       obtain ⟨q, hq, h⟩ := Option.bind_eq_some_iff.mp h
       have HQ := am hq; have HE := am h
       clear hq h
       go_wp2_with (go_at_call 13; (with_reducible refine (over_Of.calls k As cs s' Ay cy y q.1 q.2 _ HCC.out HCS.out (Kd.C_below HCY.out HW.out) HCYY.out (Tabs.below HT.out HW.out) HQ.out).mono ?_); rintro e w3 ⟨v3, rfl, ho, hb⟩; have HO3 := am (Kd.R_lower ho HW.out.size); have HW3 := am (below_then HW.out HW.out.size hb); clear ho hb)
       go_round
       case measure => exact Nat.zero_lt_one
       case rel => exact ⟨1, rfl, by omega, q.1, HE, HO3, HW3⟩
      ·have h := HA.out
       clear HA
       rw [if_neg (by omega)] at h
       have HE := am h
       clear h
       go_wp2
       go_round
       case measure => exact op_sum.less HL.out EW.out
       case rel => exact ⟨j + 1, by rw [EW.out], HL.out, s', HE, HO, HW⟩
    ·have hltb : decide ((j : Int) < (l1.length : Int)) = false := decide_eq_false (by omega)
     have p3 : (j < l1.length) = False := eq_false hlt
     have h := HA.out
     clear HA
     rw [List.drop_of_length_le (by omega), through_Of.l] at h
     obtain rfl := Option.some.inj h
     go_wp2
     go_ret2
     exact ⟨_, rfl, HO.out, HW.out⟩
  ·rw [if_neg z0] at h
   have zb : (e0 != 0) = true := bne_iff_ne.mpr z0
   simp only [Option.some.injEq, Prod.mk.injEq] at h
   obtain ⟨rfl, rfl⟩ := h
   clear hr0 hc0 hr1 hc1 hT he0 z0
   go_enter Tryd.func12, Tryd.ntmps12
   go_wp2_with (go_at_call 45; (with_reducible refine (through_may.calls k A0 c0 l0 A1 c1 l1 e0 _ HR0.out HC0.out HR1.out HC1.out HT.out HE0.out).mono ?_); rintro e w1 ⟨rfl, hb⟩; have HB1 := am hb; clear hb)
   go_ret2
   exact ⟨_, rfl, Kd.R_nil _ _ _ _ _, HB1.out⟩
 ·rw [if_neg c] at h; cases h
theorem R_one {w : World} {b B : Nat} {n : Int} {ok : Nat → Prop} (h : w.heap[b]? = some (.cells #[.int .i64 n] 3 (0, 0))) (hB : B ≤ b) (hok : ok b) : Kd.R (Kd.int .i64) 3 w B ok (.slice (some ⟨b, 0, none⟩) 1 1) [n] := by
  refine ⟨fun k hk => ?_, [.int .i64 n], ⟨rfl, .inr ⟨b, 1, #[.int .i64 n], rfl, hB, h, Nat.le_refl _, by decide, rfl, rfl⟩⟩, rfl, fun j p hj => ?_⟩
  · have : b = k := by simpa [Value.ownBlock] using hk
    subst this; exact hok
  · cases j with
    | zero => have : n = p := by simpa using hj
              subst this; rfl
    | succ j => simp at hj
theorem history_cut (A : Option Addr) (n c m : Nat) (hm : m ≤ n) (hc : n ≤ c) (W : World) : (Instr.slice 28 (.slice A n c) (some (.int .i64 (m : Int))) none none).run Tryd.prog W = .ok (.slice (if c = m then A else A.map (·.add (m * 1))) (n - m) (c - m)) W := by
 obtain ⟨i0, hi0, _, hsz, _⟩ := info_parts info27
 have h := cut_from (P := Tryd.prog) 28 27 .i64 Tryd.underlying28 hi0 1 hsz A n c (m : Int) (by omega) (by omega) W
 rw [Int.toNat_natCast] at h
 exact h
end Go.Proofs.YtegjegihcebimaaDoor.P
end
section
namespace Go.Proofs.YtegjegihcebimaaDoorW.PrintWords
open Go.RowKit
namespace Kd
section
variable {P : Program} {ops : Array Oper} {o : Oper} {a : Act} {Q : Exit → Act → World → Prop} {Kc : Act → World → Prop} {α : Type}
theorem one_reads {R : α → List Value → Prop} {W : World} {b : Nat} {cs : List Value} {e n : Nat} {p : α} (hb : W.heap[b]? = some (.cells cs.toArray e (0, 0))) (hc : cs.length = n) (hp : R p cs) : ReadsRow R n W (some ⟨b, 0, none⟩) 1 [p] := by
 refine ⟨rfl, by decide, fun _ => ⟨_, rfl, fun j p' hj => ?_⟩⟩
 cases j with
 | zero =>
  have : p = p' := by simpa using hj
  subst this
  refine ⟨cs, hc, hp, fun i u hu => ?_⟩
  rw [add_at, Nat.zero_mul, Nat.zero_add, Nat.zero_add, blk_cell hb i, List.getElem?_toArray]
  exact hu
 | succ j => simp at hj
theorem S_append_box (d : Kd α) {w0 W : World} (base : Nat) (hw : Region.wanted o (yielded ops a.tmps) = true) (s x : Operand) (t e : TypeId) (z : Value) (bytes : Nat)
  (ho : o.op = .call { callee := .builtin .append, args := #[s, x], argTypes := #[t, t] })
  (ht : P.underlying t = some (.slice e)) (hinfo : (P.info? e).map (fun i => (i.zero, i.size, i.bytes)) = some (some z, d.sz, bytes)) (hz : z.cells.size = d.sz) (hs0 : 0 < d.sz) (hb0 : 0 < bytes)
  (v : Value) (xs : List α) (p : α) (cs : List Value) (b : Nat) (ok okp : Nat → Prop) (hs : a.eval s = v) (hx : a.eval x = .slice (some ⟨b, 0, none⟩) 1 1) (hbx : W.heap[b]? = some (.cells cs.toArray e (0, 0))) (hcs : cs.length = d.sz) (hp : d.M W base okp p cs) (hokp : ∀ k, okp k → ok k ∧ some k ≠ v.ownBlock) (hfresh : ∀ k, W.heap.size ≤ k → ok k)
  (HO : S d e W base (fun k => ok k ∧ ¬ okp k) v xs) (HB : Below base w0 W) (hbase : base ≤ W.heap.size) (hl : (xs.length + 1) * bytes ≤ 140737488355328)
  (h : ∀ v1 w1, S d e w1 base ok v1 (xs ++ [p]) → Below base w0 w1 → W.grownBy w1 v.ownBlock → (v1.ownBlock = v.ownBlock ∨ ∃ b, v1.ownBlock = some b ∧ W.heap.size ≤ b) → Kc (a.put o.dst v1) w1) :
  if Region.wanted o (yielded ops a.tmps) = true then Oper.wp P o a W Kc Q else Kc (a.put o.dst undef) W := by
 obtain ⟨f, hf, hR⟩ := S_tag HO xs.length okp (fun _ hk h2 => h2.2 hk)
 refine R_append_rows_step (tag f d) (Rr := fun x c => x = (p, xs.length) ∧ c = cs) base hw s x t e z bytes ho ht hinfo hz hs0 hb0 v xs.zipIdx [(p, xs.length)] (some ⟨b, 0, none⟩) 1 1 ok okp hs hx (R_mono hR (fun _ hk => hk.1)) (one_reads hbx hcs ⟨rfl, rfl⟩) ?_ hokp hfresh HB hbase (by rw [List.length_zipIdx]; exact hl) ?_
 ·rintro x c ⟨rfl, rfl⟩
  exact d.M_mono (fun k hk => ⟨hk, hf k hk⟩) hp
 ·intro v1 w1 hr
  rw [← zip_snoc] at hr
  exact h v1 w1 ⟨f, hr⟩
end
end Kd
end Go.Proofs.YtegjegihcebimaaDoorW.PrintWords
namespace Go.Proofs.YtegjegihcebimaaDoor.P
open Go.RowKit Go.Proofs.YtegjegihcebimaaDoorW.PrintWords Go.Proofs.YtegjegihcebimaaDoorW.PrintLast Go.Proofs.YtegjegihcebimaaDoorW.PrintMore
set_option linter.unusedVariables false
set_option linter.unusedSimpArgs false
theorem alloc_heap_size (w : World) (o : Obj) : (w.alloc o).heap.size = w.heap.size + 1 := by simp
end Go.Proofs.YtegjegihcebimaaDoor.P
end
section
namespace Go.Proofs.YtegjegihcebimaaDoor.P
open Go.RowKit Go.Proofs.YtegjegihcebimaaDoorW.PrintWords Go.Proofs.YtegjegihcebimaaDoorW.PrintLast Go.Proofs.YtegjegihcebimaaDoorW.PrintMore
attribute [local go_sem] max2_int min2_int max_two min_two max_three min_three max_four min_four
set_option linter.unusedVariables false
set_option linter.unusedSimpArgs false
theorem eql_nil (a : Option Addr) (l c : Nat) (W : World) : (binOp .eql 27 (.slice a l c) (.slice none 0 0)).run Tryd.prog W = .ok (.bool a.isNone) W := by
 simp only [binOp]
 simp [run_equal_slice_nil W 27 _ a l c Tryd.underlying27]
theorem R_none {w : World} {b B : Nat} {ok : Nat → Prop} (h : w.heap[b]? = some (.cells #[] 25 (0, 0))) (hB : B ≤ b) (hok : ok b) : Kd.R k25 25 w B ok (.slice (some ⟨b, 0, none⟩) 0 0) [] := by
 refine ⟨fun k hk => ?_, [], ⟨rfl, .inr ⟨b, 0, #[], rfl, hB, h, Nat.le_refl _, by decide, rfl, rfl⟩⟩, rfl, fun j p hj => by simp at hj⟩
 have : b = k := by simpa [Value.ownBlock] using hk
 subst this; exact hok
set_option maxHeartbeats 8000000 in
set_option maxRecDepth 100000 in
theorem slices_Clone.calls (A : Option Addr) (c : Nat) (l : List S25) (w : World) (hr : Kd.C k25 w A l.length l) (hc : l.length ≤ c) (hl : l.length < 1000000) :
  Calls Tryd.prog 64 #[.slice A l.length c] w fun e w' => ∃ v : Value, e = .returned v ∧ Kd.R k25 25 w' w.heap.size (fun _ => True) v l ∧ Below w.heap.size w w' := by
 cases A with
 | none =>
  have h0 : l = [] := by
   cases l with
   | nil => rfl
   | cons x l =>
    obtain ⟨ad, e, _⟩ := hr.2.2 (by simp)
    cases e
  subst h0
  have hq := fun W => eql_nil none 0 c W
  have HB := Aside0.mk (Below.refl w.heap.size w)
  clear hr hc hl
  go_enter Tryd.func64, Tryd.ntmps64
  go_wp2
  go_ret
  exact ⟨_, rfl, Kd.R_nil _ _ _ _ _, HB.out⟩
 | some ad =>
  have hq := fun W => eql_nil (some ad) l.length c W
  have HR := Aside0.mk (Kd.C_alloc hr (.cells #[] 25)); have HL := Aside0.mk hl
  have HO := Aside0.mk (R_none (ok := fun _ => True) (heap_alloc_new w (.cells #[] 25)) (Nat.le_refl _) trivial)
  have HB := Aside0.mk (below_alloc (Below.refl w.heap.size w) (.cells #[] 25))
  clear hr hc hl
  go_enter Tryd.func64, Tryd.ntmps64
  go_wp2_with ((with_reducible refine gate_builtin (b := .append) (xs := #[.tmp 5, .tmp 6]) rfl ?_); at_builtin; refine Kd.R_append_rows k25 (Rr := fun x cs => cs = [.int .i64 x.f0, .int .i64 x.f1, .string x.f2]) (w0 := w) w.heap.size rfl (.tmp 5) (.tmp 6) 27 25 (.agg #[(.int .i64 0), (.int .i64 0), (.string ⟨#[]⟩)]) 32 rfl Tryd.underlying27 info25 rfl (by decide) (by omega) (.slice (some ⟨w.heap.size, 0, none⟩) 0 0) [] l (some ad) l.length c (fun k_ => True) (fun _ => False) rfl rfl HO.out ?aR (fun x cs h => by subst h; exact k25_mkM _ _ _ x) (fun _ h => h.elim) (fun _ _ => trivial) HB.out (by simp) ?aL ?_; (case aR => exact ReadsRow.imp_ HR.out (Below.refl _ _) (fun x cs h => k25_open h)); (case aL => have := HL.out; simp only [List.length_nil]; omega); intro v1 w1 ho hb hg hat; have HO1 := Aside0.mk ho; have HB1 := Aside0.mk hb; clear ho hb hg hat)
  go_ret
  exact ⟨_, rfl, HO1.out, HB1.out⟩
def Kf (w W : World) (P : Nat → Prop) : Prop := Below 0 w W ∧ Kept w W P
theorem Kf.refl (w : World) (P : Nat → Prop) : Kf w w P := ⟨Below.refl _ _, Kept.refl _ _⟩
theorem Kf.step {w W W1 : World} {P : Nat → Prop} (h : Kf w W P) (hb : Below W.heap.size W W1) : Kf w W1 P := ⟨below_then h.1 (Nat.zero_le _) hb, h.2.below hb⟩
theorem Kf.of {w W : World} (hb : Below w.heap.size w W) (P : Nat → Prop) : Kf w W P := (Kf.refl w P).step hb
theorem Kf.grown {w W W1 : World} {P : Nat → Prop} {row : Option Nat} (h : Kf w W P) (hg : W.grownBy W1 row) (hr : ∀ k, row = some k → P k ∨ w.heap.size ≤ k) : Kf w W1 P := ⟨h.1.grown hg (Nat.zero_le _) (fun _ _ => Nat.zero_le _), h.2.of_grown hg hr⟩
theorem Kf.set {w W : World} {P : Nat → Prop} (h : Kf w W P) {p : Addr} (hp : P p.block ∨ w.heap.size ≤ p.block) (u : Value) : Kf w (W.setCell p u) P := ⟨h.1.setCell (Nat.zero_le _) u, h.2.setCell hp u⟩
theorem Kf.size {w W : World} {P : Nat → Prop} (h : Kf w W P) : w.heap.size ≤ W.heap.size := h.2.1
theorem Kf.trans {w W W1 : World} {P Q : Nat → Prop} (h : Kf w W P) (k : Kf W W1 Q) (hq : ∀ k, Q k → P k ∨ w.heap.size ≤ k) : Kf w W1 P := ⟨h.1.trans k.1, h.2.then_ k.2 hq⟩
theorem Kf.below {w W : World} {P : Nat → Prop} {B : Nat} (h : Kf w W P) (hB : B ≤ w.heap.size) (hP : ∀ k, P k → B ≤ k) : Below B w W :=
 ⟨h.1.os, h.1.tape, h.1.output, h.2.1, fun i hi => h.2.2 i (by omega) (fun hp => by have := hP i hp; omega)⟩
def SI (w : World) (P : Nat → Prop) (g : Nat) (s : ByteArray) (r : List Int) (l : List (List S25)) (z : List Int) : Prop :=
 P g ∧ (∀ k, P k → k < w.heap.size) ∧ ∃ vr vl vz : Value, w.heap[g]? = some (.cells #[.string s, vr, vl, vz, .func (.func 89) #[] #[]] 120 (0, 0)) ∧ Kd.S (Kd.slice 25 k25) 27 w 0 (fun k => P k ∧ k ≠ g) vl l ∧ Kd.R (Kd.int .i64) 3 w 0 (fun k => (P k ∧ k ≠ g) ∧ some k ≠ vz.ownBlock) vr r ∧ Kd.R (Kd.int .i64) 3 w 0 (fun k => P k ∧ k ≠ g) vz z
theorem SI.kf {w W : World} {P Q : Nat → Prop} {g : Nat} {s : ByteArray} {r z : List Int} {l : List (List S25)} (h : SI w P g s r l z) (hk : Kf w W Q) (hd : ∀ k, P k → ¬ Q k) : SI W P g s r l z := by
 obtain ⟨h1, h2, vr, vl, vz, h3, h4, h5, h6⟩ := h
 exact ⟨h1, fun k hk' => Nat.lt_of_lt_of_le (h2 k hk') hk.size, vr, vl, vz, blk_kept h3 hk.2 (hd g h1), Kd.S_kept h4 hk.2 (fun k hk' => hd k hk'.1), Kd.R_kept h5 hk.2 (fun k hk' => hd k hk'.1.1), Kd.R_kept h6 hk.2 (fun k hk' => hd k hk'.1)⟩
theorem SI.below {w W : World} {P : Nat → Prop} {g : Nat} {s : ByteArray} {r z : List Int} {l : List (List S25)} (h : SI w P g s r l z) (hb : Below w.heap.size w W) : SI W P g s r l z := h.kf (Kf.of hb (fun _ => False)) (fun _ _ => id)
theorem SI.mono {w : World} {P Q : Nat → Prop} {g : Nat} {s : ByteArray} {r z : List Int} {l : List (List S25)} (h : SI w P g s r l z) (hp : ∀ k, P k → Q k) (hq : ∀ k, Q k → k < w.heap.size) : SI w Q g s r l z := by
 obtain ⟨h1, h2, vr, vl, vz, h3, h4, h5, h6⟩ := h
 exact ⟨hp g h1, hq, vr, vl, vz, h3, Kd.S_mono h4 (fun k hk => ⟨hp k hk.1, hk.2⟩), Kd.R_mono h5 (fun k hk => ⟨⟨hp k hk.1.1, hk.1.2⟩, hk.2⟩), Kd.R_mono h6 (fun k hk => ⟨hp k hk.1, hk.2⟩)⟩
theorem SI.reads {w : World} {P : Nat → Prop} {g : Nat} {s : ByteArray} {r z : List Int} {l : List (List S25)} (h : SI w P g s r l z) :
  ∃ Ar cr Al cl Az cz, w.heap[g]? = some (.cells #[.string s, .slice Ar r.length cr, .slice Al l.length cl, .slice Az z.length cz, .func (.func 89) #[] #[]] 120 (0, 0)) ∧ r.length ≤ cr ∧ l.length ≤ cl ∧ z.length ≤ cz ∧ Kd.C (Kd.int .i64) w Ar r.length r ∧ Kd.C (Kd.slice 25 k25) w Al l.length l ∧ Kd.C (Kd.int .i64) w Az z.length z := by
 obtain ⟨h1, h2, vr, vl, vz, h3, h4, h5, h6⟩ := h
 obtain ⟨Al, cl, rfl⟩ := Kd.S_slice h4
 obtain ⟨Ar, cr, rfl⟩ := Kd.R_slice h5
 obtain ⟨Az, cz, rfl⟩ := Kd.R_slice h6
 have r2 := Kd.S_reads' h4
 have r3 := Kd.R_reads' h5
 have r4 := Kd.R_reads' h6
 exact ⟨Ar, cr, Al, cl, Az, cz, h3, r3.2.1, r2.2.1, r4.2.1, r3.2.2, r2.2.2, r4.2.2⟩
structure SJ (w W : World) (P : Nat → Prop) (g : Nat) (s : ByteArray) (r : List Int) (l : List (List S25)) (z : List Int) (y : List S25) (rv q : Int) (vr vl vz vy v2 v4 : Value) (b1 b3 b5 : Nat) (d1 d2 d3 d4 d5 : Bool) : Prop where
 HK : Kf w W P
 PB : ∀ k, P k → k < w.heap.size
 Pg : P g
 HG : W.heap[g]? = some (.cells #[.string s, vr, vl, vz, .func (.func 89) #[] #[]] 120 (0, 0))
 HZ : Kd.R (Kd.int .i64) 3 W 0 (fun k => P k ∧ k ≠ g) vz z
 HR0 : d4 = false → Kd.R (Kd.int .i64) 3 W 0 (fun k => (P k ∧ k ≠ g) ∧ some k ≠ vz.ownBlock) vr r
 HR1 : d4 = true → Kd.R (Kd.int .i64) 3 W 0 (fun k => ((P k ∨ w.heap.size ≤ k) ∧ k ≠ g) ∧ some k ≠ vz.ownBlock) v4 (r ++ [rv])
 HL0 : d2 = false → Kd.S (Kd.slice 25 k25) 27 W 0 (fun k => P k ∧ k ≠ g) vl l
 HL1 : d2 = true → Kd.S (Kd.slice 25 k25) 27 W 0 (fun k => (P k ∨ w.heap.size ≤ k) ∧ k ≠ g) v2 (l ++ [y])
 HY : Kd.R k25 25 W 0 (fun k => w.heap.size ≤ k) vy y
 X1 : d1 = true → d2 = false → W.heap[b1]? = some (.cells #[vy] 27 (0, 0))
 X3 : d3 = true → d4 = false → W.heap[b3]? = some (.cells #[.int .i64 rv] 3 (0, 0))
 X5 : d5 = true → W.heap[b5]? = some (.cells #[.int .i64 q] 3 (0, 0)) ∧ w.heap.size ≤ b5
 Y3 : d3 = true → d4 = false → w.heap.size ≤ b3
section
variable {w W W1 : World} {P : Nat → Prop} {g b1 b3 b5 : Nat} {s : ByteArray} {r z : List Int} {l : List (List S25)} {y : List S25} {rv q : Int} {vr vl vz vy v2 v4 : Value} {d1 d2 d3 d4 d5 : Bool}
theorem SJ.start (h : SI w P g s r l z) (hb : Below w.heap.size w W) (hy : Kd.R k25 25 W w.heap.size (fun _ => True) vy y) : ∃ vr vl vz, SJ w W P g s r l z y rv q vr vl vz vy (.int .i64 0) (.int .i64 0) 0 0 0 false false false false false := by
 obtain ⟨h1, h2, vr, vl, vz, h3, h4, h5, h6⟩ := h
 exact ⟨vr, vl, vz, Kf.of hb _, h2, h1, blk_below h3 hb, Kd.R_below h6 hb, fun _ => Kd.R_below h5 hb, fun e => (by cases e), fun _ => Kd.S_below h4 hb, fun e => (by cases e), Kd.R_lower (Kd.R_mono (Kd.R_bound hy) (fun k hk => hk.2.1)) (Nat.zero_le _), fun e => (by cases e), fun e => (by cases e), fun e => (by cases e), fun e => (by cases e)⟩
theorem SJ.below (J : SJ w W P g s r l z y rv q vr vl vz vy v2 v4 b1 b3 b5 d1 d2 d3 d4 d5) (hb : Below W.heap.size W W1) : SJ w W1 P g s r l z y rv q vr vl vz vy v2 v4 b1 b3 b5 d1 d2 d3 d4 d5 :=
 ⟨J.HK.step hb, J.PB, J.Pg, blk_below J.HG hb, Kd.R_below J.HZ hb, fun e => Kd.R_below (J.HR0 e) hb, fun e => Kd.R_below (J.HR1 e) hb, fun e => Kd.S_below (J.HL0 e) hb, fun e => Kd.S_below (J.HL1 e) hb, Kd.R_below J.HY hb, fun e f => blk_below (J.X1 e f) hb, fun e f => blk_below (J.X3 e f) hb, fun e => ⟨blk_below (J.X5 e).1 hb, (J.X5 e).2⟩, J.Y3⟩
theorem SJ.e1 (J : SJ w W P g s r l z y rv q vr vl vz vy v2 v4 b1 b3 b5 false false d3 d4 d5) : SJ w (W.alloc (.cells #[vy] 27)) P g s r l z y rv q vr vl vz vy v2 v4 W.heap.size b3 b5 true false d3 d4 d5 := by
 have J1 := J.below (below_alloc (Below.refl W.heap.size W) (.cells #[vy] 27))
 exact ⟨J1.HK, J1.PB, J1.Pg, J1.HG, J1.HZ, J1.HR0, J1.HR1, J1.HL0, J1.HL1, J1.HY, fun _ _ => heap_alloc_new W _, J1.X3, J1.X5, J1.Y3⟩
theorem SJ.e3 (J : SJ w W P g s r l z y rv q vr vl vz vy v2 v4 b1 b3 b5 d1 d2 false false d5) : SJ w (W.alloc (.cells #[.int .i64 rv] 3)) P g s r l z y rv q vr vl vz vy v2 v4 b1 W.heap.size b5 d1 d2 true false d5 := by
 have J1 := J.below (below_alloc (Below.refl W.heap.size W) (.cells #[.int .i64 rv] 3))
 exact ⟨J1.HK, J1.PB, J1.Pg, J1.HG, J1.HZ, J1.HR0, J1.HR1, J1.HL0, J1.HL1, J1.HY, J1.X1, fun _ _ => heap_alloc_new W _, J1.X5, fun _ _ => J.HK.size⟩
theorem SJ.e5 (J : SJ w W P g s r l z y rv q vr vl vz vy v2 v4 b1 b3 b5 d1 d2 d3 d4 false) : SJ w (W.alloc (.cells #[.int .i64 q] 3)) P g s r l z y rv q vr vl vz vy v2 v4 b1 b3 W.heap.size d1 d2 d3 d4 true := by
 have J1 := J.below (below_alloc (Below.refl W.heap.size W) (.cells #[.int .i64 q] 3))
 exact ⟨J1.HK, J1.PB, J1.Pg, J1.HG, J1.HZ, J1.HR0, J1.HR1, J1.HL0, J1.HL1, J1.HY, J1.X1, J1.X3, fun _ => ⟨heap_alloc_new W _, J.HK.size⟩, J1.Y3⟩
variable {ops : Array Oper} {o : Oper} {a : Act} {Q : Exit → Act → World → Prop} {K : Act → World → Prop}
theorem SJ.e2 (J : SJ w W P g s r l z y rv q vr vl vz vy v2 v4 b1 b3 b5 true false d3 false d5) (hl : l.length < 1000000) (hw : Region.wanted o (yielded ops a.tmps) = true) (s' x : Operand)
  (ho : o.op = .call { callee := .builtin .append, args := #[s', x], argTypes := #[28, 28] }) (hs : a.eval s' = vl) (hx : a.eval x = .slice (some ⟨b1, 0, none⟩) 1 1)
  (h : ∀ A c W1, SJ w W1 P g s r l z y rv q vr vl vz vy (.slice A (l.length + 1) c) v4 b1 b3 b5 true true d3 false d5 → K (a.put o.dst (.slice A (l.length + 1) c)) W1) :
  if Region.wanted o (yielded ops a.tmps) = true then Oper.wp Tryd.prog o a W K Q else K (a.put o.dst undef) W := by
 have L := J.HL0 rfl
 have hvl : ∀ k, vl.ownBlock = some k → P k := fun k hk => ((Kd.S_R L).1 k hk).1
 have hlt : ∀ k, vl.ownBlock = some k → k < w.heap.size := fun k hk => J.PB k (hvl k hk)
 have hgs := J.PB g J.Pg
 refine Kd.S_append_box (Kd.slice 25 k25) (w0 := W) 0 hw s' x 28 27 (.slice none 0 0) 24 ho Tryd.underlying28 info27 rfl (show (0 : Nat) < 1 by decide) (by decide) vl l y [vy] b1 (fun k => (P k ∨ w.heap.size ≤ k) ∧ k ≠ g) (fun k => w.heap.size ≤ k) hs hx (J.X1 rfl rfl) rfl (Kd.M_row J.HY) ?_ ?_ ?_ (Below.refl _ _) (Nat.zero_le _) (by omega) ?_
 ·intro k hk
  exact ⟨⟨.inr hk, by omega⟩, fun e => by have := hlt k e.symm; omega⟩
 ·intro k hk
  have := J.HK.size
  exact ⟨.inr (by omega), by omega⟩
 ·exact Kd.S_mono L (fun k hk => ⟨⟨.inl hk.1, hk.2⟩, fun e => by have := J.PB k hk.1; omega⟩)
 ·intro v1 w1 hS hB hg hat
  obtain ⟨A, c, rfl⟩ := Kd.S_slice hS
  rw [List.length_append, List.length_singleton] at hS hat ⊢
  refine h A c w1 ⟨J.HK.grown hg (fun k e => .inl (hvl k e)), J.PB, J.Pg, blk_grown J.HG hg (Kd.S_ne L J.HG (by decide)), Kd.R_over' J.HZ (Kd.S_typed L) (by decide) hg, fun e => Kd.R_over' (J.HR0 e) (Kd.S_typed L) (by decide) hg, fun e => (by cases e), fun e => (by cases e), fun _ => hS, Kd.R_grown J.HY hg (fun k hk e => by have := hlt k e.symm; omega), fun _ e => (by cases e), fun e f => blk_grown (J.X3 e f) hg (fun e2 => by have := hlt _ e2.symm; have := J.Y3 e f; omega), fun e => ⟨blk_grown (J.X5 e).1 hg (fun e2 => by have := hlt _ e2.symm; have := (J.X5 e).2; omega), (J.X5 e).2⟩, J.Y3⟩
theorem SJ.e4 (J : SJ w W P g s r l z y rv q vr vl vz vy v2 v4 b1 b3 b5 true true true false d5) (hl : r.length < 1000000) (hw : Region.wanted o (yielded ops a.tmps) = true) (s' x : Operand)
  (ho : o.op = .call { callee := .builtin .append, args := #[s', x], argTypes := #[38, 38] }) (hs : a.eval s' = vr) (hx : a.eval x = .slice (some ⟨b3, 0, none⟩) 1 1)
  (h : ∀ A c W1, SJ w W1 P g s r l z y rv q vr vl vz vy v2 (.slice A (r.length + 1) c) b1 b3 b5 true true true true d5 → K (a.put o.dst (.slice A (r.length + 1) c)) W1) :
  if Region.wanted o (yielded ops a.tmps) = true then Oper.wp Tryd.prog o a W K Q else K (a.put o.dst undef) W := by
 have L := J.HR0 rfl
 have hvr : ∀ k, vr.ownBlock = some k → (P k ∧ k ≠ g) ∧ some k ≠ vz.ownBlock := fun k hk => L.1 k hk
 have hlt : ∀ k, vr.ownBlock = some k → k < w.heap.size := fun k hk => J.PB k (hvr k hk).1.1
 have hvz : ∀ k, vz.ownBlock = some k → k < w.heap.size := fun k hk => J.PB k (J.HZ.1 k hk).1
 have hgs := J.PB g J.Pg
 refine Kd.R_append_rows_step (Kd.int .i64) (Rr := fun x c => c = [Value.int .i64 x]) (w0 := W) 0 hw s' x 38 3 (.int .i64 0) 8 ho Tryd.underlying38 info3 rfl (show (0 : Nat) < 1 by decide) (by decide) vr r [rv] (some ⟨b3, 0, none⟩) 1 1 (fun k => ((P k ∨ w.heap.size ≤ k) ∧ k ≠ g) ∧ some k ≠ vz.ownBlock) (fun _ => False) hs hx (Kd.R_mono L (fun k hk => ⟨⟨.inl hk.1.1, hk.1.2⟩, hk.2⟩)) (Kd.one_reads (cs := [Value.int .i64 rv]) (J.X3 rfl rfl) rfl rfl) (fun x c h => h) (fun _ h => h.elim) (fun k hk => ?_) (Below.refl _ _) (Nat.zero_le _) (by omega) ?_
 ·have := J.HK.size
  exact ⟨⟨.inr (by omega), by omega⟩, fun e => by have := hvz k e.symm; omega⟩
 ·intro v1 w1 hR hB hg hat
  obtain ⟨A, c, rfl⟩ := Kd.R_slice hR
  rw [List.length_append, List.length_singleton] at hR hat ⊢
  refine h A c w1 ⟨J.HK.grown hg (fun k e => .inl (hvr k e).1.1), J.PB, J.Pg, blk_grown J.HG hg (Kd.R_ne L J.HG (by decide)), Kd.R_grown2 J.HZ rfl hg (fun k e => (hvr k e).2), fun e => (by cases e), fun _ => hR, fun e => (by cases e), fun e => Kd.S_over' (J.HL1 e) (Kd.R_typed L) (by decide) hg, Kd.R_over' J.HY (Kd.R_typed L) (by decide) hg, fun _ e => (by cases e), fun _ e => (by cases e), fun e => ⟨blk_grown (J.X5 e).1 hg (fun e2 => by have := hlt _ e2.symm; have := (J.X5 e).2; omega), (J.X5 e).2⟩, fun _ e => (by cases e)⟩
theorem SJ.e6 (J : SJ w W P g s r l z y rv q vr vl vz vy v2 v4 b1 b3 b5 true true true true true) (hl : z.length < 1000000) (hw : Region.wanted o (yielded ops a.tmps) = true) (s' x : Operand)
  (ho : o.op = .call { callee := .builtin .append, args := #[s', x], argTypes := #[38, 38] }) (hs : a.eval s' = vz) (hx : a.eval x = .slice (some ⟨b5, 0, none⟩) 1 1)
  (h : ∀ A c W1, Kf w W1 P → W1.heap[g]? = some (.cells #[.string s, vr, vl, vz, .func (.func 89) #[] #[]] 120 (0, 0)) → Kd.S (Kd.slice 25 k25) 27 W1 0 (fun k => (P k ∨ w.heap.size ≤ k) ∧ k ≠ g) v2 (l ++ [y]) → Kd.R (Kd.int .i64) 3 W1 0 (fun k => ((P k ∨ w.heap.size ≤ k) ∧ k ≠ g) ∧ some k ≠ (Value.slice A (z.length + 1) c).ownBlock) v4 (r ++ [rv]) → Kd.R (Kd.int .i64) 3 W1 0 (fun k => (P k ∨ w.heap.size ≤ k) ∧ k ≠ g) (.slice A (z.length + 1) c) (z ++ [q]) → Kd.R k25 25 W1 0 (fun k => w.heap.size ≤ k) vy y → K (a.put o.dst (.slice A (z.length + 1) c)) W1) :
  if Region.wanted o (yielded ops a.tmps) = true then Oper.wp Tryd.prog o a W K Q else K (a.put o.dst undef) W := by
 have L := J.HZ
 have hvz : ∀ k, vz.ownBlock = some k → P k := fun k hk => (L.1 k hk).1
 have hgs := J.PB g J.Pg
 refine Kd.R_append_rows_step (Kd.int .i64) (Rr := fun x c => c = [Value.int .i64 x]) (w0 := W) 0 hw s' x 38 3 (.int .i64 0) 8 ho Tryd.underlying38 info3 rfl (show (0 : Nat) < 1 by decide) (by decide) vz z [q] (some ⟨b5, 0, none⟩) 1 1 (fun k => (P k ∨ w.heap.size ≤ k) ∧ k ≠ g) (fun _ => False) hs hx (Kd.R_mono L (fun k hk => ⟨.inl hk.1, hk.2⟩)) (Kd.one_reads (cs := [Value.int .i64 q]) (J.X5 rfl).1 rfl rfl) (fun x c h => h) (fun _ h => h.elim) (fun k hk => ?_) (Below.refl _ _) (Nat.zero_le _) (by omega) ?_
 ·have := J.HK.size
  exact ⟨.inr (by omega), by omega⟩
 ·intro v1 w1 hR hB hg hat
  obtain ⟨A, c, rfl⟩ := Kd.R_slice hR
  rw [List.length_append, List.length_singleton] at hR hat ⊢
  exact h A c w1 (J.HK.grown hg (fun k e => .inl (hvz k e))) (blk_grown J.HG hg (Kd.R_ne L J.HG (by decide))) (Kd.S_over' (J.HL1 rfl) (Kd.R_typed L) (by decide) hg) (Kd.R_after (J.HR1 rfl) hg hat) hR (Kd.R_over' J.HY (Kd.R_typed L) (by decide) hg)
end
end Go.Proofs.YtegjegihcebimaaDoor.P
end
