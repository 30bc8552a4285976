/- Part 9 of the proof of topTwo_holds: out of the texts that this session's programs wrote, what the theorem reaches. -/
import Derived.BigQuiet
import Derived.BigRegion
import Derived.Deep.QuietTactic
import Derived.Deep.RegionHeld3
import Derived.Deep.RegionLaw
import Derived.Defers
import Derived.Laws.CopyOwn
import Derived.Laws.Cover3
import Derived.Laws.Cover4
import Derived.Lib.OthersKept
import Derived.Lib.Walk
import Derived.Outline
import Derived.ScopeJumps
import Derived.Shelf.Abstract
import Derived.StillTailTactics
import Derived.Test.YtegjegihcebimaaDoorZ2
import Derived.Test.YtegjegihcebimaaDoorZ3
import Derived.Test.YtegjegihcebimaaDoorZ4
import Derived.Test.YtegjegihcebimaaDoorZ5
import Derived.Test.YtegjegihcebimaaDoorZ6
import Derived.Test.YtegjegihcebimaaDoorZ7
import Derived.Test.YtegjegihcebimaaDoorZ8
import Derived.WalkMore
section
namespace Go.Proofs.YtegjegihcebimaaDoor.P
open Go.RowKit Go.Proofs.YtegjegihcebimaaDoorW.PrintWords Go.Proofs.YtegjegihcebimaaDoorW.PrintLast Go.Proofs.YtegjegihcebimaaDoorW.PrintMore
attribute [local go_sem] max2_int min2_int max_two min_two max_three min_three max_four min_four
set_option linter.unusedVariables false
set_option linter.unusedSimpArgs false
def Fine (base : World) (v r : Value) : Prop := ∃ (fid : Nat) (caps : Array Value), v = .func (Fn.func fid) #[] caps ∧ (∀ (args : Array Value) (w : World), (callFunc fid args).run Tryd.prog w = .ok (.enter fid args) w) ∧ ∀ W, Below base.heap.size base W → Calls Tryd.prog fid caps W fun e w' => e = .returned r ∧ Below W.heap.size W w'
theorem Fine.below {base W : World} {v r : Value} (h : Fine base v r) (hb : Below base.heap.size base W) : Fine W v r := by
 obtain ⟨fid, caps, e, he, h⟩ := h
 exact ⟨fid, caps, e, he, fun W' hb' => h W' (below_then hb hb.size hb')⟩
set_option maxHeartbeats 8000000 in
set_option maxRecDepth 100000 in
theorem chain_is.inner (fid : Nat) (caps : Array Value) (x : Int) (g1 g2 : Nat) (w : World) (h1 : w.heap[g1]? = some (.cells #[.func (Fn.func fid) #[] caps] 22 (0, 0))) (h2 : w.heap[g2]? = some (.cells #[.int .i64 x] 29 (0, 0)))
  (hen : ∀ (args : Array Value) (w : World), (callFunc fid args).run Tryd.prog w = .ok (.enter fid args) w) (hso : ∀ W, Below w.heap.size w W → Calls Tryd.prog fid caps W fun e w' => e = .returned (.bool false) ∧ Below W.heap.size W w') :
  Calls Tryd.prog 109 #[.pointer (some ⟨g1, 0, none⟩), .pointer (some ⟨g2, 0, none⟩)] w fun e w' => e = .returned (.int .i64 0) ∧ Below w.heap.size w w' := by
 have hc1 : w.cell? ⟨g1, 0, none⟩ = some (.func (Fn.func fid) #[] caps) := (blk_cell h1 0).trans rfl
 have HS := am hso
 clear hso
 go_enter Tryd.func109, Tryd.ntmps109
 go_wp2_with (go_at_fn fid; (with_reducible refine (HS.out _ (Below.refl _ _)).mono ?_); rintro e w1 ⟨rfl, hb⟩; have HB1 := am hb; clear hb)
 go_ret
 exact ⟨rfl, HB1.out⟩
set_option maxHeartbeats 8000000 in
set_option maxRecDepth 100000 in
theorem chain_is.calls (v : Value) (x : Int) (w : World) (hso : Fine w v (.bool false)) :
  Calls Tryd.prog 99 #[v, .int .i64 x] w fun e w' => ∃ v', e = .returned v' ∧ Fine w' v' (.int .i64 0) ∧ Below w.heap.size w w' := by
 have hmf : ∀ (fn : Fn) (first cap : Array Value) (w : World), (Instr.makeFunc fn first cap).run Tryd.prog w = .ok (.func fn first cap) w := fun _ _ _ _ => rfl
 obtain ⟨fid, caps, rfl, hen, hso⟩ := hso
 have HS := am hso
 clear hso
 go_enter Tryd.func99, Tryd.ntmps99
 go_wp2
 go_ret
 have b2 : Below w.heap.size w ((w.alloc (.cells #[.func (Fn.func fid) #[] caps] 22)).alloc (.cells #[.int .i64 x] 29)) := (below_alloc (Below.refl _ _) _).alloc (by simp) _
 refine ⟨_, rfl, ⟨_, _, rfl, Go.Proofs.enters_of Tryd.func109 (by kernel_rfl) rfl, fun W hb => ?_⟩, b2⟩
 refine chain_is.inner fid caps x w.heap.size (w.heap.size + 1) W (blk_below (blk_alloc (heap_alloc_new w _) _) hb) (blk_below (by have := heap_alloc_new (w.alloc (.cells #[.func (Fn.func fid) #[] caps] 22)) (.cells #[.int .i64 x] 29); simpa using this) hb) hen (fun W' hb' => HS.out W' ?_)
 exact below_then (below_then b2 b2.size hb) (below_then b2 b2.size hb).size hb'
set_option maxHeartbeats 8000000 in
set_option maxRecDepth 100000 in
theorem chain_first.calls (g c : Nat) (vs : List Value) (w : World) (hl : vs.length < 1000) (hg : w.heap[g]? = some (.cells vs.toArray 163 (0, 0))) (hv : ∀ v ∈ vs, Fine w v (.int .i64 0)) :
  Calls Tryd.prog 98 #[.slice (some ⟨g, 0, none⟩) vs.length c] w fun e w' => e = .returned (.int .i64 0) ∧ Below w.heap.size w w' := by
 have HG := am hg; have HV := am hv; have HZ := am hl
 clear hg hv hl
 go_enter Tryd.func98, Tryd.ntmps98
 go_wp2
 go_loopw [4, 5, 8] (fun _ _ v8 wr => ∃ j : Nat, v8 = .int .i64 j ∧ j ≤ vs.length ∧ Aside0 (Below w.heap.size w wr)) (fun _ _ v8 _ => vs.length - (intOf v8).toNat)
 case atStart => exact ⟨0, rfl, Nat.zero_le _, ⟨Below.refl _ _⟩⟩
 case round =>
  obtain ⟨j, rfl, hj, HB⟩ := hrel
  by_cases hlt : j < vs.length
  ·have hltb : decide ((j : Int) < (vs.length : Int)) = true := decide_eq_true (by omega)
   have HL := am hlt
   have p2 : ((j : Int) < (vs.length : Int)) = True := eq_true (by omega)
   have p3 : (j < vs.length) = True := eq_true hlt
   have ew : wrap64 ((j : Int) + 1) = ((j + 1 : Nat) : Int) := by have := HZ.out; unfold wrap64; omega
   have hf := Fine.below (HV.out vs[j] (List.getElem_mem _)) HB.out
   obtain ⟨fid, caps, ev, hen, hf⟩ := hf
   have HF := am hf
   have hx0 : wr.cell? ⟨g, j, none⟩ = some (.func (Fn.func fid) #[] caps) := by
    rw [blk_cell (blk_below HG.out HB.out) j, ← ev]
    simp [hlt]
   clear hlt hf ev
   go_wp2_with (go_at_fn fid; (with_reducible refine (HF.out _ (Below.refl _ _)).mono ?_); rintro e w1 ⟨rfl, hb⟩; have HB1 := am (below_then HB.out HB.out.size hb); clear hb)
   go_round
   case measure => exact op_sum.less HL.out ew
   case rel => exact ⟨j + 1, by rw [ew], HL.out, HB1⟩
  ·have hltb : decide ((j : Int) < (vs.length : Int)) = false := decide_eq_false (by omega)
   go_wp2
   go_ret
   exact ⟨rfl, HB.out⟩
theorem chain_sizes.c1 (g : Nat) (n : Int) (w : World) (h : w.heap[g]? = some (.cells #[.int .i64 n] 3 (0, 0))) (h0 : 0 ≤ n) : Calls Tryd.prog 100 #[.pointer (some ⟨g, 0, none⟩)] w fun e w' => e = .returned (.bool false) ∧ Below w.heap.size w w' := by
 have hc : w.cell? ⟨g, 0, none⟩ = some (.int .i64 n) := (blk_cell h 0).trans rfl
 have hd : decide (n < 0) = false := decide_eq_false (by omega)
 have HB := am (Below.refl w.heap.size w)
 clear h0
 go_enter Tryd.func100, Tryd.ntmps100
 go_wp2
 go_ret
 exact ⟨by first | rfl | (simp; done), by repeat (first | exact HB.out | apply pw_below_drewN | apply below_drew1)⟩
theorem chain_sizes.c2 (g : Nat) (n : Int) (w : World) (h : w.heap[g]? = some (.cells #[.int .i64 n] 3 (0, 0))) (h0 : n ≤ 1048576) : Calls Tryd.prog 101 #[.pointer (some ⟨g, 0, none⟩)] w fun e w' => e = .returned (.bool false) ∧ Below w.heap.size w w' := by
 have hc : w.cell? ⟨g, 0, none⟩ = some (.int .i64 n) := (blk_cell h 0).trans rfl
 have hd : decide (1048576 < n) = false := decide_eq_false (by omega)
 have HB := am (Below.refl w.heap.size w)
 clear h0
 go_enter Tryd.func101, Tryd.ntmps101
 go_wp2
 go_ret
 exact ⟨by first | rfl | (simp; done), by repeat (first | exact HB.out | apply pw_below_drewN | apply below_drew1)⟩
theorem chain_sizes.c3 (g g1 : Nat) (s : ByteArray) (A1 A2 : Option Addr) (n m c1 c2 : Nat) (w : World) (h : w.heap[g]? = some (.cells #[.int .i64 0] 29 (0, 0))) (h1 : w.heap[g1]? = some (.cells #[.string s, .slice A1 n c1, .slice A2 m c2] 42 (0, 0))) (hn : n = m + 1) (hm : m < 1000000) :
  Calls Tryd.prog 102 #[.pointer (some ⟨g, 0, none⟩), .pointer (some ⟨g1, 0, none⟩)] w fun e w' => e = .returned (.bool false) ∧ Below w.heap.size w w' := by
 have hc : w.cell? ⟨g, 0, none⟩ = some (.int .i64 0) := (blk_cell h 0).trans rfl
 have hc1 : w.cell? ⟨g1, 1, none⟩ = some (.slice A1 n c1) := (blk_cell h1 1).trans rfl
 have hc2 : w.cell? ⟨g1, 2, none⟩ = some (.slice A2 m c2) := (blk_cell h1 2).trans rfl
 have hw : wrap64 ((m : Int) + 1) = (m : Int) + 1 := by unfold wrap64; omega
 have hd : ((n : Int) != (m : Int) + 1) = false := by rw [hn]; simp
 have HB := am (Below.refl w.heap.size w)
 clear hm hn
 go_enter Tryd.func102, Tryd.ntmps102
 go_wp2
 go_ret
 exact ⟨by first | rfl | (simp; done), by repeat (first | exact HB.out | apply pw_below_drewN | apply below_drew1)⟩
theorem chain_sizes.c4 (k : Nat) (g : Nat) (A : Option Addr) (c : Nat) (l : List S25) (w : World) (h : w.heap[g]? = some (.cells #[.slice A l.length c] 27 (0, 0))) (hr : Kd.C k25 w A l.length l) (hc : l.length ≤ c) (hT : Tabs w) (hm : op_May.f k l = some 0) :
  Calls Tryd.prog 103 #[.pointer (some ⟨g, 0, none⟩)] w fun e w' => e = .returned (.int .i64 0) ∧ Below w.heap.size w w' := by
 have hc : w.cell? ⟨g, 0, none⟩ = some (.slice A l.length c) := (blk_cell h 0).trans rfl
 have HR := am hr; have HC := am hc; have HT := am hT; have HM := am hm; have HL := am ‹l.length ≤ c›
 clear hr hT hm
 go_enter Tryd.func103, Tryd.ntmps103
 go_wp2_with (go_at_call 46; (with_reducible refine (op_May.calls k A c l 0 _ HR.out HL.out HT.out HM.out).mono ?_); rintro e w1 ⟨rfl, hb⟩; have HB1 := am hb; clear hb)
 go_ret
 exact ⟨rfl, HB1.out⟩
theorem chain_sizes.c6 (g : Nat) (A : Option Addr) (c : Nat) (l : List S25) (n : Int) (w : World) (h : w.heap[g]? = some (.cells #[.slice A l.length c] 27 (0, 0))) (hr : Kd.C k25 w A l.length l) (hc : l.length ≤ c) (hT : Tabs w) (hm : op_Out.f l = some n) (hn : n ≤ 1048576) :
  Calls Tryd.prog 105 #[.pointer (some ⟨g, 0, none⟩)] w fun e w' => e = .returned (.bool false) ∧ Below w.heap.size w w' := by
 have hc : w.cell? ⟨g, 0, none⟩ = some (.slice A l.length c) := (blk_cell h 0).trans rfl
 have hd : decide (1048576 < n) = false := decide_eq_false (by omega)
 have HR := am hr; have HC := am hc; have HT := am hT; have HM := am hm; have HL := am ‹l.length ≤ c›
 clear hr hT hm hn
 go_enter Tryd.func105, Tryd.ntmps105
 go_wp2_with (go_at_call 62; (with_reducible refine (op_Out.calls A c l n _ HR.out HL.out HT.out HM.out).mono ?_); rintro e w1 ⟨rfl, hb⟩; have HB1 := am hb; clear hb)
 go_ret
 exact ⟨by first | rfl | (simp; done), HB1.out⟩
theorem chain_sizes.c7 (k : Nat) (g : Nat) (A : Option Addr) (c : Nat) (l : List S25) (w : World) (h : w.heap[g]? = some (.cells #[.slice A l.length c] 27 (0, 0))) (hr : Kd.C k25 w A l.length l) (hc : l.length ≤ c) (hm : normal_Is.f k l = some true) :
  Calls Tryd.prog 106 #[.pointer (some ⟨g, 0, none⟩)] w fun e w' => e = .returned (.bool false) ∧ Below w.heap.size w w' := by
 have hc : w.cell? ⟨g, 0, none⟩ = some (.slice A l.length c) := (blk_cell h 0).trans rfl
 have HR := am hr; have HC := am hc; have HM := am hm; have HL := am ‹l.length ≤ c›
 clear hr hm
 go_enter Tryd.func106, Tryd.ntmps106
 go_wp2_with (go_at_call 107; (with_reducible refine (normal_Is.calls k A c l true _ HR.out HL.out HM.out).mono ?_); rintro e w1 ⟨rfl, hb⟩; have HB1 := am hb; clear hb)
 go_ret
 exact ⟨by first | rfl | (simp; done), HB1.out⟩
set_option maxHeartbeats 8000000 in
set_option maxRecDepth 100000 in
theorem chain_sizes.c5 (g g4 : Nat) (A : Option Addr) (c : Nat) (l : List S25) (n : Int) (w : World) (h : w.heap[g]? = some (.cells #[.slice A l.length c] 27 (0, 0))) (h4 : w.heap[g4]? = some (.cells #[.int .i64 n] 3 (0, 0))) (hr : Kd.C k25 w A l.length l) (hc : l.length ≤ c) (hT : Tabs w) (hm : op_In.f l = some n) :
  Calls Tryd.prog 104 #[.pointer (some ⟨g, 0, none⟩), .pointer (some ⟨g4, 0, none⟩)] w fun e w' => e = .returned (.bool false) ∧ Below w.heap.size w w' := by
 have HBD := am (below_drew1 (Below.refl w.heap.size w))
 have hc0 : w.drew.cell? ⟨g, 0, none⟩ = some (.slice A l.length c) := (blk_cell h 0).trans rfl
 have hc4 : w.drew.cell? ⟨g4, 0, none⟩ = some (.int .i64 n) := (blk_cell h4 0).trans rfl
 have hd : (n != n) = false := by simp
 have HRD := am (Kd.C_below hr HBD.out); have HTD := am (Tabs.below hT HBD.out); have HM := am hm; have HL := am hc; have H4 := am (blk_below h4 HBD.out)
 clear hr hT hm h h4
 go_enter Tryd.func104, Tryd.ntmps104
 go_wp2
 go_region_law (go_simp; go_at_call 20; (with_reducible refine (op_In.calls A c l n _ HRD.out HL.out HTD.out HM.out).mono ?_); rintro e w1 ⟨rfl, hb⟩; have HB1 := am (below_then HBD.out HBD.out.size hb); have cp1 : w1.cell? ⟨g4, 0, none⟩ = some (.int .i64 n) := (blk_cell (blk_below H4.out hb) 0).trans rfl; clear hb)
 all_goals go_wp2
 all_goals go_ret
 all_goals exact ⟨by first | rfl | (simp; done), HB1.out⟩
def chain_sizes.l (k : Nat) : Int → List (List S25) → List Int → Option (List Int)
 | _, [], out => some out
 | n, x :: l, out => (op_May.f k x).bind fun e => if e = 0 then (op_In.f x).bind fun m => (if m = n then (op_Out.f x).bind fun q => (if q ≤ 1048576 then (normal_Is.f k x).bind fun b => (if b = true then chain_sizes.l k q l (out ++ [q]) else none) else none) else none) else none
def chain_sizes.f (k : Nat) (s : ByteArray) (revs : List Int) (segs : List (List S25)) : Option (List Int × Int) :=
 if segs.length < 1000000 then (points_Count.f s).bind fun n => (if 0 ≤ n ∧ n ≤ 1048576 then (snap_PutRow.f revs).bind fun p => (if p.2 = 0 ∧ revs.length = segs.length + 1 then (chain_sizes.l k n segs [n]).bind fun o => some (o, 0) else none) else none) else none
theorem chain_sizes.fine {w : World} {fid : Nat} {caps : Array Value} {r : Value} (hen : ∀ (args : Array Value) (w : World), (callFunc fid args).run Tryd.prog w = .ok (.enter fid args) w) (h : ∀ W, Below w.heap.size w W → Calls Tryd.prog fid caps W fun e w' => e = .returned r ∧ Below W.heap.size W w') : Fine w (.func (Fn.func fid) #[] caps) r := ⟨fid, caps, rfl, hen, h⟩
set_option maxHeartbeats 8000000 in
set_option maxRecDepth 100000 in
theorem chain_sizes.calls (k : Nat) (a0_0 : ByteArray) (A0_1 : Option Addr) (c0_1 : Nat) (l0_1 : List Int) (A0_2 : Option Addr) (c0_2 : Nat) (l0_2 : List (List (S25))) (r1 : List Int) (r2 : Int) (w : World) (hr0_1 : Kd.C (Kd.int .i64) w A0_1 l0_1.length l0_1) (hc0_1 : l0_1.length ≤ c0_1) (hr0_2 : Kd.C (Kd.slice 25 k25) w A0_2 l0_2.length l0_2) (hc0_2 : l0_2.length ≤ c0_2) (hT : Tabs w) (h : chain_sizes.f k a0_0 l0_1 l0_2 = some (r1, r2)) :
  Calls Tryd.prog 88 #[.agg #[.string a0_0, .slice A0_1 l0_1.length c0_1, .slice A0_2 l0_2.length c0_2]] w fun e w' => ∃ v0_ : Value, e = .returned (.tuple #[v0_, .int .i64 r2]) ∧ Kd.R (Kd.int .i64) 3 w' w.heap.size (fun _ => True) v0_ r1 ∧ Below w.heap.size w w' := by
 have hmf : ∀ (fn : Fn) (first cap : Array Value) (w : World), (Instr.makeFunc fn first cap).run Tryd.prog w = .ok (.func fn first cap) w := fun _ _ _ _ => rfl
 unfold chain_sizes.f at h
 by_cases hs : l0_2.length < 1000000
 ·rw [if_pos hs] at h
  obtain ⟨n, hn, h⟩ := Option.bind_eq_some_iff.mp h
  by_cases hb : 0 ≤ n ∧ n ≤ 1048576
  ·rw [if_pos hb] at h
   obtain ⟨p, hp, h⟩ := Option.bind_eq_some_iff.mp h
   by_cases hq : p.2 = 0 ∧ l0_1.length = l0_2.length + 1
   ·rw [if_pos hq] at h
    obtain ⟨o, ho, h⟩ := Option.bind_eq_some_iff.mp h
    simp only [Option.some.injEq, Prod.mk.injEq] at h
    obtain ⟨rfl, rfl⟩ := h
    obtain ⟨rp, ep⟩ := p
    obtain ⟨rfl, hq⟩ := hq
    have HR1 := am hr0_1; have HC1 := am hc0_1; have HR2 := am hr0_2; have HC2 := am hc0_2; have HT := am hT; have HN := am hn; have HBD := am hb; have HP := am hp; have HQ := am hq; have HOO := am ho; have HZ := am hs
    have HB := am (Below.refl w.heap.size w)
    clear hr0_1 hc0_1 hr0_2 hc0_2 hT hn hb hp hq ho hs
    have HB0 := am (below_alloc (Below.refl w.heap.size w) (.cells #[.string a0_0, .slice A0_1 l0_1.length c0_1, .slice A0_2 l0_2.length c0_2] 42))
    have HG0 : Aside0 ((w.alloc (.cells #[.string a0_0, .slice A0_1 l0_1.length c0_1, .slice A0_2 l0_2.length c0_2] 42)).heap[w.heap.size]? = some (.cells #[.string a0_0, .slice A0_1 l0_1.length c0_1, .slice A0_2 l0_2.length c0_2] 42 (0, 0))) := ⟨heap_alloc_new w _⟩
    go_enter Tryd.func88, Tryd.ntmps88
    go_wp2_with (first | (go_at_call 10; (with_reducible refine (points_Count.calls a0_0 n _ (Tabs.below HT.out HB0.out) HN.out).mono ?_); rintro e w1 ⟨rfl, hb⟩; have HB1 := am (below_then HB0.out HB0.out.size hb); have HB2 := am (HB1.out.alloc HB1.out.size (.cells #[.int .i64 n] 3)); have HG2 : Aside0 ((w1.alloc (.cells #[.int .i64 n] 3)).heap[w.heap.size]? = some (.cells #[.string a0_0, .slice A0_1 l0_1.length c0_1, .slice A0_2 l0_2.length c0_2] 42 (0, 0))) := ⟨blk_alloc (blk_below HG0.out hb) _⟩; have HN2 : Aside0 ((w1.alloc (.cells #[.int .i64 n] 3)).heap[w1.heap.size]? = some (.cells #[.int .i64 n] 3 (0, 0))) := ⟨heap_alloc_new w1 _⟩; have cx1 : (w1.alloc (.cells #[.int .i64 n] 3)).cell? ⟨w.heap.size, 1, none⟩ = some (.slice A0_1 l0_1.length c0_1) := (blk_cell HG2.out 1).trans rfl; clear hb) | (go_at_call 97; (with_reducible refine (snap_PutRow.calls A0_1 c0_1 l0_1 rp 0 _ (Kd.C_below HR1.out HB2.out) HC1.out HP.out).mono ?_); rintro e w3 ⟨v3, rfl, ho3, hb⟩; have HB3 := am ((below_then HB2.out HB2.out.size hb).alloc (below_then HB2.out HB2.out.size hb).size (.cells #[.int .i64 0] 29)); have HG3 : Aside0 ((w3.alloc (.cells #[.int .i64 0] 29)).heap[w.heap.size]? = some (.cells #[.string a0_0, .slice A0_1 l0_1.length c0_1, .slice A0_2 l0_2.length c0_2] 42 (0, 0))) := ⟨blk_alloc (blk_below HG2.out hb) _⟩; have HN3 : Aside0 ((w3.alloc (.cells #[.int .i64 0] 29)).heap[w1.heap.size]? = some (.cells #[.int .i64 n] 3 (0, 0))) := ⟨blk_alloc (blk_below HN2.out hb) _⟩; have HE3 : Aside0 ((w3.alloc (.cells #[.int .i64 0] 29)).heap[w3.heap.size]? = some (.cells #[.int .i64 0] 29 (0, 0))) := ⟨heap_alloc_new w3 _⟩; clear hb ho3) | (go_at_call 99; (with_reducible refine (chain_is.calls (.func (Fn.func 100) #[] #[.pointer (some ⟨w1.heap.size, 0, none⟩)]) 3 _ ?sf).mono ?_); (case sf => exact chain_sizes.fine (Go.Proofs.enters_of Tryd.func100 (by kernel_rfl) rfl) (fun W hb => chain_sizes.c1 w1.heap.size n W (blk_below HN3.out hb) HBD.out.1)); rintro e w4 ⟨v4, rfl, hf, hb⟩; obtain ⟨f4, k4, ev, he⟩ := id hf; clear he; subst ev; have HF4 := am hf; have HB4 := am (below_then HB3.out HB3.out.size hb); have HG4 := am (blk_below HG3.out hb); have HN4 := am (blk_below HN3.out hb); have HE4 := am (blk_below HE3.out hb); clear hb hf) | (go_at_call 99; (with_reducible refine (chain_is.calls (.func (Fn.func 101) #[] #[.pointer (some ⟨w1.heap.size, 0, none⟩)]) 4 _ ?sf).mono ?_); (case sf => exact chain_sizes.fine (Go.Proofs.enters_of Tryd.func101 (by kernel_rfl) rfl) (fun W hb => chain_sizes.c2 w1.heap.size n W (blk_below HN4.out hb) HBD.out.2)); rintro e w5 ⟨v5, rfl, hf, hb⟩; obtain ⟨f5, k5, ev, he⟩ := id hf; clear he; subst ev; have HF5 := am hf; have HB5 := am (below_then HB4.out HB4.out.size hb); have HG5 := am (blk_below HG4.out hb); have HN5 := am (blk_below HN4.out hb); have HE5 := am (blk_below HE4.out hb); have HFa4 := am (Fine.below HF4.out hb); clear hb hf) | (go_at_call 99; (with_reducible refine (chain_is.calls (.func (Fn.func 102) #[] #[.pointer (some ⟨w3.heap.size, 0, none⟩), .pointer (some ⟨w.heap.size, 0, none⟩)]) 6 _ ?sf).mono ?_); (case sf => exact chain_sizes.fine (Go.Proofs.enters_of Tryd.func102 (by kernel_rfl) rfl) (fun W hb => chain_sizes.c3 w3.heap.size w.heap.size a0_0 A0_1 A0_2 l0_1.length l0_2.length c0_1 c0_2 W (blk_below HE5.out hb) (blk_below HG5.out hb) HQ.out HZ.out)); rintro e w6 ⟨v6, rfl, hf, hb⟩; obtain ⟨f6, k6, ev, he⟩ := id hf; clear he; subst ev; have HF6 := am hf; have HB6 := am (below_then HB5.out HB5.out.size hb); have HG6 := am (blk_below HG5.out hb); have HN6 := am (blk_below HN5.out hb); have HE6 := am (blk_below HE5.out hb); have HV6 : Aside0 (∀ v ∈ [.func (Fn.func f4) #[] k4, .func (Fn.func f5) #[] k5, .func (Fn.func f6) #[] k6], Fine (w6.alloc (.cells #[.func (Fn.func f4) #[] k4, .func (Fn.func f5) #[] k5, .func (Fn.func f6) #[] k6] 163)) v (.int .i64 0)) := ⟨by have ha := below_alloc (Below.refl w6.heap.size w6) (.cells #[.func (Fn.func f4) #[] k4, .func (Fn.func f5) #[] k5, .func (Fn.func f6) #[] k6] 163); intro v hv; simp only [List.mem_cons, List.not_mem_nil, or_false] at hv; rcases hv with rfl | rfl | rfl; exact Fine.below (Fine.below HFa4.out hb) ha; exact Fine.below (Fine.below HF5.out hb) ha; exact Fine.below hf ha⟩; clear hb hf) | (go_at_call 98; (refine (chain_first.calls w6.heap.size 3 [.func (Fn.func f4) #[] k4, .func (Fn.func f5) #[] k5, .func (Fn.func f6) #[] k6] _ (by simp) ?sg ?sv).mono ?_); (case sg => exact heap_alloc_new w6 _); (case sv => exact HV6.out); rintro e w7 ⟨rfl, hb⟩; have ha6 := HB6.out.alloc HB6.out.size (.cells #[.func (Fn.func f4) #[] k4, .func (Fn.func f5) #[] k5, .func (Fn.func f6) #[] k6] 163); have HB7 := am (below_then ha6 ha6.size hb); have HG7 := am (blk_below (blk_alloc HG6.out _) hb); have HN7 := am (blk_below (blk_alloc HN6.out _) hb); have cn7 : w7.cell? ⟨w1.heap.size, 0, none⟩ = some (.int .i64 n) := (blk_cell HN7.out 0).trans rfl; clear hb ha6) | ((with_reducible refine gate_dst (N := 33) rfl ?_); refine Kd.R_lit (Kd.int .i64) (w0 := w) w.heap.size 3 ?hg (N := 33) ?hd (xs := ([n] : List Int)) (inner := [.int .i64 n]) (ok := fun k => k ≠ w1.heap.size) (okp := fun k => k ≠ w1.heap.size) ?hr ?hp (fun _ hk => hk) ?hf HB7.out HB7.out.size (by simp) ?_; (case hd => rfl); (case hg => rfl); (case hr => first | (go_simp; done) | (go_simp; rfl)); (case hp => exact (Reps.one (show Kd.M (Kd.int .i64) _ _ _ n [.int .i64 n] from rfl) (Reps.none _ _))); (case hf => have := blk_lt HN7.out; omega); intro v8 w8 ho hb hg_ hnew_; have hk8 : Kept w7 w8 (fun _ => False) := Kept.of_grown hg_ (Kept.refl _ _) (fun k e => by cases e); have HO8 := am ho; have HB8 := am hb; have HN8 := am (blk_kept HN7.out hk8 (fun e => e)); have HG8 := am (blk_kept HG7.out hk8 (fun e => e)); have cx8 : w8.cell? ⟨w.heap.size, 2, none⟩ = some (.slice A0_2 l0_2.length c0_2) := (blk_cell HG8.out 2).trans rfl; clear ho hb hg_ hnew_ hk8))
    have HO0 := HOO
    clear HOO
    have HGW : Aside0 (w.heap.size ≤ w1.heap.size) := ⟨HB1.out.size⟩
    go_loopw [8, 10, 11, 37] (fun v8' _ _ v37 wr => ∃ (j : Nat) (m : Int) (out : List Int), v37 = .int .i64 j ∧ j ≤ l0_2.length ∧ Aside0 (chain_sizes.l k m (l0_2.drop j) out = some o) ∧ Aside0 (wr.heap[w1.heap.size]? = some (.cells #[.int .i64 m] 3 (0, 0))) ∧ Aside0 (Kd.R (Kd.int .i64) 3 wr w.heap.size (fun k => k ≠ w1.heap.size) v8' out) ∧ Aside0 (Below w.heap.size w wr) ∧ Aside0 (out.length ≤ j + 1)) (fun _ _ _ v37 _ => l0_2.length - (intOf v37).toNat)
    case atStart => exact ⟨0, n, [n], rfl, Nat.zero_le _, HO0, HN8, HO8, HB8, ⟨by simp⟩⟩
    case round =>
     clear HO0 HN8 HO8 HB8
     obtain ⟨j, m, out, rfl, hj, HA, HN9, HO9, HB9, HLN⟩ := hrel
     by_cases hlt : j < l0_2.length
     ·have hltb : decide ((j : Int) < (l0_2.length : Int)) = true := decide_eq_true (by omega)
      have HL := am hlt
      have h := HA.out
      clear HA
      rw [rows_next l0_2 j hlt, chain_sizes.l] at h
      obtain ⟨e1, he1, h⟩ := Option.bind_eq_some_iff.mp h
      by_cases z1 : e1 = 0
      ·subst z1
       rw [if_pos rfl] at h
       obtain ⟨m2, hm2, h⟩ := Option.bind_eq_some_iff.mp h
       by_cases z2 : m2 = m
       ·subst z2
        rw [if_pos rfl] at h
        obtain ⟨q, hq, h⟩ := Option.bind_eq_some_iff.mp h
        by_cases z3 : q ≤ 1048576
        ·rw [if_pos z3] at h
         obtain ⟨b4, hb4, h⟩ := Option.bind_eq_some_iff.mp h
         by_cases z4 : b4 = true
         ·subst z4
          rw [if_pos rfl] at h
          obtain ⟨ad, A, c, eA, hx, hcl, hC⟩ := at_rows (Kd.C_below HR2.out HB9.out) j hlt
          subst eA
          have HMY := am he1; have HIN := am hm2; have HOU := am hq; have HQB := am z3; have HIS := am hb4; have HH := am h; have HCL := am hcl
          have p2 : ((j : Int) < (l0_2.length : Int)) = True := eq_true (by omega)
          have p3 : (j < l0_2.length) = True := eq_true hlt
          have ew : Aside0 (wrap64 ((j : Int) + 1) = ((j + 1 : Nat) : Int)) := ⟨by have := HZ.out; unfold wrap64; omega⟩
          have HB10 := am (HB9.out.alloc HB9.out.size (.cells #[.slice A (rowsAt l0_2 j).length c] 27))
          have HX10 : Aside0 ((wr.alloc (.cells #[.slice A (rowsAt l0_2 j).length c] 27)).heap[wr.heap.size]? = some (.cells #[.slice A (rowsAt l0_2 j).length c] 27 (0, 0))) := ⟨heap_alloc_new wr _⟩
          have HN10 : Aside0 ((wr.alloc (.cells #[.slice A (rowsAt l0_2 j).length c] 27)).heap[w1.heap.size]? = some (.cells #[.int .i64 m2] 3 (0, 0))) := ⟨blk_alloc HN9.out _⟩
          have HC10 : Aside0 (Kd.C k25 (wr.alloc (.cells #[.slice A (rowsAt l0_2 j).length c] 27)) A (rowsAt l0_2 j).length (rowsAt l0_2 j)) := ⟨Kd.C_alloc hC _⟩
          have HO10 : Aside0 (Kd.R (Kd.int .i64) 3 (wr.alloc (.cells #[.slice A (rowsAt l0_2 j).length c] 27)) w.heap.size (fun k => k ≠ w1.heap.size) u8 out) := ⟨Kd.R_alloc HO9.out _⟩
          have HT10 : Aside0 (Tabs (wr.alloc (.cells #[.slice A (rowsAt l0_2 j).length c] 27))) := ⟨Tabs.below HT.out HB10.out⟩
          clear hlt h he1 hm2 hq z3 hb4 hcl hC
          go_wp2_with (first | (go_at_call 99; (with_reducible refine (chain_is.calls (.func (Fn.func 104) #[] #[.pointer (some ⟨wr.heap.size, 0, none⟩), .pointer (some ⟨w1.heap.size, 0, none⟩)]) 5 _ ?sf).mono ?_); (case sf => exact chain_sizes.fine (Go.Proofs.enters_of Tryd.func104 (by kernel_rfl) rfl) (fun W hb => chain_sizes.c5 wr.heap.size w1.heap.size A c _ m2 W (blk_below HX10.out hb) (blk_below HN10.out hb) (Kd.C_below HC10.out hb) HCL.out (Tabs.below HT10.out hb) HIN.out)); rintro e w11 ⟨v11, rfl, hf, hb⟩; obtain ⟨f11, k11, ev, he⟩ := id hf; clear he; subst ev; have HF11 := am hf; have HB11 := am (below_then HB10.out HB10.out.size hb); have HX11 := am (blk_below HX10.out hb); have HN11 := am (blk_below HN10.out hb); have HC11 := am (Kd.C_below HC10.out hb); have HO11 := am (Kd.R_below HO10.out hb); have HT11 := am (Tabs.below HT10.out hb); clear hb hf) | (go_at_call 99; (with_reducible refine (chain_is.calls (.func (Fn.func 105) #[] #[.pointer (some ⟨wr.heap.size, 0, none⟩)]) 4 _ ?sf).mono ?_); (case sf => exact chain_sizes.fine (Go.Proofs.enters_of Tryd.func105 (by kernel_rfl) rfl) (fun W hb => chain_sizes.c6 wr.heap.size A c _ q W (blk_below HX11.out hb) (Kd.C_below HC11.out hb) HCL.out (Tabs.below HT11.out hb) HOU.out HQB.out)); rintro e w12 ⟨v12, rfl, hf, hb⟩; obtain ⟨f12, k12, ev, he⟩ := id hf; clear he; subst ev; have HF12 := am hf; have HB12 := am (below_then HB11.out HB11.out.size hb); have HX12 := am (blk_below HX11.out hb); have HN12 := am (blk_below HN11.out hb); have HC12 := am (Kd.C_below HC11.out hb); have HO12 := am (Kd.R_below HO11.out hb); have HT12 := am (Tabs.below HT11.out hb); have HFa11 := am (Fine.below HF11.out hb); clear hb hf) | (go_at_call 99; (with_reducible refine (chain_is.calls (.func (Fn.func 106) #[] #[.pointer (some ⟨wr.heap.size, 0, none⟩)]) 8 _ ?sf).mono ?_); (case sf => exact chain_sizes.fine (Go.Proofs.enters_of Tryd.func106 (by kernel_rfl) rfl) (fun W hb => chain_sizes.c7 k wr.heap.size A c _ W (blk_below HX12.out hb) (Kd.C_below HC12.out hb) HCL.out HIS.out)); rintro e w13 ⟨v13, rfl, hf, hb⟩; obtain ⟨f13, k13, ev, he⟩ := id hf; clear he; subst ev; have HF13 := am hf; have HB13 := am (below_then HB12.out HB12.out.size hb); have HX13 := am (blk_below HX12.out hb); have HN13 := am (blk_below HN12.out hb); have HC13 := am (Kd.C_below HC12.out hb); have HO13 := am (Kd.R_below HO12.out hb); have HT13 := am (Tabs.below HT12.out hb); have HFa12 := am (Fine.below (Fine.below HFa11.out hb) (below_alloc (Below.refl _ _) (.cells #[.func (Fn.func 103) #[] #[.pointer (some ⟨wr.heap.size, 0, none⟩)], .func (Fn.func f11) #[] k11, .func (Fn.func f12) #[] k12, .func (Fn.func f13) #[] k13] 163))); have HFb12 := am (Fine.below (Fine.below HF12.out hb) (below_alloc (Below.refl _ _) (.cells #[.func (Fn.func 103) #[] #[.pointer (some ⟨wr.heap.size, 0, none⟩)], .func (Fn.func f11) #[] k11, .func (Fn.func f12) #[] k12, .func (Fn.func f13) #[] k13] 163))); have HFc12 := am (Fine.below hf (below_alloc (Below.refl _ _) (.cells #[.func (Fn.func 103) #[] #[.pointer (some ⟨wr.heap.size, 0, none⟩)], .func (Fn.func f11) #[] k11, .func (Fn.func f12) #[] k12, .func (Fn.func f13) #[] k13] 163))); have HFd12 : Aside0 (Fine (w13.alloc (.cells #[.func (Fn.func 103) #[] #[.pointer (some ⟨wr.heap.size, 0, none⟩)], .func (Fn.func f11) #[] k11, .func (Fn.func f12) #[] k12, .func (Fn.func f13) #[] k13] 163)) (.func (Fn.func 103) #[] #[.pointer (some ⟨wr.heap.size, 0, none⟩)]) (.int .i64 0)) := ⟨chain_sizes.fine (Go.Proofs.enters_of Tryd.func103 (by kernel_rfl) rfl) (fun W hb2 => chain_sizes.c4 k wr.heap.size A c _ W (blk_below (blk_alloc HX13.out _) hb2) (Kd.C_below (Kd.C_alloc HC13.out _) hb2) HCL.out (Tabs.below (Tabs.below HT13.out (below_alloc (Below.refl _ _) _)) hb2) HMY.out)⟩; clear hb hf) | (go_at_call 98; (refine (chain_first.calls w13.heap.size 4 [.func (Fn.func 103) #[] #[.pointer (some ⟨wr.heap.size, 0, none⟩)], .func (Fn.func f11) #[] k11, .func (Fn.func f12) #[] k12, .func (Fn.func f13) #[] k13] _ (by simp) ?sg ?sv).mono ?_); (case sg => exact heap_alloc_new w13 _); (case sv => intro v hv; simp only [List.mem_cons, List.not_mem_nil, or_false] at hv; rcases hv with rfl | rfl | rfl | rfl; exact HFd12.out; exact HFa12.out; exact HFb12.out; exact HFc12.out); rintro e w14 ⟨rfl, hb⟩; have ha := below_alloc (Below.refl w13.heap.size w13) (.cells #[.func (Fn.func 103) #[] #[.pointer (some ⟨wr.heap.size, 0, none⟩)], .func (Fn.func f11) #[] k11, .func (Fn.func f12) #[] k12, .func (Fn.func f13) #[] k13] 163); have hb2 := below_then ha (by simp) hb; have HB14 := am (below_then HB13.out HB13.out.size hb2); have HX14 := am (blk_below HX13.out hb2); have HN14 := am (blk_below HN13.out hb2); have HC14 := am (Kd.C_below HC13.out hb2); have HO14 := am (Kd.R_below HO13.out hb2); have HT14 := am (Tabs.below HT13.out hb2); have cx14 : w14.cell? ⟨wr.heap.size, 0, none⟩ = some (.slice A (rowsAt l0_2 j).length c) := (blk_cell HX14.out 0).trans rfl; clear hb ha hb2) | (go_at_call 62; (with_reducible refine (op_Out.calls A c (rowsAt l0_2 j) q _ HC14.out HCL.out HT14.out HOU.out).mono ?_); rintro e w15 ⟨rfl, hb⟩; have HB15 := am (below_then HB14.out HB14.out.size hb); have HN15 := am (blk_below HN14.out hb); have HO15 := am (Kd.R_below HO14.out hb); have cn15 : w15.cell? ⟨w1.heap.size, 0, none⟩ = some (.int .i64 m2) := (blk_cell HN15.out 0).trans rfl; have fn15 : w15.frozen? ⟨w1.heap.size, 0, none⟩ = false := blk_frozen HN15.out 0; have HN16 : Aside0 ((w15.setCell ⟨w1.heap.size, 0, none⟩ (.int .i64 q)).heap[w1.heap.size]? = some (.cells #[.int .i64 q] 3 (0, 0))) := ⟨blk_put HN15.out 0 _ rfl⟩; have cn16 : (w15.setCell ⟨w1.heap.size, 0, none⟩ (.int .i64 q)).cell? ⟨w1.heap.size, 0, none⟩ = some (.int .i64 q) := (blk_cell HN16.out 0).trans rfl; have HO16 := am (Kd.R_far (p := ⟨w1.heap.size, 0, none⟩) HO15.out (fun k hk => hk) (.int .i64 q)); have HB16 := am (HB15.out.setCell (p := ⟨w1.heap.size, 0, none⟩) HGW.out (.int .i64 q)); clear hb) | ((with_reducible refine gate_builtin (b := .append) (xs := #[.tmp 55, .tmp 57]) rfl ?_); at_builtin; refine Kd.R_append (Kd.int .i64) (w0 := w) w.heap.size rfl (.tmp 55) (.tmp 57) 38 3 (.int .i64 0) 8 rfl Tryd.underlying38 info3 rfl (by decide) (by omega) u8 out q [.int .i64 q] (fun k => k ≠ w1.heap.size) (fun _ => False) rfl ?hx ?aP (fun _ hk => hk.elim) ?aF ?aO ?aB ?aS ?aL ?_; (case hx => show Value.slice (some ⟨w15.heap.size, 0, none⟩) 1 1 = _; simp); (case aP => exact rfl); (case aB => exact HB16.out); (case aF => intro k hk; have := blk_lt HN16.out; omega); (case aO => exact HO16.out); (case aS => exact HB16.out.size); (case aL => have := HLN.out; have := HZ.out; have := HL.out; omega); intro v17 w17 ho hb hg hat; have HO17 := am ho; have HB17 := am hb; have HN17 := am (blk_kept HN16.out (Kept.of_grown (S := fun k => u8.ownBlock = some k) hg (Kept.refl _ _) (fun k e => .inl e)) (fun e => (HO16.out.1 _ e) rfl)); clear ho hb hg hat))
          go_roundw
          case rel => exact ⟨j + 1, q, out ++ [q], by rw [ew.out], HL.out, HH, HN17, HO17, HB17, ⟨by rw [List.length_append]; have := HLN.out; simp; omega⟩⟩
          case measure => exact op_sum.less HL.out ew.out
         ·rw [if_neg z4] at h; cases h
        ·rw [if_neg z3] at h; cases h
       ·rw [if_neg z2] at h; cases h
      ·rw [if_neg z1] at h; cases h
     ·have hltb : decide ((j : Int) < (l0_2.length : Int)) = false := decide_eq_false (by omega)
      have h := HA.out
      clear HA
      rw [List.drop_of_length_le (by omega), chain_sizes.l] at h
      obtain rfl := Option.some.inj h
      go_wp2
      go_ret2
      exact ⟨_, rfl, Kd.R_mono HO9.out (fun _ _ => trivial), HB9.out⟩
   ·rw [if_neg hq] at h; cases h
  ·rw [if_neg hb] at h; cases h
 ·rw [if_neg hs] at h; cases h
def chain_May.f (k : Nat) (a0_0 : ByteArray) (l0_1 : List Int) (l0_2 : List (List (S25))) : Option (Int) := (chain_sizes.f k a0_0 l0_1 l0_2).bind fun bt312 => (some bt312.2)
set_option maxHeartbeats 8000000 in
set_option maxRecDepth 100000 in
theorem chain_May.calls (k : Nat) (a0_0 : ByteArray) (A0_1 : Option Addr) (c0_1 : Nat) (l0_1 : List Int) (A0_2 : Option Addr) (c0_2 : Nat) (l0_2 : List (List (S25))) (r : Int) (w : World) (hr0_1 : Kd.C (Kd.int .i64) w A0_1 l0_1.length l0_1) (hc0_1 : l0_1.length ≤ c0_1) (hr0_2 : Kd.C (Kd.slice 25 k25) w A0_2 l0_2.length l0_2) (hc0_2 : l0_2.length ≤ c0_2) (hT : Tabs w) (h : chain_May.f k a0_0 l0_1 l0_2 = some r) :
  Calls Tryd.prog 66 #[.agg #[.string a0_0, .slice A0_1 l0_1.length c0_1, .slice A0_2 l0_2.length c0_2]] w fun e w' => e = .returned (.int .i64 r) ∧ Below w.heap.size w w' := by
 have HT := am hT
 clear hT
 have hu42 := Tryd.underlying42
 have HR0_1 := am hr0_1
 have HC0_1 := am hc0_1
 clear hr0_1 hc0_1
 have HR0_2 := am hr0_2
 have HC0_2 := am hc0_2
 clear hr0_2 hc0_2
 have HB := am (Below.refl w.heap.size w)
 have H : ((chain_sizes.f k a0_0 l0_1 l0_2).bind fun bt312 => (some bt312.2)) = some r := h
 clear h
 replace H := Option.bind_eq_some_iff.mp H
 obtain ⟨⟨t312, t315⟩, A20, H⟩ := H
 replace H : (some t315) = some r := H
 have A2 := am A20
 clear A20
 obtain rfl := Option.some.inj H
 simp only [Option.some.injEq, Prod.mk.injEq] at H
 obtain ⟨rfl⟩ := H
 go_enter Tryd.func66, Tryd.ntmps66
 go_wp2_with (first | ((with_reducible refine gate_dst (N := 1) rfl ?_); refine box_event ?hg (N := 1) ?hd (cs := #[.string a0_0, .slice A0_1 l0_1.length c0_1, .slice A0_2 l0_2.length c0_2]) (t := 42) ?hr ?_; (case hd => rfl); (case hg => rfl); (case hr => first | (go_simp; done) | (go_simp; rfl)); intro gb311 hg w3 hbox hb; have n0_ := am (below_step bl hb); have n1_ := am (hbox); have n2_ := am ((gs : w.heap.size ≤ gb311)); have n3_ := am ((gs : w.heap.size ≤ gb311)); clear HB; have HB := n0_; have BK311 := n1_; have GW311 := n2_; have GE311 := n3_; clear n0_ n1_ n2_ n3_; clear hb hbox hg; have hcz4_0 : w3.cell? ⟨gb311, 0, none⟩ = some (.string a0_0) := (blk_cell BK311.out 0).trans rfl; have hcz4_1 : w3.cell? ⟨gb311, 1, none⟩ = some (.slice A0_1 l0_1.length c0_1) := (blk_cell BK311.out 1).trans rfl; have hcz4_2 : w3.cell? ⟨gb311, 2, none⟩ = some (.slice A0_2 l0_2.length c0_2) := (blk_cell BK311.out 2).trans rfl; have hfz4_0 := blk_frozen BK311.out 0; have hfz4_1 := blk_frozen BK311.out 1; have hfz4_2 := blk_frozen BK311.out 2) | ((with_reducible refine gate_callee (f := 88) rfl ?_); refine goesL_ (some 7) rfl rfl Tryd.func88 (by kernel_rfl) rfl #[.agg #[.string a0_0, .slice A0_1 l0_1.length c0_1, .slice A0_2 l0_2.length c0_2]] rfl ar ?_; (with_reducible refine (chain_sizes.calls k a0_0 _ _ l0_1 _ _ l0_2 t312 t315 _ ?side1 ?side2 ?side3 ?side4 ?side5 A2.out).mono ?_); (case side1 => repeat (first | exact (Kd.C_below HR0_1.out HB.out) | (with_reducible refine Kd.C_alloc ?_ _) | (with_reducible refine Kd.C_drewN ?_ _) | (with_reducible refine Kd.C_drew ?_))); (case side2 => exact HC0_1.out); (case side3 => repeat (first | exact (Kd.C_below HR0_2.out HB.out) | (with_reducible refine Kd.C_alloc ?_ _) | (with_reducible refine Kd.C_drewN ?_ _) | (with_reducible refine Kd.C_drew ?_))); (case side4 => exact HC0_2.out); (case side5 => exact Tabs.below HT.out bl); rintro e w5 ⟨v313, rfl, ho0, hb⟩; refine ⟨_, rfl, ?_⟩; have n0_ := am (Kd.R_lower ho0 (below_size bl)); have n1_ := am (blk_below (g := gb311) (o := .cells #[.string a0_0, .slice A0_1 l0_1.length c0_1, .slice A0_2 l0_2.length c0_2] 42 (0, 0)) (by refine bk ?_; exact BK311.out) hb); have n2_ := am (below_step bl hb); clear BK311; clear HB; have HO314 := n0_; have BK311 := n1_; have HB := n2_; clear n0_ n1_ n2_; (try clear hb); (try clear hb2); (try clear hk); (try clear hi); (try clear ho0)))
 go_ret
 exact ⟨by first | rfl | (simp [errW_none, errW_some] <;> rfl) | (simp [*, errW_none, errW_some] <;> rfl), bl⟩
def chain_At.f (k : Nat) (a0_0 : ByteArray) (l0_1 : List Int) (l0_2 : List (List (S25))) (a1 : Int) : Option (ByteArray × Int) := (chain_May.f k a0_0 l0_1 l0_2).bind fun t317 => (if t317 = 0 then (if a1 < 0 then (some ((⟨#[]⟩ : ByteArray), 6)) else (if a1 > (l0_2.length : Int) then (some ((⟨#[]⟩ : ByteArray), 6)) else (if 0 ≤ a1 then (if a1 ≤ (l0_2.length : Int) then ((apply_All.f k a0_0 (l0_2.take (a1 : Int).toNat)).bind fun bt322 => (some (bt322.1, bt322.2))) else (none)) else (none)))) else (some ((⟨#[]⟩ : ByteArray), t317)))
def chain_At.T6 : Bool × List (List Nat × List Nat) := (true, [([], []), ([0], [0]), ([], []), ([2], [2]), ([], []), ([3, 4], [3, 4]), ([1, 5], [1, 5]), ([6], [6]), ([6], [6]), ([7, 6, 0, 1, 2, 3, 4, 5, 6, 7, 8], [7]), ([8, 9, 0, 1, 2, 3, 4, 5, 6, 7, 8, 9], [8])])
def chain_At.B6 : List Nat := [0, 1, 0, 4, 0, 28, 63, 127, 127, 511, 1023]
theorem chain_At.tab6 : rtab .any (opsOf Tryd.f27 6) = chain_At.T6 := by kernel_rfl
theorem chain_At.bits6 : waitsOk chain_At.T6.2 chain_At.B6 = true := by kernel_rfl
set_option maxHeartbeats 8000000 in
set_option maxRecDepth 100000 in
theorem chain_At.calls (k : Nat) (a0_0 : ByteArray) (A0_1 : Option Addr) (c0_1 : Nat) (l0_1 : List Int) (A0_2 : Option Addr) (c0_2 : Nat) (l0_2 : List (List (S25))) (a1 : Int) (r1 : ByteArray) (r2 : Int) (w : World) (hr0_1 : Kd.C (Kd.int .i64) w A0_1 l0_1.length l0_1) (hc0_1 : l0_1.length ≤ c0_1) (hr0_2 : Kd.C (Kd.slice 25 k25) w A0_2 l0_2.length l0_2) (hc0_2 : l0_2.length ≤ c0_2) (hT : Tabs w) (h : chain_At.f k a0_0 l0_1 l0_2 a1 = some (r1, r2)) :
  Calls Tryd.prog 27 #[.agg #[.string a0_0, .slice A0_1 l0_1.length c0_1, .slice A0_2 l0_2.length c0_2], .int .i64 a1] w fun e w' => e = .returned (.tuple #[.string r1, .int .i64 r2]) ∧ Below w.heap.size w w' := by
 have HT := am hT
 clear hT
 have hu42 := Tryd.underlying42
 have HR0_1 := am hr0_1
 have HC0_1 := am hc0_1
 clear hr0_1 hc0_1
 have HR0_2 := am hr0_2
 have HC0_2 := am hc0_2
 clear hr0_2 hc0_2
 have HB := am (Below.refl w.heap.size w)
 have H : ((chain_May.f k a0_0 l0_1 l0_2).bind fun t317 => (if t317 = 0 then (if a1 < 0 then (some ((⟨#[]⟩ : ByteArray), 6)) else (if a1 > (l0_2.length : Int) then (some ((⟨#[]⟩ : ByteArray), 6)) else (if 0 ≤ a1 then (if a1 ≤ (l0_2.length : Int) then ((apply_All.f k a0_0 (l0_2.take (a1 : Int).toNat)).bind fun bt322 => (some (bt322.1, bt322.2))) else (none)) else (none)))) else (some ((⟨#[]⟩ : ByteArray), t317)))) = some (r1, r2) := h
 clear h
 replace H := Option.bind_eq_some_iff.mp H
 obtain ⟨t317, A30, H⟩ := H
 try dsimp only at H
 have A3 := am A30
 clear A30
 by_cases c4 : t317 = 0
 ·rw [if_pos c4] at H
  have c4b0 : (t317 == 0) = true := beq_iff_eq.mpr c4
  have c4b1 : (t317 != 0) = false := bne_eq_false_iff_eq.mpr c4
  clear c4
  by_cases c5 : a1 < 0
  ·rw [if_pos c5] at H
   have c5b0 : decide (a1 < 0) = true := decide_eq_true c5
   clear c5
   simp only [Option.some.injEq, Prod.mk.injEq] at H
   obtain ⟨rfl, rfl⟩ := H
   go_enter Tryd.func27, Tryd.ntmps27
   go_wp2_with (first | ((with_reducible refine gate_dst (N := 2) rfl ?_); (try (refine gate_guard (by rfl) ?_; dsimp only)); refine box_event ?hg (N := 2) ?hd (cs := #[.string a0_0, .slice A0_1 l0_1.length c0_1, .slice A0_2 l0_2.length c0_2]) (t := 42) ?hr ?_; (case hd => rfl); (case hg => rfl); (case hr => first | (go_simp; done) | (go_simp; rfl)); intro gb316 hg w6 hbox hb; have n0_ := am (below_step bl hb); have n1_ := am (hbox); have n2_ := am ((gs : w.heap.size ≤ gb316)); have n3_ := am ((gs : w.heap.size ≤ gb316)); clear HB; have HB := n0_; have BK316 := n1_; have GW316 := n2_; have GE316 := n3_; clear n0_ n1_ n2_ n3_; clear hb hbox hg; have hcz7_0 : w6.cell? ⟨gb316, 0, none⟩ = some (.string a0_0) := (blk_cell BK316.out 0).trans rfl; have hcz7_1 : w6.cell? ⟨gb316, 1, none⟩ = some (.slice A0_1 l0_1.length c0_1) := (blk_cell BK316.out 1).trans rfl; have hcz7_2 : w6.cell? ⟨gb316, 2, none⟩ = some (.slice A0_2 l0_2.length c0_2) := (blk_cell BK316.out 2).trans rfl; have hfz7_0 := blk_frozen BK316.out 0; have hfz7_1 := blk_frozen BK316.out 1; have hfz7_2 := blk_frozen BK316.out 2) | ((with_reducible refine gate_callee (f := 66) rfl ?_); refine goesL_ (some 8) rfl rfl Tryd.func66 (by kernel_rfl) rfl #[.agg #[.string a0_0, .slice A0_1 l0_1.length c0_1, .slice A0_2 l0_2.length c0_2]] rfl ar ?_; (with_reducible refine (chain_May.calls k a0_0 _ _ l0_1 _ _ l0_2 t317 _ ?side1 ?side2 ?side3 ?side4 ?side5 A3.out).mono ?_); (case side1 => repeat (first | exact (Kd.C_below HR0_1.out HB.out) | (with_reducible refine Kd.C_alloc ?_ _) | (with_reducible refine Kd.C_drewN ?_ _) | (with_reducible refine Kd.C_drew ?_))); (case side2 => exact HC0_1.out); (case side3 => repeat (first | exact (Kd.C_below HR0_2.out HB.out) | (with_reducible refine Kd.C_alloc ?_ _) | (with_reducible refine Kd.C_drewN ?_ _) | (with_reducible refine Kd.C_drew ?_))); (case side4 => exact HC0_2.out); (case side5 => exact Tabs.below HT.out bl); rintro e w8 ⟨rfl, hb⟩; refine ⟨_, rfl, ?_⟩; have n0_ := am (blk_below (g := gb316) (o := .cells #[.string a0_0, .slice A0_1 l0_1.length c0_1, .slice A0_2 l0_2.length c0_2] 42 (0, 0)) (by refine bk ?_; exact BK316.out) hb); have n1_ := am (below_step bl hb); clear BK316; clear HB; have BK316 := n0_; have HB := n1_; clear n0_ n1_; (try clear hb); (try clear hb2); (try clear hk); (try clear hi)))
   go_ret2
   exact ⟨by first | rfl | (simp [errW_none, errW_some] <;> rfl) | (simp [*, errW_none, errW_some] <;> rfl), bl⟩
  ·rw [if_neg c5] at H
   have c5b0 : decide (a1 < 0) = false := decide_eq_false c5
   clear c5
   by_cases c9 : a1 > (l0_2.length : Int)
   ·rw [if_pos c9] at H
    have c9b0 : decide ((l0_2.length : Int) < a1) = true := decide_eq_true c9
    clear c9
    simp only [Option.some.injEq, Prod.mk.injEq] at H
    obtain ⟨rfl, rfl⟩ := H
    go_enter Tryd.func27, Tryd.ntmps27
    go_wp2_with (first | ((with_reducible refine gate_dst (N := 2) rfl ?_); (try (refine gate_guard (by rfl) ?_; dsimp only)); refine box_event ?hg (N := 2) ?hd (cs := #[.string a0_0, .slice A0_1 l0_1.length c0_1, .slice A0_2 l0_2.length c0_2]) (t := 42) ?hr ?_; (case hd => rfl); (case hg => rfl); (case hr => first | (go_simp; done) | (go_simp; rfl)); intro gb316 hg w10 hbox hb; have n0_ := am (below_step bl hb); have n1_ := am (hbox); have n2_ := am ((gs : w.heap.size ≤ gb316)); have n3_ := am ((gs : w.heap.size ≤ gb316)); clear HB; have HB := n0_; have BK316 := n1_; have GW316 := n2_; have GE316 := n3_; clear n0_ n1_ n2_ n3_; clear hb hbox hg; have hcz11_0 : w10.cell? ⟨gb316, 0, none⟩ = some (.string a0_0) := (blk_cell BK316.out 0).trans rfl; have hcz11_1 : w10.cell? ⟨gb316, 1, none⟩ = some (.slice A0_1 l0_1.length c0_1) := (blk_cell BK316.out 1).trans rfl; have hcz11_2 : w10.cell? ⟨gb316, 2, none⟩ = some (.slice A0_2 l0_2.length c0_2) := (blk_cell BK316.out 2).trans rfl; have hfz11_0 := blk_frozen BK316.out 0; have hfz11_1 := blk_frozen BK316.out 1; have hfz11_2 := blk_frozen BK316.out 2) | ((with_reducible refine gate_callee (f := 66) rfl ?_); refine goesL_ (some 8) rfl rfl Tryd.func66 (by kernel_rfl) rfl #[.agg #[.string a0_0, .slice A0_1 l0_1.length c0_1, .slice A0_2 l0_2.length c0_2]] rfl ar ?_; (with_reducible refine (chain_May.calls k a0_0 _ _ l0_1 _ _ l0_2 t317 _ ?side1 ?side2 ?side3 ?side4 ?side5 A3.out).mono ?_); (case side1 => repeat (first | exact (Kd.C_below HR0_1.out HB.out) | (with_reducible refine Kd.C_alloc ?_ _) | (with_reducible refine Kd.C_drewN ?_ _) | (with_reducible refine Kd.C_drew ?_))); (case side2 => exact HC0_1.out); (case side3 => repeat (first | exact (Kd.C_below HR0_2.out HB.out) | (with_reducible refine Kd.C_alloc ?_ _) | (with_reducible refine Kd.C_drewN ?_ _) | (with_reducible refine Kd.C_drew ?_))); (case side4 => exact HC0_2.out); (case side5 => exact Tabs.below HT.out bl); rintro e w12 ⟨rfl, hb⟩; refine ⟨_, rfl, ?_⟩; have n0_ := am (blk_below (g := gb316) (o := .cells #[.string a0_0, .slice A0_1 l0_1.length c0_1, .slice A0_2 l0_2.length c0_2] 42 (0, 0)) (by refine bk ?_; exact BK316.out) hb); have n1_ := am (below_step bl hb); clear BK316; clear HB; have BK316 := n0_; have HB := n1_; clear n0_ n1_; (try clear hb); (try clear hb2); (try clear hk); (try clear hi); have hcz13_0 : w12.cell? ⟨gb316, 0, none⟩ = some (.string a0_0) := (blk_cell BK316.out 0).trans rfl; have hcz13_1 : w12.cell? ⟨gb316, 1, none⟩ = some (.slice A0_1 l0_1.length c0_1) := (blk_cell BK316.out 1).trans rfl; have hcz13_2 : w12.cell? ⟨gb316, 2, none⟩ = some (.slice A0_2 l0_2.length c0_2) := (blk_cell BK316.out 2).trans rfl; have hfz13_0 := blk_frozen BK316.out 0; have hfz13_1 := blk_frozen BK316.out 1; have hfz13_2 := blk_frozen BK316.out 2))
    go_ret2
    exact ⟨by first | rfl | (simp [errW_none, errW_some] <;> rfl) | (simp [*, errW_none, errW_some] <;> rfl), bl⟩
   ·rw [if_neg c9] at H
    have c9b0 : decide ((l0_2.length : Int) < a1) = false := decide_eq_false c9
    clear c9
    by_cases c14 : 0 ≤ a1
    ·rw [if_pos c14] at H
     have c14b0 := eq_true c14
     have c14b1 : decide (0 ≤ a1) = true := decide_eq_true c14
     clear c14
     by_cases c15 : a1 ≤ (l0_2.length : Int)
     ·rw [if_pos c15] at H
      have c15b0 := eq_true c15
      have c15b1 : decide (a1 ≤ (l0_2.length : Int)) = true := decide_eq_true c15
      clear c15
      obtain ⟨y318, hy318⟩ : ∃ y_ : List (List (S25)), y_ = (l0_2.take (a1 : Int).toNat) := ⟨_, rfl⟩
      replace H : ((apply_All.f k a0_0 y318).bind fun bt322 => (some (bt322.1, bt322.2))) = some (r1, r2) := by first | (rw [hy318]; with_reducible exact H) | (have H2_ := (Option.bind_some _ _).symm.trans H; rw [hy318]; with_reducible exact H2_) | (have H2_ := (Option.bind_some _ _).symm.trans H; with_reducible exact H2_) | with_reducible exact H | (rw [hy318]; exact H) | exact H
      have Ny318 := am hy318
      clear hy318
      replace H := Option.bind_eq_some_iff.mp H
      obtain ⟨⟨t322, t323⟩, A160, H⟩ := H
      replace H : (some (t322, t323)) = some (r1, r2) := H
      have A16 := am A160
      clear A160
      simp only [Option.some.injEq, Prod.mk.injEq] at H
      obtain ⟨rfl, rfl⟩ := H
      go_enter Tryd.func27, Tryd.ntmps27
      try go_wp2_with (first | ((with_reducible refine gate_dst (N := 2) rfl ?_); (try (refine gate_guard (by rfl) ?_; dsimp only)); refine box_event ?hg (N := 2) ?hd (cs := #[.string a0_0, .slice A0_1 l0_1.length c0_1, .slice A0_2 l0_2.length c0_2]) (t := 42) ?hr ?_; (case hd => rfl); (case hg => rfl); (case hr => first | (go_simp; done) | (go_simp; rfl)); intro gb316 hg w17 hbox hb; have n0_ := am (below_step bl hb); have n1_ := am (hbox); have n2_ := am ((gs : w.heap.size ≤ gb316)); have n3_ := am ((gs : w.heap.size ≤ gb316)); clear HB; have HB := n0_; have BK316 := n1_; have GW316 := n2_; have GE316 := n3_; clear n0_ n1_ n2_ n3_; clear hb hbox hg; have hcz18_0 : w17.cell? ⟨gb316, 0, none⟩ = some (.string a0_0) := (blk_cell BK316.out 0).trans rfl; have hcz18_1 : w17.cell? ⟨gb316, 1, none⟩ = some (.slice A0_1 l0_1.length c0_1) := (blk_cell BK316.out 1).trans rfl; have hcz18_2 : w17.cell? ⟨gb316, 2, none⟩ = some (.slice A0_2 l0_2.length c0_2) := (blk_cell BK316.out 2).trans rfl; have hfz18_0 := blk_frozen BK316.out 0; have hfz18_1 := blk_frozen BK316.out 1; have hfz18_2 := blk_frozen BK316.out 2) | ((with_reducible refine gate_callee (f := 66) rfl ?_); refine goesL_ (some 8) rfl rfl Tryd.func66 (by kernel_rfl) rfl #[.agg #[.string a0_0, .slice A0_1 l0_1.length c0_1, .slice A0_2 l0_2.length c0_2]] rfl ar ?_; (with_reducible refine (chain_May.calls k a0_0 _ _ l0_1 _ _ l0_2 t317 _ ?side1 ?side2 ?side3 ?side4 ?side5 A3.out).mono ?_); (case side1 => repeat (first | exact (Kd.C_below HR0_1.out HB.out) | (with_reducible refine Kd.C_alloc ?_ _) | (with_reducible refine Kd.C_drewN ?_ _) | (with_reducible refine Kd.C_drew ?_))); (case side2 => exact HC0_1.out); (case side3 => repeat (first | exact (Kd.C_below HR0_2.out HB.out) | (with_reducible refine Kd.C_alloc ?_ _) | (with_reducible refine Kd.C_drewN ?_ _) | (with_reducible refine Kd.C_drew ?_))); (case side4 => exact HC0_2.out); (case side5 => exact Tabs.below HT.out bl); rintro e w19 ⟨rfl, hb⟩; refine ⟨_, rfl, ?_⟩; have n0_ := am (blk_below (g := gb316) (o := .cells #[.string a0_0, .slice A0_1 l0_1.length c0_1, .slice A0_2 l0_2.length c0_2] 42 (0, 0)) (by refine bk ?_; exact BK316.out) hb); have n1_ := am (below_step bl hb); clear BK316; clear HB; have BK316 := n0_; have HB := n1_; clear n0_ n1_; (try clear hb); (try clear hb2); (try clear hk); (try clear hi); have hcz20_0 : w19.cell? ⟨gb316, 0, none⟩ = some (.string a0_0) := (blk_cell BK316.out 0).trans rfl; have hcz20_1 : w19.cell? ⟨gb316, 1, none⟩ = some (.slice A0_1 l0_1.length c0_1) := (blk_cell BK316.out 1).trans rfl; have hcz20_2 : w19.cell? ⟨gb316, 2, none⟩ = some (.slice A0_2 l0_2.length c0_2) := (blk_cell BK316.out 2).trans rfl; have hfz20_0 := blk_frozen BK316.out 0; have hfz20_1 := blk_frozen BK316.out 1; have hfz20_2 := blk_frozen BK316.out 2))
      have n0_ := am (blk_drew BK316.out)
      have n1_ := am (below_drew1 HB.out)
      clear BK316
      clear HB
      have BK316 := n0_
      have HB := n1_
      clear n0_ n1_
      have q22 : (a1 : Int) ≤ ((l0_2.length : Int) : Int) := of_decide_eq_true as0
      obtain ⟨i022, hi022, _, hsz22, _⟩ := info_parts info27
      have hroom22 : l0_2.length ≤ c0_2 := HC0_2.out
      have hC22 : Kd.C (Kd.slice 25 k25) _ A0_2 l0_2.length l0_2 := HR0_2.out
      have hcut22 := cut_to (P := Tryd.prog) 28 27 .i64 Tryd.underlying28 hi022 A0_2 l0_2.length c0_2 a1 (of_decide_eq_true as0) q22 hroom22
      have hr22 := Kd.C_take (m := (a1 : Int).toNat) hC22 (by omega)
      have hy22 : y318.length = (a1 : Int).toNat := (by rw [Ny318.out, List.length_take]; omega)
      rw [← Ny318.out] at hr22
      rw [← hy22] at hcut22
      have HR321 := am hr22
      have HC321 := am (show y318.length ≤ c0_2 from by omega)
      clear hr22 hC22 hroom22 hi022 hsz22
      have KY22 := am hy22
      clear hy22
      replace q22 := eq_true q22
      refine start_ (n := 11) (S := fun w' => w'.cell? ⟨gb316, 0, none⟩ = some (.string a0_0) ∧ w'.cell? ⟨gb316, 1, none⟩ = some (.slice A0_1 l0_1.length c0_1) ∧ w'.cell? ⟨gb316, 2, none⟩ = some (.slice A0_2 l0_2.length c0_2)) (ds := []) #[false, false, false, false, false, false, false, false, false, false, false] (by kernel_rfl) rfl rfl ⟨(blk_cell BK316.out 0).trans rfl, (blk_cell BK316.out 1).trans rfl, (blk_cell BK316.out 2).trans rfl⟩ (fun hHeld => ?_); refine with_tabW chain_At.tab6 chain_At.bits6 (fun HT_ HW_ => ?_)
      generalize w19.drew = w21 at BK316 HB HR321 hHeld ⊢
      refine pure_ (i := 0) (N := some 21) #[true, false, false, false, false, false, false, false, false, false, false] rfl rfl (aT HT_.out) (fun _ _ _ h => h) (Or.inl ⟨rfl, rn⟩) ap ?_
      refine pure_ (i := 2) (N := some 23) #[true, false, true, false, false, false, false, false, false, false, false] rfl rfl (aT HT_.out) (fun _ _ _ h => h) (Or.inl ⟨rfl, rn⟩) ap ?_
      refine pure_ (i := 4) (N := some 25) #[true, false, true, false, true, false, false, false, false, false, false] rfl rfl (aT HT_.out) (fun _ _ _ h => h) (Or.inl ⟨rfl, rn⟩) ap ?_
      refine take_ (i := 1) (N := some 22) (v := ?_) (a' := ?_) #[true, true, true, false, true, false, false, false, false, false, false] rfl rfl (take_ofW HT_.out HW_.out (by kernel_rfl)) (fun _ _ _ h => h) (Or.inl ⟨by rfl, ?_⟩) hHeld ?_ ?_
      rotate_left
      ·rintro w' ⟨s0, s1, s2⟩
       go_simp
       with_reducible rfl
      rotate_left
      ·exact ap
      refine take_ (i := 3) (N := some 24) (v := ?_) (a' := ?_) #[true, true, true, true, true, false, false, false, false, false, false] rfl rfl (take_ofW HT_.out HW_.out (by kernel_rfl)) (fun _ _ _ h => h) (Or.inl ⟨by rfl, ?_⟩) hHeld ?_ ?_
      rotate_left
      ·rintro w' ⟨s0, s1, s2⟩
       go_simp
       with_reducible rfl
      rotate_left
      ·exact ap
      refine pure_ (i := 5) (N := some 26) #[true, true, true, true, true, true, false, false, false, false, false] rfl rfl (aT HT_.out) (fun _ _ _ h => h) (Or.inl ⟨rfl, rn⟩) ap ?_
      refine one_ (i := 6) (N := some 27) #[true, true, true, true, true, true, true, false, false, false, false] rfl rfl (one_of HT_.out (by kernel_rfl)) (by decide) (fun K hK => ?_)
      refine goes_ Tryd.func14 (by kernel_rfl) rfl #[.string a0_0, .slice A0_2 y318.length c0_2] (by rfl) rfl rfl ar ?_
      with_reducible refine (apply_All.calls k a0_0 _ _ y318 t322 t323 _ ?side1 ?side2 ?side3 A16.out).mono ?_
      (case side1 => repeat (first | exact (Kd.C_below HR321.out HB.out) | (with_reducible refine Kd.C_alloc ?_ _) | (with_reducible refine Kd.C_drewN ?_ _) | (with_reducible refine Kd.C_drew ?_)))
      (case side2 => exact HC321.out)
      (case side3 => exact Tabs.below HT.out bl)
      rintro e w23 ⟨rfl, hb⟩
      refine ⟨_, rfl, ?_⟩
      have n0_ := am (blk_below (g := gb316) (o := .cells #[.string a0_0, .slice A0_1 l0_1.length c0_1, .slice A0_2 l0_2.length c0_2] 42 (0, 0)) (by refine bk ?_; exact BK316.out) hb)
      have n1_ := am (below_step bl hb)
      clear BK316
      clear HB
      have BK316 := n0_
      have HB := n1_
      clear n0_ n1_
      (try clear hb)
      (try clear hb2)
      (try clear hk)
      (try clear hi)
      refine hK.out _ _ ⟨(blk_cell BK316.out 0).trans rfl, (blk_cell BK316.out 1).trans rfl, (blk_cell BK316.out 2).trans rfl⟩ (fun hHeld => ?_)
      clear hK K
      refine norm_ (a' := ?_) ?_ ?_
      rotate_left
      ·show Act.put _ (some 27) _ = _
       simp only [Act.put, List.setIfInBounds_toArray, List.set_cons_zero, List.set_cons_succ, i64_w, i32_w]
       rfl
      refine pure_ (i := 7) (N := some 28) #[true, true, true, true, true, true, true, true, false, false, false] rfl rfl (aT HT_.out) (fun _ _ _ h => h) (Or.inl ⟨rfl, rn⟩) ap ?_
      refine pure_ (i := 8) (N := some 29) #[true, true, true, true, true, true, true, true, true, false, false] rfl rfl (aT HT_.out) (fun _ _ _ h => h) (Or.inl ⟨rfl, rn⟩) ap ?_
      refine pure_ (i := 9) (N := some 4) #[true, true, true, true, true, true, true, true, true, true, false] rfl rfl (aT HT_.out) (fun _ _ _ h => h) (Or.inl ⟨rfl, rn⟩) ap ?_
      refine pure_ (i := 10) (N := some 5) #[true, true, true, true, true, true, true, true, true, true, true] rfl rfl (aT HT_.out) (fun _ _ _ h => h) (Or.inl ⟨rfl, rn⟩) ap ?_
      refine done_ (done_of HT_.out (by kernel_rfl)) ?_
      try go_wp2
      go_ret2
      exact ⟨by first | rfl | (simp [errW_none, errW_some] <;> rfl) | (simp [*, errW_none, errW_some] <;> rfl), bl⟩
     ·rw [if_neg c15] at H
      exact absurd H (by simp)
    ·rw [if_neg c14] at H
     exact absurd H (by simp)
 ·rw [if_neg c4] at H
  have c4b0 : (t317 == 0) = false := beq_eq_false_iff_ne.mpr c4
  have c4b1 : (t317 != 0) = true := bne_iff_ne.mpr c4
  simp only [Option.some.injEq, Prod.mk.injEq] at H
  obtain ⟨rfl, rfl⟩ := H
  go_enter Tryd.func27, Tryd.ntmps27
  go_wp2_with (first | ((with_reducible refine gate_dst (N := 2) rfl ?_); (try (refine gate_guard (by rfl) ?_; dsimp only)); refine box_event ?hg (N := 2) ?hd (cs := #[.string a0_0, .slice A0_1 l0_1.length c0_1, .slice A0_2 l0_2.length c0_2]) (t := 42) ?hr ?_; (case hd => rfl); (case hg => rfl); (case hr => first | (go_simp; done) | (go_simp; rfl)); intro gb316 hg w24 hbox hb; have n0_ := am (below_step bl hb); have n1_ := am (hbox); have n2_ := am ((gs : w.heap.size ≤ gb316)); have n3_ := am ((gs : w.heap.size ≤ gb316)); clear HB; have HB := n0_; have BK316 := n1_; have GW316 := n2_; have GE316 := n3_; clear n0_ n1_ n2_ n3_; clear hb hbox hg; have hcz25_0 : w24.cell? ⟨gb316, 0, none⟩ = some (.string a0_0) := (blk_cell BK316.out 0).trans rfl; have hcz25_1 : w24.cell? ⟨gb316, 1, none⟩ = some (.slice A0_1 l0_1.length c0_1) := (blk_cell BK316.out 1).trans rfl; have hcz25_2 : w24.cell? ⟨gb316, 2, none⟩ = some (.slice A0_2 l0_2.length c0_2) := (blk_cell BK316.out 2).trans rfl; have hfz25_0 := blk_frozen BK316.out 0; have hfz25_1 := blk_frozen BK316.out 1; have hfz25_2 := blk_frozen BK316.out 2) | ((with_reducible refine gate_callee (f := 66) rfl ?_); refine goesL_ (some 8) rfl rfl Tryd.func66 (by kernel_rfl) rfl #[.agg #[.string a0_0, .slice A0_1 l0_1.length c0_1, .slice A0_2 l0_2.length c0_2]] rfl ar ?_; (with_reducible refine (chain_May.calls k a0_0 _ _ l0_1 _ _ l0_2 t317 _ ?side1 ?side2 ?side3 ?side4 ?side5 A3.out).mono ?_); (case side1 => repeat (first | exact (Kd.C_below HR0_1.out HB.out) | (with_reducible refine Kd.C_alloc ?_ _) | (with_reducible refine Kd.C_drewN ?_ _) | (with_reducible refine Kd.C_drew ?_))); (case side2 => exact HC0_1.out); (case side3 => repeat (first | exact (Kd.C_below HR0_2.out HB.out) | (with_reducible refine Kd.C_alloc ?_ _) | (with_reducible refine Kd.C_drewN ?_ _) | (with_reducible refine Kd.C_drew ?_))); (case side4 => exact HC0_2.out); (case side5 => exact Tabs.below HT.out bl); rintro e w26 ⟨rfl, hb⟩; refine ⟨_, rfl, ?_⟩; have n0_ := am (blk_below (g := gb316) (o := .cells #[.string a0_0, .slice A0_1 l0_1.length c0_1, .slice A0_2 l0_2.length c0_2] 42 (0, 0)) (by refine bk ?_; exact BK316.out) hb); have n1_ := am (below_step bl hb); clear BK316; clear HB; have BK316 := n0_; have HB := n1_; clear n0_ n1_; (try clear hb); (try clear hb2); (try clear hk); (try clear hi)))
  go_ret2
  exact ⟨by first | rfl | (simp [errW_none, errW_some] <;> rfl) | (simp [*, errW_none, errW_some] <;> rfl), bl⟩
def chain_Sizes.f (k : Nat) (a0_0 : ByteArray) (l0_1 : List Int) (l0_2 : List (List (S25))) : Option (List Int × Int) := (chain_sizes.f k a0_0 l0_1 l0_2).bind fun bt325 => (some (bt325.1, bt325.2))
set_option maxHeartbeats 8000000 in
set_option maxRecDepth 100000 in
theorem chain_Sizes.calls (k : Nat) (a0_0 : ByteArray) (A0_1 : Option Addr) (c0_1 : Nat) (l0_1 : List Int) (A0_2 : Option Addr) (c0_2 : Nat) (l0_2 : List (List (S25))) (r1 : List Int) (r2 : Int) (w : World) (hr0_1 : Kd.C (Kd.int .i64) w A0_1 l0_1.length l0_1) (hc0_1 : l0_1.length ≤ c0_1) (hr0_2 : Kd.C (Kd.slice 25 k25) w A0_2 l0_2.length l0_2) (hc0_2 : l0_2.length ≤ c0_2) (hT : Tabs w) (h : chain_Sizes.f k a0_0 l0_1 l0_2 = some (r1, r2)) :
  Calls Tryd.prog 54 #[.agg #[.string a0_0, .slice A0_1 l0_1.length c0_1, .slice A0_2 l0_2.length c0_2]] w fun e w' => ∃ v0_ : Value, e = .returned (.tuple #[v0_, .int .i64 r2]) ∧ Kd.R (Kd.int .i64) 3 w' w.heap.size (fun _ => True) v0_ r1 ∧ Below w.heap.size w w' := by
 have HT := am hT
 clear hT
 have hu42 := Tryd.underlying42
 have HR0_1 := am hr0_1
 have HC0_1 := am hc0_1
 clear hr0_1 hc0_1
 have HR0_2 := am hr0_2
 have HC0_2 := am hc0_2
 clear hr0_2 hc0_2
 have HB := am (Below.refl w.heap.size w)
 have H : ((chain_sizes.f k a0_0 l0_1 l0_2).bind fun bt325 => (some (bt325.1, bt325.2))) = some (r1, r2) := h
 clear h
 replace H := Option.bind_eq_some_iff.mp H
 obtain ⟨⟨t325, t328⟩, A20, H⟩ := H
 replace H : (some (t325, t328)) = some (r1, r2) := H
 have A2 := am A20
 clear A20
 simp only [Option.some.injEq, Prod.mk.injEq] at H
 obtain ⟨rfl, rfl⟩ := H
 go_enter Tryd.func54, Tryd.ntmps54
 go_wp2_with (first | ((with_reducible refine gate_dst (N := 1) rfl ?_); refine box_event ?hg (N := 1) ?hd (cs := #[.string a0_0, .slice A0_1 l0_1.length c0_1, .slice A0_2 l0_2.length c0_2]) (t := 42) ?hr ?_; (case hd => rfl); (case hg => rfl); (case hr => first | (go_simp; done) | (go_simp; rfl)); intro gb324 hg w3 hbox hb; have n0_ := am (below_step bl hb); have n1_ := am (hbox); have n2_ := am ((gs : w.heap.size ≤ gb324)); have n3_ := am ((gs : w.heap.size ≤ gb324)); clear HB; have HB := n0_; have BK324 := n1_; have GW324 := n2_; have GE324 := n3_; clear n0_ n1_ n2_ n3_; clear hb hbox hg; have hcz4_0 : w3.cell? ⟨gb324, 0, none⟩ = some (.string a0_0) := (blk_cell BK324.out 0).trans rfl; have hcz4_1 : w3.cell? ⟨gb324, 1, none⟩ = some (.slice A0_1 l0_1.length c0_1) := (blk_cell BK324.out 1).trans rfl; have hcz4_2 : w3.cell? ⟨gb324, 2, none⟩ = some (.slice A0_2 l0_2.length c0_2) := (blk_cell BK324.out 2).trans rfl; have hfz4_0 := blk_frozen BK324.out 0; have hfz4_1 := blk_frozen BK324.out 1; have hfz4_2 := blk_frozen BK324.out 2) | ((with_reducible refine gate_callee (f := 88) rfl ?_); refine goesL_ (some 5) rfl rfl Tryd.func88 (by kernel_rfl) rfl #[.agg #[.string a0_0, .slice A0_1 l0_1.length c0_1, .slice A0_2 l0_2.length c0_2]] rfl ar ?_; (with_reducible refine (chain_sizes.calls k a0_0 _ _ l0_1 _ _ l0_2 t325 t328 _ ?side1 ?side2 ?side3 ?side4 ?side5 A2.out).mono ?_); (case side1 => repeat (first | exact (Kd.C_below HR0_1.out HB.out) | (with_reducible refine Kd.C_alloc ?_ _) | (with_reducible refine Kd.C_drewN ?_ _) | (with_reducible refine Kd.C_drew ?_))); (case side2 => exact HC0_1.out); (case side3 => repeat (first | exact (Kd.C_below HR0_2.out HB.out) | (with_reducible refine Kd.C_alloc ?_ _) | (with_reducible refine Kd.C_drewN ?_ _) | (with_reducible refine Kd.C_drew ?_))); (case side4 => exact HC0_2.out); (case side5 => exact Tabs.below HT.out bl); rintro e w5 ⟨v326, rfl, ho0, hb⟩; refine ⟨_, rfl, ?_⟩; have n0_ := am (Kd.R_lower ho0 (below_size bl)); have n1_ := am (blk_below (g := gb324) (o := .cells #[.string a0_0, .slice A0_1 l0_1.length c0_1, .slice A0_2 l0_2.length c0_2] 42 (0, 0)) (by refine bk ?_; exact BK324.out) hb); have n2_ := am (below_step bl hb); clear BK324; clear HB; have HO327 := n0_; have BK324 := n1_; have HB := n2_; clear n0_ n1_ n2_; (try clear hb); (try clear hb2); (try clear hk); (try clear hi); (try clear ho0)))
 go_ret2
 exact ⟨_, by first | rfl | (simp [errW_none, errW_some] <;> rfl) | (simp [*, errW_none, errW_some] <;> rfl), by refine kR ?_; exact HO327.out, bl⟩
def seek_Find.idx (r : Int) : List Int → Int → Int
 | [], _ => -1
 | x :: l, i => if x > r then i else seek_Find.idx r l (i + 1)
theorem seek_Find.idx_spec (r : Int) : ∀ (l : List Int) (i : Nat), (seek_Find.idx r l (i : Int) = -1 ∧ ∀ x ∈ l, x ≤ r) ∨ ∃ k, k < l.length ∧ seek_Find.idx r l (i : Int) = ((i + k : Nat) : Int) ∧ l.getD k 0 > r ∧ ∀ x ∈ l.take k, x ≤ r
 | [], _ => .inl ⟨rfl, fun _ h => by cases h⟩
 | x :: l, i => by
  by_cases h : x > r
  ·exact .inr ⟨0, by simp, by simp [seek_Find.idx, h], by simpa using h, by simp⟩
  ·have e1 : seek_Find.idx r (x :: l) (i : Int) = seek_Find.idx r l ((i + 1 : Nat) : Int) := by rw [seek_Find.idx, if_neg h]; rfl
   rw [e1]
   rcases seek_Find.idx_spec r l (i + 1) with ⟨a, b⟩ | ⟨k, hk, a, b, c⟩
   ·exact .inl ⟨a, fun y hy => by rcases List.mem_cons.1 hy with rfl | hy; exact Int.not_lt.1 h; exact b y hy⟩
   ·refine .inr ⟨k + 1, by simpa using hk, by rw [a]; congr 1; omega, by simpa using b, fun y hy => ?_⟩
    rw [List.take_succ_cons] at hy
    rcases List.mem_cons.1 hy with rfl | hy
    ·exact Int.not_lt.1 h
    ·exact c y hy
theorem seek_Find.idx_next (r : Int) (l : List Int) (j : Nat) (h : j < l.length) : seek_Find.idx r (l.drop j) (j : Int) = if rd l (j : Int) > r then (j : Int) else seek_Find.idx r (l.drop (j + 1)) ((j + 1 : Nat) : Int) := by
 rw [List.drop_eq_getElem_cons h, seek_Find.idx]
 have e : rd l (j : Int) = l[j] := by unfold rd; rw [Int.toNat_natCast, List.getD_eq_getElem?_getD, List.getElem?_eq_getElem h]; rfl
 rw [e]
 rfl
theorem seek_Find.less (x r : Int) (g : Nat) (w : World) (h : w.heap[g]? = some (.cells #[.int .i64 r] 3 (0, 0))) :
  Calls Tryd.prog 58 #[.int .i64 x, .pointer (some ⟨g, 0, none⟩)] w fun e w' => e = .returned (.bool (decide (x > r))) ∧ Below w.heap.size w w' := by
 have hc : w.cell? ⟨g, 0, none⟩ = some (.int .i64 r) := (blk_cell h 0).trans rfl
 have HB := am (Below.refl w.heap.size w)
 have e1 : decide (x > r) = decide (r < x) := rfl
 rw [e1]
 go_enter Tryd.func58, Tryd.ntmps58
 go_wp2
 go_ret
 exact ⟨by first | rfl | (simp; done), by repeat (first | exact HB.out | apply pw_below_drewN | apply below_drew1)⟩
set_option maxHeartbeats 8000000 in
set_option maxRecDepth 100000 in
theorem seek_Find.index (A0 : Option Addr) (c0 : Nat) (l0 : List Int) (r : Int) (g : Nat) (w : World) (hr0 : Kd.C (Kd.int .i64) w A0 l0.length l0) (hg : w.heap[g]? = some (.cells #[.int .i64 r] 3 (0, 0))) (hs : l0.length < 1000000000) :
  Calls Tryd.prog 57 #[.slice A0 l0.length c0, .func (Fn.func 58) #[] #[.pointer (some ⟨g, 0, none⟩)]] w fun e w' => e = .returned (.int .i64 (seek_Find.idx r l0 0)) ∧ Below w.heap.size w w' := by
 have HR0 := am hr0; have HZ := am hs; have HG := am hg
 obtain ⟨q, hr⟩ : ∃ q, seek_Find.idx r l0 0 = q := ⟨_, rfl⟩
 rw [hr]
 have H := am hr
 clear hr0 hs hr hg
 go_enter Tryd.func57, Tryd.ntmps57
 go_wp2
 go_loopw [5, 8] (fun _ v8 wr => ∃ j : Nat, v8 = .int .i64 j ∧ j ≤ l0.length ∧ Aside0 (seek_Find.idx r (l0.drop j) (j : Int) = q) ∧ Aside0 (Below w.heap.size w wr)) (fun _ v8 _ => l0.length - (intOf v8).toNat)
 case atStart => exact ⟨0, rfl, Nat.zero_le _, H, ⟨Below.refl _ _⟩⟩
 case round =>
  clear H
  obtain ⟨j, rfl, hj, HA, HB⟩ := hrel
  by_cases hlt : j < l0.length
  ·have hltb : decide ((j : Int) < (l0.length : Int)) = true := decide_eq_true (by omega)
   have HL := am hlt
   have h := HA.out
   clear HA
   rw [seek_Find.idx_next r l0 j hlt] at h
   obtain ⟨ad, rfl, hx0⟩ := Kd.at_int (Kd.C_below HR0.out HB.out) (j : Int) (by omega) (by omega)
   rw [Int.toNat_natCast] at hx0
   have p1 : (0 ≤ (j : Int)) = True := eq_true (by omega)
   have p2 : ((j : Int) < (l0.length : Int)) = True := eq_true (by omega)
   have p3 : (j < l0.length) = True := eq_true hlt
   have ew : wrap64 ((j : Int) + 1) = ((j + 1 : Nat) : Int) := by have := HZ.out; unfold wrap64; omega
   have HK := am (blk_below HG.out HB.out)
   by_cases he : rd l0 (j : Int) > r
   ·rw [if_pos he] at h
    have hd : decide (rd l0 (j : Int) > r) = true := decide_eq_true he
    have HD := am hd
    subst h
    clear hlt he hd
    go_wp2_with (go_at_call 58; (with_reducible refine (seek_Find.less _ r g _ HK.out).mono ?_); rintro e w1 ⟨rfl, hb⟩; rw [HD.out]; have HB1 := am (below_then HB.out HB.out.size hb); clear hb)
    go_ret
    exact ⟨rfl, HB1.out⟩
   ·rw [if_neg he] at h
    have hd : decide (rd l0 (j : Int) > r) = false := decide_eq_false he
    have HD := am hd
    have HE := am h
    clear hlt he h hd
    go_wp2_with (go_at_call 58; (with_reducible refine (seek_Find.less _ r g _ HK.out).mono ?_); rintro e w1 ⟨rfl, hb⟩; rw [HD.out]; have HB1 := am (below_then HB.out HB.out.size hb); clear hb)
    go_round
    case measure => exact op_sum.less HL.out ew
    case rel => exact ⟨j + 1, by rw [ew], HL.out, HE, HB1⟩
  ·have hltb : decide ((j : Int) < (l0.length : Int)) = false := decide_eq_false (by omega)
   have h := HA.out
   clear HA
   rw [List.drop_of_length_le (by omega), seek_Find.idx] at h
   subst h
   go_wp2
   go_ret
   exact ⟨rfl, HB.out⟩
def seek_Find.ab (l0 : List Int) (a1 : Int) : Int := if seek_Find.idx a1 l0 0 < 0 then (l0.length : Int) else seek_Find.idx a1 l0 0
def seek_Find.f (l0 : List Int) (a1 : Int) : Option (Int × Int × Int) :=
 if l0.length < 1000000000 then (if l0.length = 0 then some (0, 0, 6) else if seek_Find.ab l0 a1 = (l0.length : Int) ∧ rd l0 ((l0.length : Int) - 1) ≠ a1 then some (0, 0, 6) else if seek_Find.ab l0 a1 = 0 then some (0, 0, 11)
  else some (seek_Find.ab l0 a1 - 1, rd l0 (seek_Find.ab l0 a1 - 1), if rd l0 (seek_Find.ab l0 a1 - 1) = a1 then 0 else 10)) else none
set_option maxHeartbeats 8000000 in
set_option maxRecDepth 100000 in
theorem seek_Find.calls (A0 : Option Addr) (c0 : Nat) (l0 : List Int) (a1 : Int) (r1 r2 r3 : Int) (w : World) (hr0 : Kd.C (Kd.int .i64) w A0 l0.length l0) (hc0 : l0.length ≤ c0) (h : seek_Find.f l0 a1 = some (r1, r2, r3)) :
  Calls Tryd.prog 19 #[.slice A0 l0.length c0, .int .i64 a1] w fun e w' => e = .returned (.tuple #[.int .i64 r1, .int .i64 r2, .int .i64 r3]) ∧ Below w.heap.size w w' := by
 have hmf : ∀ (fn : Fn) (first cap : Array Value) (w : World), (Instr.makeFunc fn first cap).run Tryd.prog w = .ok (.func fn first cap) w := fun _ _ _ _ => rfl
 unfold seek_Find.f at h
 by_cases hs : l0.length < 1000000000
 ·rw [if_pos hs] at h
  have HR0 := am hr0; have HZ := am hs
  have HA := am (below_alloc (Below.refl w.heap.size w) (.cells #[.int .i64 a1] 3))
  have HG : Aside0 ((w.alloc (.cells #[.int .i64 a1] 3)).heap[w.heap.size]? = some (.cells #[.int .i64 a1] 3 (0, 0))) := ⟨heap_alloc_new w _⟩
  have HI := am (seek_Find.index A0 c0 l0 a1 w.heap.size (w.alloc (.cells #[.int .i64 a1] 3)) (Kd.C_below HR0.out HA.out) HG.out hs)
  obtain ⟨ix, hix⟩ : ∃ ix, seek_Find.idx a1 l0 0 = ix := ⟨_, rfl⟩
  have hib : -1 ≤ ix ∧ ix < (l0.length : Int) := by
   have := seek_Find.idx_spec a1 l0 0
   rw [show ((0 : Nat) : Int) = 0 from rfl, hix] at this
   rcases this with ⟨e, _⟩ | ⟨k, hk, e, _⟩ <;> omega
  rw [hix] at HI
  have hab : seek_Find.ab l0 a1 = if ix < 0 then (l0.length : Int) else ix := by unfold seek_Find.ab; rw [hix]
  rw [hab] at h
  have HIB := am hib
  clear hr0 hs hab hix hib
  by_cases z0 : l0.length = 0
  ·rw [if_pos z0] at h
   simp only [Option.some.injEq, Prod.mk.injEq] at h
   obtain ⟨rfl, rfl, rfl⟩ := h
   have zi : ix < 0 := by have := HIB.out; omega
   have z0b : ((l0.length : Int) == 0) = true := by simp [z0]
   have z0c : decide ((l0.length : Int) = 0) = true := by simp [z0]
   have zib : decide (ix < 0) = true := decide_eq_true zi
   clear z0 zi
   go_enter Tryd.func19, Tryd.ntmps19
   go_wp2_with (go_at_call 57; (with_reducible refine HI.out.mono ?_); rintro e w1 ⟨rfl, hb⟩; have HB1 := am (below_then HA.out HA.out.size hb); have HC1 := am (blk_below HG.out hb); clear hb)
   go_ret3
   exact ⟨rfl, HB1.out⟩
  ·rw [if_neg z0] at h
   have z0b : ((l0.length : Int) == 0) = false := by simp [z0]
   have z0c : decide ((l0.length : Int) = 0) = false := by simp [z0]
   by_cases zi : ix < 0
   ·rw [if_pos zi] at h
    have zib : decide (ix < 0) = true := decide_eq_true zi
    obtain ⟨m, hm⟩ : ∃ m, l0.length = m + 1 := ⟨l0.length - 1, by omega⟩
    have em : (l0.length : Int) - 1 = (m : Int) := by omega
    obtain ⟨ad, ead, hx0⟩ := Kd.at_int HR0.out (m : Int) (by omega) (by omega)
    rw [Int.toNat_natCast] at hx0
    subst ead
    have hp0 : (m < l0.length) = True := eq_true (by omega)
    have hp1 : ((m : Int) < (l0.length : Int)) = True := eq_true (by omega)
    have hw : wrap64 ((l0.length : Int) - 1) = (m : Int) := by rw [em]; have := HZ.out; unfold wrap64; omega
    have hw2 : IntKind.i64.wrap ((l0.length : Int) - 1) = (m : Int) := by rw [IntKind.wrap_i64, em]; have := HZ.out; omega
    rw [em] at h
    by_cases z1 : rd l0 (m : Int) = a1
    ·have z1b : (rd l0 (m : Int) != a1) = false := by simp [z1]
     have z2b : ((l0.length : Int) == 0) = false := by simp [z0]
     rw [if_neg (fun hh => hh.2 z1), if_neg (by omega), if_pos z1] at h
     simp only [Option.some.injEq, Prod.mk.injEq] at h
     obtain ⟨rfl, rfl, rfl⟩ := h
     have HX0 := am hx0
     clear z0 zi z1 hx0 em hm
     go_enter Tryd.func19, Tryd.ntmps19
     go_wp2_with (go_at_call 57; (with_reducible refine HI.out.mono ?_); rintro e w1 ⟨rfl, hb⟩; have HB1 := am (below_then HA.out HA.out.size hb); have HC1 := am (blk_below HG.out hb); clear hb)
     have hx1 : w1.drew.cell? _ = _ := (HB1.out.cell (World.block_lt_of_cell? w _ HX0.out)).trans HX0.out
     have hx2 : w1.drew.cell? ⟨w.heap.size, 0, none⟩ = some (.int .i64 a1) := (blk_cell HC1.out 0).trans rfl
     go_region
     go_wp2
     go_ret3
     exact ⟨rfl, below_drew1 HB1.out⟩
    ·have z1b : (rd l0 (m : Int) != a1) = true := by simp [z1]
     rw [if_pos ⟨rfl, z1⟩] at h
     simp only [Option.some.injEq, Prod.mk.injEq] at h
     obtain ⟨rfl, rfl, rfl⟩ := h
     have HX0 := am hx0
     clear z0 zi z1 hx0 em hm
     go_enter Tryd.func19, Tryd.ntmps19
     go_wp2_with (go_at_call 57; (with_reducible refine HI.out.mono ?_); rintro e w1 ⟨rfl, hb⟩; have HB1 := am (below_then HA.out HA.out.size hb); have HC1 := am (blk_below HG.out hb); clear hb)
     have hx1 : w1.drew.cell? _ = _ := (HB1.out.cell (World.block_lt_of_cell? w _ HX0.out)).trans HX0.out
     have hx2 : w1.drew.cell? ⟨w.heap.size, 0, none⟩ = some (.int .i64 a1) := (blk_cell HC1.out 0).trans rfl
     go_region
     go_wp2
     go_ret3
     exact ⟨rfl, below_drew1 HB1.out⟩
   ·rw [if_neg zi] at h
    have zib : decide (ix < 0) = false := decide_eq_false zi
    obtain ⟨m, hm⟩ : ∃ m : Nat, ix = (m : Int) := ⟨ix.toNat, by omega⟩
    subst hm
    have hlt : m < l0.length := by have := HIB.out; omega
    have z2 : ¬ ((m : Int) = (l0.length : Int)) := by omega
    have z2b : ((m : Int) == (l0.length : Int)) = false := by simp; omega
    rw [if_neg (fun hh => z2 hh.1)] at h
    by_cases z3 : (m : Int) = 0
    ·rw [if_pos z3] at h
     have z3b : ((m : Int) == 0) = true := by simp at z3 ⊢; exact z3
     simp only [Option.some.injEq, Prod.mk.injEq] at h
     obtain ⟨rfl, rfl, rfl⟩ := h
     clear z0 zi z2 z3 hlt
     go_enter Tryd.func19, Tryd.ntmps19
     go_wp2_with (go_at_call 57; (with_reducible refine HI.out.mono ?_); rintro e w1 ⟨rfl, hb⟩; have HB1 := am (below_then HA.out HA.out.size hb); have HC1 := am (blk_below HG.out hb); clear hb)
     go_region
     go_wp2
     go_ret3
     exact ⟨rfl, below_drew1 HB1.out⟩
    ·rw [if_neg z3] at h
     have z3b : ((m : Int) == 0) = false := by simp at z3 ⊢; exact z3
     obtain ⟨q, rfl⟩ : ∃ q, m = q + 1 := ⟨m - 1, by omega⟩
     have em : ((q + 1 : Nat) : Int) - 1 = (q : Int) := by omega
     obtain ⟨ad, ead, hx0⟩ := Kd.at_int HR0.out (q : Int) (by omega) (by omega)
     rw [Int.toNat_natCast] at hx0
     subst ead
     have hp0 : (q < l0.length) = True := eq_true (by omega)
     have hp1 : ((q : Int) < (l0.length : Int)) = True := eq_true (by omega)
     have hw : wrap64 (((q + 1 : Nat) : Int) - 1) = (q : Int) := by rw [em]; have := HZ.out; unfold wrap64; omega
     have hw2 : wrap64 ((q : Int) + 1 - 1) = (q : Int) := by have := HZ.out; unfold wrap64; omega
     have hw3 : wrap64 (q : Int) = (q : Int) := by have := HZ.out; unfold wrap64; omega
     have z3c : ((q : Int) + 1 == 0) = false := by simp; omega
     have z2c : ((q : Int) + 1 == (l0.length : Int)) = false := by simp; omega
     rw [em] at h
     by_cases z4 : rd l0 (q : Int) = a1
     ·have z4b : (rd l0 (q : Int) != a1) = false := by simp [z4]
      rw [if_pos z4] at h
      simp only [Option.some.injEq, Prod.mk.injEq] at h
      obtain ⟨rfl, rfl, rfl⟩ := h
      have HX0 := am hx0
      clear z0 zi z2 z3 z4 hlt hx0 em
      go_enter Tryd.func19, Tryd.ntmps19
      go_wp2_with (go_at_call 57; (with_reducible refine HI.out.mono ?_); rintro e w1 ⟨rfl, hb⟩; have HB1 := am (below_then HA.out HA.out.size hb); have HC1 := am (blk_below HG.out hb); clear hb)
      have hx1 : w1.drew.cell? _ = _ := (HB1.out.cell (World.block_lt_of_cell? w _ HX0.out)).trans HX0.out
      have hx2 : w1.drew.cell? ⟨w.heap.size, 0, none⟩ = some (.int .i64 a1) := (blk_cell HC1.out 0).trans rfl
      go_region
      go_wp2
      go_ret3
      exact ⟨by rw [← hw3]; simp only [hw3]; first | rfl | (simp [hw3]; done), below_drew1 HB1.out⟩
     ·have z4b : (rd l0 (q : Int) != a1) = true := by simp [z4]
      rw [if_neg z4] at h
      simp only [Option.some.injEq, Prod.mk.injEq] at h
      obtain ⟨rfl, rfl, rfl⟩ := h
      have HX0 := am hx0
      clear z0 zi z2 z3 z4 hlt hx0 em
      go_enter Tryd.func19, Tryd.ntmps19
      go_wp2_with (go_at_call 57; (with_reducible refine HI.out.mono ?_); rintro e w1 ⟨rfl, hb⟩; have HB1 := am (below_then HA.out HA.out.size hb); have HC1 := am (blk_below HG.out hb); clear hb)
      have hx1 : w1.drew.cell? _ = _ := (HB1.out.cell (World.block_lt_of_cell? w _ HX0.out)).trans HX0.out
      have hx2 : w1.drew.cell? ⟨w.heap.size, 0, none⟩ = some (.int .i64 a1) := (blk_cell HC1.out 0).trans rfl
      go_region
      go_wp2
      go_ret3
      exact ⟨by rw [← hw3]; simp only [hw3]; first | rfl | (simp [hw3]; done), below_drew1 HB1.out⟩
 ·rw [if_neg hs] at h; cases h
def epitometop_few.f (l0 : List Int) : Option (List Int) := if 0 ≤ (mn (l0.length : Int) 30) then (if (mn (l0.length : Int) 30) ≤ (l0.length : Int) then (some (l0.take ((mn (l0.length : Int) 30) : Int).toNat)) else (none)) else (none)
def server_after.f (a0 : Int) : Option (Int × Int) := if a0 ≥ 268435455 then (some (0, 2)) else (some (wrap64 (a0 + 1), 0))
set_option maxHeartbeats 8000000 in
set_option maxRecDepth 100000 in
theorem server_after.calls (a0 : Int) (r1 : Int) (r2 : Int) (w : World) (h : server_after.f a0 = some (r1, r2)) :
  Calls Tryd.prog 89 #[.int .i64 a0] w fun e w' => e = .returned (.tuple #[.int .i64 r1, .int .i64 r2]) ∧ Drawn0 w w' := by
 have H : (if a0 ≥ 268435455 then (some (0, 2)) else (some (wrap64 (a0 + 1), 0))) = some (r1, r2) := h
 clear h
 by_cases c2 : a0 ≥ 268435455
 ·rw [if_pos c2] at H
  have c2b0 : decide (268435455 ≤ a0) = true := decide_eq_true c2
  clear c2
  simp only [Option.some.injEq, Prod.mk.injEq] at H
  obtain ⟨rfl, rfl⟩ := H
  go_enter Tryd.func89, Tryd.ntmps89
  go_wp2
  go_ret2
  exact ⟨pj, by repeat (first | exact Drawn0.refl _ | apply Drawn0.step)⟩
 ·rw [if_neg c2] at H
  have c2b0 : decide (268435455 ≤ a0) = false := decide_eq_false c2
  clear c2
  simp only [Option.some.injEq, Prod.mk.injEq] at H
  obtain ⟨rfl, rfl⟩ := H
  go_enter Tryd.func89, Tryd.ntmps89
  go_wp2
  go_ret2
  exact ⟨pj, by repeat (first | exact Drawn0.refl _ | apply Drawn0.step)⟩
def fuse_Chain.l (k : Nat) : Int → List (List S25) → Option (Int × Int)
 | x, [] => some (x, 0)
 | x, y :: l => (fuse_next.f k x y).bind fun r => if r.2 = 0 then fuse_Chain.l k r.1 l else some (0, r.2)
def fuse_Chain.f (k : Nat) (a0 : Int) (l1 : List (List S25)) : Option (Int × Int) := if l1.length < 1000000000 then (op_Keep.f k a0).bind fun t => (if t.2 = 0 then fuse_Chain.l k a0 l1 else some (0, t.2)) else none
set_option maxHeartbeats 8000000 in
set_option maxRecDepth 100000 in
theorem fuse_Chain.fold (k : Nat) (xs : Int) (A1 : Option Addr) (c1 : Nat) (l1 : List (List S25)) (r1 : Int) (r2 : Int) (w : World)
  (hr1 : Kd.C (Kd.slice 25 k25) w A1 l1.length l1) (hs : l1.length < 1000000000) (hT : Tabs w) (h : fuse_Chain.l k xs l1 = some (r1, r2)) :
  Calls Tryd.prog 93 #[.int .i64 xs, .slice A1 l1.length c1, .func (Fn.func 94) #[] #[]] w fun e w' => e = .returned (.tuple #[.int .i64 r1, .int .i64 r2]) ∧ Below w.heap.size w w' := by
 have HR1 := am hr1; have HT := am hT; have HZ := am hs; have H := am h
 clear hr1 hT hs h
 go_enter Tryd.func93, Tryd.ntmps93
 go_wp2
 go_loopw [0, 9, 10, 11, 12, 15] (fun v0 _ _ _ _ v15 wr => ∃ j : Nat, v15 = .int .i64 j ∧ j ≤ l1.length ∧ ∃ x : Int, v0 = .int .i64 x ∧ Aside0 (fuse_Chain.l k x (l1.drop j) = some (r1, r2)) ∧ Aside0 (Below w.heap.size w wr)) (fun _ _ _ _ _ v15 _ => l1.length - (intOf v15).toNat)
 case atStart => exact ⟨0, rfl, Nat.zero_le _, xs, rfl, H, ⟨Below.refl _ _⟩⟩
 case round =>
  clear H
  obtain ⟨j, rfl, hj, x, rfl, HA, HW⟩ := hrel
  by_cases hlt : j < l1.length
  ·have hltb : decide ((j : Int) < (l1.length : Int)) = true := decide_eq_true (by omega)
   have HL := am hlt
   have h := HA.out
   clear HA
   rw [rows_next l1 j hlt, fuse_Chain.l] at h
   obtain ⟨r, hr, h2⟩ := Option.bind_eq_some_iff.mp h
   clear h
   obtain ⟨ad, Ay, cy, rfl, hx0, hcy, hCy⟩ := at_rows (Kd.C_below HR1.out HW.out) j hlt
   have p1 : (0 ≤ (j : Int)) = True := eq_true (by omega)
   have p2 : ((j : Int) < (l1.length : Int)) = True := eq_true (by omega)
   have p3 : (j < l1.length) = True := eq_true hlt
   have ew := fuse_Of.wrap hlt HZ.out
   have HCY := am hCy; have HCYY := am hcy; have HRR := am hr
   clear hlt hr hCy hcy hj
   generalize rowsAt l1 j = y at *
   by_cases z : r.2 = 0
   ·rw [if_pos z] at h2
    have zb : (r.2 != 0) = false := bne_eq_false_iff_eq.mpr z
    have HE := am h2
    clear h2 z
    go_wp2_with (go_at_call 94; (with_reducible refine (fuse_next.calls k x Ay cy y r.1 r.2 _ HCY.out HCYY.out (Tabs.below HT.out HW.out) HRR.out).mono ?_); rintro e w1 ⟨rfl, hb⟩; have HW1 := am (below_then HW.out HW.out.size hb); clear hb)
    go_round
    case measure => exact op_sum.less HL.out ew
    case rel => exact ⟨j + 1, by rw [ew], HL.out, r.1, rfl, HE, HW1⟩
   ·rw [if_neg z] at h2
    have zb : (r.2 != 0) = true := bne_iff_ne.mpr z
    simp only [Option.some.injEq, Prod.mk.injEq] at h2
    obtain ⟨rfl, rfl⟩ := h2
    clear z
    go_wp2_with (go_at_call 94; (with_reducible refine (fuse_next.calls k x Ay cy y r.1 r.2 _ HCY.out HCYY.out (Tabs.below HT.out HW.out) HRR.out).mono ?_); rintro e w1 ⟨rfl, hb⟩; have HW1 := am (below_then HW.out HW.out.size hb); clear hb)
    go_ret2
    exact ⟨rfl, HW1.out⟩
  ·have hltb : decide ((j : Int) < (l1.length : Int)) = false := decide_eq_false (by omega)
   have h := HA.out
   clear HA
   rw [List.drop_of_length_le (by omega), fuse_Chain.l] at h
   simp only [Option.some.injEq, Prod.mk.injEq] at h
   obtain ⟨rfl, rfl⟩ := h
   go_wp2
   go_ret2
   exact ⟨rfl, HW.out⟩
set_option maxHeartbeats 8000000 in
set_option maxRecDepth 100000 in
theorem fuse_Chain.calls (k : Nat) (a0 : Int) (A1 : Option Addr) (c1 : Nat) (l1 : List (List S25)) (r1 : Int) (r2 : Int) (w : World) (hr1 : Kd.C (Kd.slice 25 k25) w A1 l1.length l1) (hc1 : l1.length ≤ c1) (hT : Tabs w) (h : fuse_Chain.f k a0 l1 = some (r1, r2)) :
  Calls Tryd.prog 83 #[.int .i64 a0, .slice A1 l1.length c1] w fun e w' => e = .returned (.tuple #[.int .i64 r1, .int .i64 r2]) ∧ Below w.heap.size w w' := by
 unfold fuse_Chain.f at h
 by_cases c : l1.length < 1000000000
 ·rw [if_pos c] at h
  obtain ⟨t, ht, h⟩ := Option.bind_eq_some_iff.mp h
  have HR1 := am hr1; have HT := am hT; have HZ := am c; have HK := am ht
  clear hr1 hc1 hT c ht
  by_cases z : t.2 = 0
  ·rw [if_pos z] at h
   have zb : (t.2 != 0) = false := bne_eq_false_iff_eq.mpr z
   have H := am h
   clear h z
   go_enter Tryd.func83, Tryd.ntmps83
   go_wp2_with (first | (go_at_call 42; (with_reducible refine (op_Keep.calls k a0 t.1 t.2 _ HK.out).mono ?_); rintro e w1 ⟨v1, rfl, ho, hb⟩; have HB1 := am hb; clear ho hb) | (go_at_call 93; (with_reducible refine (fuse_Chain.fold k a0 A1 c1 l1 r1 r2 w1 (Kd.C_below HR1.out HB1.out) HZ.out (Tabs.below HT.out HB1.out) H.out).mono ?_); rintro e w2 ⟨rfl, hb⟩; have HB2 := am (below_then HB1.out HB1.out.size hb); clear hb))
   go_ret2
   exact ⟨rfl, HB2.out⟩
  ·rw [if_neg z] at h
   have zb : (t.2 != 0) = true := bne_iff_ne.mpr z
   simp only [Option.some.injEq, Prod.mk.injEq] at h
   obtain ⟨rfl, rfl⟩ := h
   clear z
   go_enter Tryd.func83, Tryd.ntmps83
   go_wp2_with (go_at_call 42; (with_reducible refine (op_Keep.calls k a0 t.1 t.2 _ HK.out).mono ?_); rintro e w1 ⟨v1, rfl, ho, hb⟩; have HB1 := am hb; clear ho hb)
   go_ret2
   exact ⟨rfl, HB1.out⟩
 ·rw [if_neg c] at h; cases h
def through_may.f (k : Nat) (l0 : List (S25)) (l1 : List (List (S25))) : Option (Int) := (op_May.f k l0).bind fun t191 => (if t191 = 0 then ((op_In.f l0).bind fun t192 => ((fuse_Chain.f k t192 l1).bind fun bt193 => (some bt193.2))) else (some t191))
set_option maxHeartbeats 8000000 in
set_option maxRecDepth 100000 in
theorem through_may.calls (k : Nat) (A0 : Option Addr) (c0 : Nat) (l0 : List (S25)) (A1 : Option Addr) (c1 : Nat) (l1 : List (List (S25))) (r : Int) (w : World) (hr0 : Kd.C k25 w A0 l0.length l0) (hc0 : l0.length ≤ c0) (hr1 : Kd.C (Kd.slice 25 k25) w A1 l1.length l1) (hc1 : l1.length ≤ c1) (hT : Tabs w) (h : through_may.f k l0 l1 = some r) :
  Calls Tryd.prog 45 #[.slice A0 l0.length c0, .slice A1 l1.length c1] w fun e w' => e = .returned (.int .i64 r) ∧ Below w.heap.size w w' := by
 have HT := am hT
 clear hT
 have HR0 := am hr0
 have HC0 := am hc0
 clear hr0 hc0
 have HR1 := am hr1
 have HC1 := am hc1
 clear hr1 hc1
 have HB := am (Below.refl w.heap.size w)
 have H : ((op_May.f k l0).bind fun t191 => (if t191 = 0 then ((op_In.f l0).bind fun t192 => ((fuse_Chain.f k t192 l1).bind fun bt193 => (some bt193.2))) else (some t191))) = some r := h
 clear h
 replace H := Option.bind_eq_some_iff.mp H
 obtain ⟨t191, A30, H⟩ := H
 replace H : (if t191 = 0 then ((op_In.f l0).bind fun t192 => ((fuse_Chain.f k t192 l1).bind fun bt193 => (some bt193.2))) else (some t191)) = some r := H
 have A3 := am A30
 clear A30
 by_cases c4 : t191 = 0
 ·rw [if_pos c4] at H
  have c4b0 : (t191 == 0) = true := beq_iff_eq.mpr c4
  have c4b1 : (t191 != 0) = false := bne_eq_false_iff_eq.mpr c4
  clear c4
  replace H := Option.bind_eq_some_iff.mp H
  obtain ⟨t192, A50, H⟩ := H
  replace H : ((fuse_Chain.f k t192 l1).bind fun bt193 => (some bt193.2)) = some r := H
  have A5 := am A50
  clear A50
  replace H := Option.bind_eq_some_iff.mp H
  obtain ⟨⟨t193, t194⟩, A60, H⟩ := H
  replace H : (some t194) = some r := H
  have A6 := am A60
  clear A60
  obtain rfl := Option.some.inj H
  simp only [Option.some.injEq, Prod.mk.injEq] at H
  obtain ⟨rfl⟩ := H
  go_enter Tryd.func45, Tryd.ntmps45
  go_wp2_with (first | ((with_reducible refine gate_callee (f := 46) rfl ?_); refine goesL_ (some 9) rfl rfl Tryd.func46 (by kernel_rfl) rfl #[.slice A0 l0.length c0] rfl ar ?_; (with_reducible refine (op_May.calls k _ _ l0 t191 _ ?side1 ?side2 ?side3 A3.out).mono ?_); (case side1 => repeat (first | exact HR0.out | (with_reducible refine Kd.C_alloc ?_ _) | (with_reducible refine Kd.C_drewN ?_ _) | (with_reducible refine Kd.C_drew ?_))); (case side2 => exact HC0.out); (case side3 => exact Tabs.below HT.out bl); rintro e w7 ⟨rfl, hb⟩; refine ⟨_, rfl, ?_⟩; have n0_ := am (below_step bl hb); clear HB; have HB := n0_; clear n0_; (try clear hb); (try clear hb2); (try clear hk); (try clear hi)) | ((with_reducible refine gate_callee (f := 20) rfl ?_); refine goesL_ (some 15) rfl rfl Tryd.func20 (by kernel_rfl) rfl #[.slice A0 l0.length c0] rfl ar ?_; (with_reducible refine (op_In.calls _ _ l0 t192 _ ?side1 ?side2 ?side3 A5.out).mono ?_); (case side1 => repeat (first | exact (Kd.C_below HR0.out HB.out) | (with_reducible refine Kd.C_alloc ?_ _) | (with_reducible refine Kd.C_drewN ?_ _) | (with_reducible refine Kd.C_drew ?_))); (case side2 => exact HC0.out); (case side3 => exact Tabs.below HT.out bl); rintro e w8 ⟨rfl, hb⟩; refine ⟨_, rfl, ?_⟩; have n0_ := am (below_step bl hb); clear HB; have HB := n0_; clear n0_; (try clear hb); (try clear hb2); (try clear hk); (try clear hi)) | ((with_reducible refine gate_callee (f := 83) rfl ?_); refine goesL_ (some 17) rfl rfl Tryd.func83 (by kernel_rfl) rfl #[.int .i64 t192, .slice A1 l1.length c1] rfl ar ?_; (with_reducible refine (fuse_Chain.calls k t192 _ _ l1 t193 t194 _ ?side1 ?side2 ?side3 A6.out).mono ?_); (case side1 => repeat (first | exact (Kd.C_below HR1.out HB.out) | (with_reducible refine Kd.C_alloc ?_ _) | (with_reducible refine Kd.C_drewN ?_ _) | (with_reducible refine Kd.C_drew ?_))); (case side2 => exact HC1.out); (case side3 => exact Tabs.below HT.out bl); rintro e w9 ⟨rfl, hb⟩; refine ⟨_, rfl, ?_⟩; have n0_ := am (below_step bl hb); clear HB; have HB := n0_; clear n0_; (try clear hb); (try clear hb2); (try clear hk); (try clear hi)))
  go_ret
  exact ⟨by first | rfl | (simp [errW_none, errW_some] <;> rfl) | (simp [*, errW_none, errW_some] <;> rfl), bl⟩
 ·rw [if_neg c4] at H
  have c4b0 : (t191 == 0) = false := beq_eq_false_iff_ne.mpr c4
  have c4b1 : (t191 != 0) = true := bne_iff_ne.mpr c4
  obtain rfl := Option.some.inj H
  simp only [Option.some.injEq, Prod.mk.injEq] at H
  obtain ⟨rfl⟩ := H
  go_enter Tryd.func45, Tryd.ntmps45
  go_wp2_with (first | ((with_reducible refine gate_callee (f := 46) rfl ?_); refine goesL_ (some 9) rfl rfl Tryd.func46 (by kernel_rfl) rfl #[.slice A0 l0.length c0] rfl ar ?_; (with_reducible refine (op_May.calls k _ _ l0 t191 _ ?side1 ?side2 ?side3 A3.out).mono ?_); (case side1 => repeat (first | exact HR0.out | (with_reducible refine Kd.C_alloc ?_ _) | (with_reducible refine Kd.C_drewN ?_ _) | (with_reducible refine Kd.C_drew ?_))); (case side2 => exact HC0.out); (case side3 => exact Tabs.below HT.out bl); rintro e w10 ⟨rfl, hb⟩; refine ⟨_, rfl, ?_⟩; have n0_ := am (below_step bl hb); clear HB; have HB := n0_; clear n0_; (try clear hb); (try clear hb2); (try clear hk); (try clear hi)))
  go_ret
  exact ⟨by first | rfl | (simp [errW_none, errW_some] <;> rfl) | (simp [*, errW_none, errW_some] <;> rfl), bl⟩
def through_Of.l (k : Nat) : List S25 → List (List S25) → Option (List S25)
 | s, [] => some s
 | s, x :: l => (over_Of.f k s x).bind fun r => through_Of.l k r.1 l
def through_Of.f (k : Nat) (l0 : List S25) (l1 : List (List S25)) : Option (List S25 × Int) :=
 if l1.length < 1000000000 then (through_may.f k l0 l1).bind fun e => (if e = 0 then (normal_Of.f l0).bind fun s => (through_Of.l k s l1).bind fun r => some (r, 0) else some ([], e)) else none
theorem through_Of.cut (ad : Addr) (n c j : Nat) (hj : j < n) (hc : n ≤ c) (W : World) : (Instr.slice 28 (.slice (some ad) n c) (some (.int .i64 (j : Int))) (some (.int .i64 ((j : Int) + 1))) (some (.int .i64 ((j : Int) + 1)))).run Tryd.prog W = .ok (.slice (some (ad.add j)) 1 1) W := by
 obtain ⟨i0, hi0, _, hsz, _⟩ := info_parts info27
 have hel : Tryd.prog.elem 28 = 27 := by simp [Program.elem, Tryd.underlying28]
 have hu : Tryd.prog.underlying 28 = some (.slice (Tryd.prog.elem 28)) := by rw [hel]; exact Tryd.underlying28
 rw [run_slice_lhm W 28 (some ad) n c hu .i64 .i64 .i64 (j : Int) ((j : Int) + 1) ((j : Int) + 1) (by omega) (by omega) (by omega) (by omega), hel]
 have e1 : ((j : Int) + 1).toNat = j + 1 := by omega
 have e2 : ((j : Int)).toNat = j := by omega
 simp [sizeOf, typeInfo, hi0, hsz, sliced, Result.andThen, e1, e2]
set_option maxHeartbeats 8000000 in
set_option maxRecDepth 100000 in
theorem through_Of.calls (k : Nat) (A0 : Option Addr) (c0 : Nat) (l0 : List S25) (A1 : Option Addr) (c1 : Nat) (l1 : List (List S25)) (r1 : List S25) (r2 : Int) (w : World) (hr0 : Kd.C k25 w A0 l0.length l0) (hc0 : l0.length ≤ c0) (hr1 : Kd.C (Kd.slice 25 k25) w A1 l1.length l1) (hc1 : l1.length ≤ c1) (hT : Tabs w) (h : through_Of.f k l0 l1 = some (r1, r2)) :
  Calls Tryd.prog 12 #[.slice A0 l0.length c0, .slice A1 l1.length c1] w fun e w' => ∃ v0_ : Value, e = .returned (.tuple #[v0_, .int .i64 r2]) ∧ Kd.R k25 25 w' w.heap.size (fun _ => True) v0_ r1 ∧ Below w.heap.size w w' := by
 unfold through_Of.f at h
 by_cases c : l1.length < 1000000000
 ·rw [if_pos c] at h
  obtain ⟨e0, he0, h⟩ := Option.bind_eq_some_iff.mp h
  have HR0 := am hr0; have HC0 := am hc0; have HR1 := am hr1; have HC1 := am hc1; have HT := am hT; have HE0 := am he0; have HZ := am c
  by_cases z0 : e0 = 0
  ·subst z0
   rw [if_pos rfl] at h
   obtain ⟨s0, hs0, h⟩ := Option.bind_eq_some_iff.mp h
   obtain ⟨r, hr, h⟩ := Option.bind_eq_some_iff.mp h
   simp only [Option.some.injEq, Prod.mk.injEq] at h
   obtain ⟨rfl, rfl⟩ := h
   have HS0 := am hs0; have HRR := am hr
   clear hr0 hc0 hr1 hc1 hT he0 hs0 hr c
   go_enter Tryd.func12, Tryd.ntmps12
   go_wp2_with (first | (go_at_call 45; (with_reducible refine (through_may.calls k A0 c0 l0 A1 c1 l1 0 _ HR0.out HC0.out HR1.out HC1.out HT.out HE0.out).mono ?_); rintro e w1 ⟨rfl, hb⟩; have HB1 := am hb; clear hb) | (go_at_call 33; (with_reducible refine (normal_Of.calls A0 c0 l0 s0 _ (Kd.C_below HR0.out HB1.out) HC0.out HS0.out).mono ?_); rintro e w2 ⟨v2, rfl, ho, hb⟩; have HO2 := am (Kd.R_lower ho HB1.out.size); have HB2 := am (below_then HB1.out HB1.out.size hb); clear ho hb))
   go_loopw [7, 8, 10, 21] (fun v7 _ _ v21 wr => ∃ j : Nat, v21 = .int .i64 j ∧ j ≤ l1.length ∧ ∃ s : List S25, Aside0 (through_Of.l k s (l1.drop j) = some r) ∧ Aside0 (Kd.R k25 25 wr w.heap.size (fun _ => True) v7 s) ∧ Aside0 (Below w.heap.size w wr)) (fun _ _ _ v21 _ => l1.length - (intOf v21).toNat)
   case atStart => exact ⟨0, rfl, Nat.zero_le _, s0, HRR, HO2, HB2⟩
   case round =>
    clear HRR HO2 HB2
    obtain ⟨j, rfl, hj, s, HA, HO, HW⟩ := hrel
    by_cases hlt : j < l1.length
    ·have hltb : decide ((j : Int) < (l1.length : Int)) = true := decide_eq_true (by omega)
     have HL := am hlt
     obtain ⟨ad, Ay, cy, rfl, hx0, hcy, hCy⟩ := at_rows HR1.out j hlt
     have hcut := through_Of.cut ad l1.length c1 j hlt HC1.out
     have ew := fuse_Of.wrap hlt HZ.out
     have p3 : (j < l1.length) = True := eq_true hlt
     have HX0 := am hx0; have HCY := am hCy; have HCYY := am hcy
     have HRN := am (rows_next l1 j hlt)
     clear hlt hCy hcy hj hx0
     generalize rowsAt l1 j = y at *
     have HA' := am (HRN.out ▸ HA.out)
     clear HA HRN
     go_wp2
     have EW := am ew
     clear ew
     go_loopw [7, 10, 32] (fun v7 _ v32 wi => ∃ i : Nat, v32 = .int .i64 i ∧ i ≤ 1 ∧ ∃ s' : List S25, Aside0 (through_Of.l k s' (if i = 0 then y :: l1.drop (j + 1) else l1.drop (j + 1)) = some r) ∧ Aside0 (Kd.R k25 25 wi w.heap.size (fun _ => True) v7 s') ∧ Aside0 (Below w.heap.size w wi)) (fun _ _ v32 _ => 1 - (intOf v32).toNat)
     case atStart => exact ⟨0, rfl, by omega, s, HA', HO, HW⟩
     case round =>
      clear HA' HO HW
      obtain ⟨i, rfl, hi, s', HA, HO, HW⟩ := hrel
      obtain ⟨As, cs, rfl, hcs, hCs⟩ := Kd.R_reads HO.out
      have HCS := am hcs; have HCC := am hCs
      clear hcs hCs
      rcases (by omega : i = 0 ∨ i = 1) with rfl | rfl
      ·have hx := cell_past HW.out HX0.out
       have h := HA.out
       clear HA
       rw [if_pos rfl, through_Of.l] at h
       obtain ⟨q, hq, h⟩ := Option.bind_eq_some_iff.mp h
       have HQ := am hq; have HE := am h
       clear hq h
       go_wp2_with (go_at_call 13; (with_reducible refine (over_Of.calls k As cs s' Ay cy y q.1 q.2 _ HCC.out HCS.out (Kd.C_below HCY.out HW.out) HCYY.out (Tabs.below HT.out HW.out) HQ.out).mono ?_); rintro e w3 ⟨v3, rfl, ho, hb⟩; have HO3 := am (Kd.R_lower ho HW.out.size); have HW3 := am (below_then HW.out HW.out.size hb); clear ho hb)
       go_round
       case measure => exact Nat.zero_lt_one
       case rel => exact ⟨1, rfl, by omega, q.1, HE, HO3, HW3⟩
      ·have h := HA.out
       clear HA
       rw [if_neg (by omega)] at h
       have HE := am h
       clear h
       go_wp2
       go_round
       case measure => exact op_sum.less HL.out EW.out
       case rel => exact ⟨j + 1, by rw [EW.out], HL.out, s', HE, HO, HW⟩
    ·have hltb : decide ((j : Int) < (l1.length : Int)) = false := decide_eq_false (by omega)
     have p3 : (j < l1.length) = False := eq_false hlt
     have h := HA.out
     clear HA
     rw [List.drop_of_length_le (by omega), through_Of.l] at h
     obtain rfl := Option.some.inj h
     go_wp2
     go_ret2
     exact ⟨_, rfl, HO.out, HW.out⟩
  ·rw [if_neg z0] at h
   have zb : (e0 != 0) = true := bne_iff_ne.mpr z0
   simp only [Option.some.injEq, Prod.mk.injEq] at h
   obtain ⟨rfl, rfl⟩ := h
   clear hr0 hc0 hr1 hc1 hT he0 z0
   go_enter Tryd.func12, Tryd.ntmps12
   go_wp2_with (go_at_call 45; (with_reducible refine (through_may.calls k A0 c0 l0 A1 c1 l1 e0 _ HR0.out HC0.out HR1.out HC1.out HT.out HE0.out).mono ?_); rintro e w1 ⟨rfl, hb⟩; have HB1 := am hb; clear hb)
   go_ret2
   exact ⟨_, rfl, Kd.R_nil _ _ _ _ _, HB1.out⟩
 ·rw [if_neg c] at h; cases h
theorem R_one {w : World} {b B : Nat} {n : Int} {ok : Nat → Prop} (h : w.heap[b]? = some (.cells #[.int .i64 n] 3 (0, 0))) (hB : B ≤ b) (hok : ok b) : Kd.R (Kd.int .i64) 3 w B ok (.slice (some ⟨b, 0, none⟩) 1 1) [n] := by
  refine ⟨fun k hk => ?_, [.int .i64 n], ⟨rfl, .inr ⟨b, 1, #[.int .i64 n], rfl, hB, h, Nat.le_refl _, by decide, rfl, rfl⟩⟩, rfl, fun j p hj => ?_⟩
  · have : b = k := by simpa [Value.ownBlock] using hk
    subst this; exact hok
  · cases j with
    | zero => have : n = p := by simpa using hj
              subst this; rfl
    | succ j => simp at hj
theorem history_cut (A : Option Addr) (n c m : Nat) (hm : m ≤ n) (hc : n ≤ c) (W : World) : (Instr.slice 28 (.slice A n c) (some (.int .i64 (m : Int))) none none).run Tryd.prog W = .ok (.slice (if c = m then A else A.map (·.add (m * 1))) (n - m) (c - m)) W := by
 obtain ⟨i0, hi0, _, hsz, _⟩ := info_parts info27
 have h := cut_from (P := Tryd.prog) 28 27 .i64 Tryd.underlying28 hi0 1 hsz A n c (m : Int) (by omega) (by omega) W
 rw [Int.toNat_natCast] at h
 exact h
end Go.Proofs.YtegjegihcebimaaDoor.P
end
section
namespace Go.Proofs.YtegjegihcebimaaDoorW.PrintWords
open Go.RowKit
namespace Kd
section
variable {P : Program} {ops : Array Oper} {o : Oper} {a : Act} {Q : Exit → Act → World → Prop} {Kc : Act → World → Prop} {α : Type}
theorem one_reads {R : α → List Value → Prop} {W : World} {b : Nat} {cs : List Value} {e n : Nat} {p : α} (hb : W.heap[b]? = some (.cells cs.toArray e (0, 0))) (hc : cs.length = n) (hp : R p cs) : ReadsRow R n W (some ⟨b, 0, none⟩) 1 [p] := by
 refine ⟨rfl, by decide, fun _ => ⟨_, rfl, fun j p' hj => ?_⟩⟩
 cases j with
 | zero =>
  have : p = p' := by simpa using hj
  subst this
  refine ⟨cs, hc, hp, fun i u hu => ?_⟩
  rw [add_at, Nat.zero_mul, Nat.zero_add, Nat.zero_add, blk_cell hb i, List.getElem?_toArray]
  exact hu
 | succ j => simp at hj
theorem S_append_box (d : Kd α) {w0 W : World} (base : Nat) (hw : Region.wanted o (yielded ops a.tmps) = true) (s x : Operand) (t e : TypeId) (z : Value) (bytes : Nat)
  (ho : o.op = .call { callee := .builtin .append, args := #[s, x], argTypes := #[t, t] })
  (ht : P.underlying t = some (.slice e)) (hinfo : (P.info? e).map (fun i => (i.zero, i.size, i.bytes)) = some (some z, d.sz, bytes)) (hz : z.cells.size = d.sz) (hs0 : 0 < d.sz) (hb0 : 0 < bytes)
  (v : Value) (xs : List α) (p : α) (cs : List Value) (b : Nat) (ok okp : Nat → Prop) (hs : a.eval s = v) (hx : a.eval x = .slice (some ⟨b, 0, none⟩) 1 1) (hbx : W.heap[b]? = some (.cells cs.toArray e (0, 0))) (hcs : cs.length = d.sz) (hp : d.M W base okp p cs) (hokp : ∀ k, okp k → ok k ∧ some k ≠ v.ownBlock) (hfresh : ∀ k, W.heap.size ≤ k → ok k)
  (HO : S d e W base (fun k => ok k ∧ ¬ okp k) v xs) (HB : Below base w0 W) (hbase : base ≤ W.heap.size) (hl : (xs.length + 1) * bytes ≤ 140737488355328)
  (h : ∀ v1 w1, S d e w1 base ok v1 (xs ++ [p]) → Below base w0 w1 → W.grownBy w1 v.ownBlock → (v1.ownBlock = v.ownBlock ∨ ∃ b, v1.ownBlock = some b ∧ W.heap.size ≤ b) → Kc (a.put o.dst v1) w1) :
  if Region.wanted o (yielded ops a.tmps) = true then Oper.wp P o a W Kc Q else Kc (a.put o.dst undef) W := by
 obtain ⟨f, hf, hR⟩ := S_tag HO xs.length okp (fun _ hk h2 => h2.2 hk)
 refine R_append_rows_step (tag f d) (Rr := fun x c => x = (p, xs.length) ∧ c = cs) base hw s x t e z bytes ho ht hinfo hz hs0 hb0 v xs.zipIdx [(p, xs.length)] (some ⟨b, 0, none⟩) 1 1 ok okp hs hx (R_mono hR (fun _ hk => hk.1)) (one_reads hbx hcs ⟨rfl, rfl⟩) ?_ hokp hfresh HB hbase (by rw [List.length_zipIdx]; exact hl) ?_
 ·rintro x c ⟨rfl, rfl⟩
  exact d.M_mono (fun k hk => ⟨hk, hf k hk⟩) hp
 ·intro v1 w1 hr
  rw [← zip_snoc] at hr
  exact h v1 w1 ⟨f, hr⟩
end
end Kd
end Go.Proofs.YtegjegihcebimaaDoorW.PrintWords
namespace Go.Proofs.YtegjegihcebimaaDoor.P
open Go.RowKit Go.Proofs.YtegjegihcebimaaDoorW.PrintWords Go.Proofs.YtegjegihcebimaaDoorW.PrintLast Go.Proofs.YtegjegihcebimaaDoorW.PrintMore
set_option linter.unusedVariables false
set_option linter.unusedSimpArgs false
theorem alloc_heap_size (w : World) (o : Obj) : (w.alloc o).heap.size = w.heap.size + 1 := by simp
end Go.Proofs.YtegjegihcebimaaDoor.P
end
section
namespace Go.Proofs.YtegjegihcebimaaDoor.P
open Go.RowKit Go.Proofs.YtegjegihcebimaaDoorW.PrintWords Go.Proofs.YtegjegihcebimaaDoorW.PrintLast Go.Proofs.YtegjegihcebimaaDoorW.PrintMore
attribute [local go_sem] max2_int min2_int max_two min_two max_three min_three max_four min_four
set_option linter.unusedVariables false
set_option linter.unusedSimpArgs false
theorem eql_nil (a : Option Addr) (l c : Nat) (W : World) : (binOp .eql 27 (.slice a l c) (.slice none 0 0)).run Tryd.prog W = .ok (.bool a.isNone) W := by
 simp only [binOp]
 simp [run_equal_slice_nil W 27 _ a l c Tryd.underlying27]
theorem R_none {w : World} {b B : Nat} {ok : Nat → Prop} (h : w.heap[b]? = some (.cells #[] 25 (0, 0))) (hB : B ≤ b) (hok : ok b) : Kd.R k25 25 w B ok (.slice (some ⟨b, 0, none⟩) 0 0) [] := by
 refine ⟨fun k hk => ?_, [], ⟨rfl, .inr ⟨b, 0, #[], rfl, hB, h, Nat.le_refl _, by decide, rfl, rfl⟩⟩, rfl, fun j p hj => by simp at hj⟩
 have : b = k := by simpa [Value.ownBlock] using hk
 subst this; exact hok
set_option maxHeartbeats 8000000 in
set_option maxRecDepth 100000 in
theorem slices_Clone.calls (A : Option Addr) (c : Nat) (l : List S25) (w : World) (hr : Kd.C k25 w A l.length l) (hc : l.length ≤ c) (hl : l.length < 1000000) :
  Calls Tryd.prog 64 #[.slice A l.length c] w fun e w' => ∃ v : Value, e = .returned v ∧ Kd.R k25 25 w' w.heap.size (fun _ => True) v l ∧ Below w.heap.size w w' := by
 cases A with
 | none =>
  have h0 : l = [] := by
   cases l with
   | nil => rfl
   | cons x l =>
    obtain ⟨ad, e, _⟩ := hr.2.2 (by simp)
    cases e
  subst h0
  have hq := fun W => eql_nil none 0 c W
  have HB := Aside0.mk (Below.refl w.heap.size w)
  clear hr hc hl
  go_enter Tryd.func64, Tryd.ntmps64
  go_wp2
  go_ret
  exact ⟨_, rfl, Kd.R_nil _ _ _ _ _, HB.out⟩
 | some ad =>
  have hq := fun W => eql_nil (some ad) l.length c W
  have HR := Aside0.mk (Kd.C_alloc hr (.cells #[] 25)); have HL := Aside0.mk hl
  have HO := Aside0.mk (R_none (ok := fun _ => True) (heap_alloc_new w (.cells #[] 25)) (Nat.le_refl _) trivial)
  have HB := Aside0.mk (below_alloc (Below.refl w.heap.size w) (.cells #[] 25))
  clear hr hc hl
  go_enter Tryd.func64, Tryd.ntmps64
  go_wp2_with ((with_reducible refine gate_builtin (b := .append) (xs := #[.tmp 5, .tmp 6]) rfl ?_); at_builtin; refine Kd.R_append_rows k25 (Rr := fun x cs => cs = [.int .i64 x.f0, .int .i64 x.f1, .string x.f2]) (w0 := w) w.heap.size rfl (.tmp 5) (.tmp 6) 27 25 (.agg #[(.int .i64 0), (.int .i64 0), (.string ⟨#[]⟩)]) 32 rfl Tryd.underlying27 info25 rfl (by decide) (by omega) (.slice (some ⟨w.heap.size, 0, none⟩) 0 0) [] l (some ad) l.length c (fun k_ => True) (fun _ => False) rfl rfl HO.out ?aR (fun x cs h => by subst h; exact k25_mkM _ _ _ x) (fun _ h => h.elim) (fun _ _ => trivial) HB.out (by simp) ?aL ?_; (case aR => exact ReadsRow.imp_ HR.out (Below.refl _ _) (fun x cs h => k25_open h)); (case aL => have := HL.out; simp only [List.length_nil]; omega); intro v1 w1 ho hb hg hat; have HO1 := Aside0.mk ho; have HB1 := Aside0.mk hb; clear ho hb hg hat)
  go_ret
  exact ⟨_, rfl, HO1.out, HB1.out⟩
end Go.Proofs.YtegjegihcebimaaDoor.P
end
