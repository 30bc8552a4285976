/- Part 9 of the proof of topLogs_holds: out of the texts that this session's programs wrote, what the theorem reaches. -/
import Derived.Test.YtegjegihcebimaaDoorZ2
import Derived.Test.YtegjegihcebimaaDoorZ3
import Derived.Test.YtegjegihcebimaaDoorZ4
import Derived.Test.YtegjegihcebimaaDoorZ5
import Derived.Test.YtegjegihcebimaaDoorZ8
section
namespace Go.Proofs.YtegjegihcebimaaDoor.P
open Go.RowKit Go.Proofs.YtegjegihcebimaaDoorW.PrintWords Go.Proofs.YtegjegihcebimaaDoorW.PrintLast Go.Proofs.YtegjegihcebimaaDoorW.PrintMore
attribute [local go_sem] max2_int min2_int max_two min_two max_three min_three max_four min_four
set_option linter.unusedVariables false
set_option linter.unusedSimpArgs false
def Fine (base : World) (v r : Value) : Prop := ∃ (fid : Nat) (caps : Array Value), v = .func (Fn.func fid) #[] caps ∧ (∀ (args : Array Value) (w : World), (callFunc fid args).run Tryd.prog w = .ok (.enter fid args) w) ∧ ∀ W, Below base.heap.size base W → Calls Tryd.prog fid caps W fun e w' => e = .returned r ∧ Below W.heap.size W w'
theorem Fine.below {base W : World} {v r : Value} (h : Fine base v r) (hb : Below base.heap.size base W) : Fine W v r := by
 obtain ⟨fid, caps, e, he, h⟩ := h
 exact ⟨fid, caps, e, he, fun W' hb' => h W' (below_then hb hb.size hb')⟩
set_option maxHeartbeats 8000000 in
set_option maxRecDepth 100000 in
theorem chain_is.inner (fid : Nat) (caps : Array Value) (x : Int) (g1 g2 : Nat) (w : World) (h1 : w.heap[g1]? = some (.cells #[.func (Fn.func fid) #[] caps] 22 (0, 0))) (h2 : w.heap[g2]? = some (.cells #[.int .i64 x] 29 (0, 0)))
  (hen : ∀ (args : Array Value) (w : World), (callFunc fid args).run Tryd.prog w = .ok (.enter fid args) w) (hso : ∀ W, Below w.heap.size w W → Calls Tryd.prog fid caps W fun e w' => e = .returned (.bool false) ∧ Below W.heap.size W w') :
  Calls Tryd.prog 109 #[.pointer (some ⟨g1, 0, none⟩), .pointer (some ⟨g2, 0, none⟩)] w fun e w' => e = .returned (.int .i64 0) ∧ Below w.heap.size w w' := by
 have hc1 : w.cell? ⟨g1, 0, none⟩ = some (.func (Fn.func fid) #[] caps) := (blk_cell h1 0).trans rfl
 have HS := am hso
 clear hso
 go_enter Tryd.func109, Tryd.ntmps109
 go_wp2_with (go_at_fn fid; (with_reducible refine (HS.out _ (Below.refl _ _)).mono ?_); rintro e w1 ⟨rfl, hb⟩; have HB1 := am hb; clear hb)
 go_ret
 exact ⟨rfl, HB1.out⟩
set_option maxHeartbeats 8000000 in
set_option maxRecDepth 100000 in
theorem chain_is.calls (v : Value) (x : Int) (w : World) (hso : Fine w v (.bool false)) :
  Calls Tryd.prog 99 #[v, .int .i64 x] w fun e w' => ∃ v', e = .returned v' ∧ Fine w' v' (.int .i64 0) ∧ Below w.heap.size w w' := by
 have hmf : ∀ (fn : Fn) (first cap : Array Value) (w : World), (Instr.makeFunc fn first cap).run Tryd.prog w = .ok (.func fn first cap) w := fun _ _ _ _ => rfl
 obtain ⟨fid, caps, rfl, hen, hso⟩ := hso
 have HS := am hso
 clear hso
 go_enter Tryd.func99, Tryd.ntmps99
 go_wp2
 go_ret
 have b2 : Below w.heap.size w ((w.alloc (.cells #[.func (Fn.func fid) #[] caps] 22)).alloc (.cells #[.int .i64 x] 29)) := (below_alloc (Below.refl _ _) _).alloc (by simp) _
 refine ⟨_, rfl, ⟨_, _, rfl, Go.Proofs.enters_of Tryd.func109 (by kernel_rfl) rfl, fun W hb => ?_⟩, b2⟩
 refine chain_is.inner fid caps x w.heap.size (w.heap.size + 1) W (blk_below (blk_alloc (heap_alloc_new w _) _) hb) (blk_below (by have := heap_alloc_new (w.alloc (.cells #[.func (Fn.func fid) #[] caps] 22)) (.cells #[.int .i64 x] 29); simpa using this) hb) hen (fun W' hb' => HS.out W' ?_)
 exact below_then (below_then b2 b2.size hb) (below_then b2 b2.size hb).size hb'
set_option maxHeartbeats 8000000 in
set_option maxRecDepth 100000 in
theorem chain_first.calls (g c : Nat) (vs : List Value) (w : World) (hl : vs.length < 1000) (hg : w.heap[g]? = some (.cells vs.toArray 163 (0, 0))) (hv : ∀ v ∈ vs, Fine w v (.int .i64 0)) :
  Calls Tryd.prog 98 #[.slice (some ⟨g, 0, none⟩) vs.length c] w fun e w' => e = .returned (.int .i64 0) ∧ Below w.heap.size w w' := by
 have HG := am hg; have HV := am hv; have HZ := am hl
 clear hg hv hl
 go_enter Tryd.func98, Tryd.ntmps98
 go_wp2
 go_loopw [4, 5, 8] (fun _ _ v8 wr => ∃ j : Nat, v8 = .int .i64 j ∧ j ≤ vs.length ∧ Aside0 (Below w.heap.size w wr)) (fun _ _ v8 _ => vs.length - (intOf v8).toNat)
 case atStart => exact ⟨0, rfl, Nat.zero_le _, ⟨Below.refl _ _⟩⟩
 case round =>
  obtain ⟨j, rfl, hj, HB⟩ := hrel
  by_cases hlt : j < vs.length
  ·have hltb : decide ((j : Int) < (vs.length : Int)) = true := decide_eq_true (by omega)
   have HL := am hlt
   have p2 : ((j : Int) < (vs.length : Int)) = True := eq_true (by omega)
   have p3 : (j < vs.length) = True := eq_true hlt
   have ew : wrap64 ((j : Int) + 1) = ((j + 1 : Nat) : Int) := by have := HZ.out; unfold wrap64; omega
   have hf := Fine.below (HV.out vs[j] (List.getElem_mem _)) HB.out
   obtain ⟨fid, caps, ev, hen, hf⟩ := hf
   have HF := am hf
   have hx0 : wr.cell? ⟨g, j, none⟩ = some (.func (Fn.func fid) #[] caps) := by
    rw [blk_cell (blk_below HG.out HB.out) j, ← ev]
    simp [hlt]
   clear hlt hf ev
   go_wp2_with (go_at_fn fid; (with_reducible refine (HF.out _ (Below.refl _ _)).mono ?_); rintro e w1 ⟨rfl, hb⟩; have HB1 := am (below_then HB.out HB.out.size hb); clear hb)
   go_round
   case measure => exact op_sum.less HL.out ew
   case rel => exact ⟨j + 1, by rw [ew], HL.out, HB1⟩
  ·have hltb : decide ((j : Int) < (vs.length : Int)) = false := decide_eq_false (by omega)
   go_wp2
   go_ret
   exact ⟨rfl, HB.out⟩
theorem chain_sizes.c1 (g : Nat) (n : Int) (w : World) (h : w.heap[g]? = some (.cells #[.int .i64 n] 3 (0, 0))) (h0 : 0 ≤ n) : Calls Tryd.prog 100 #[.pointer (some ⟨g, 0, none⟩)] w fun e w' => e = .returned (.bool false) ∧ Below w.heap.size w w' := by
 have hc : w.cell? ⟨g, 0, none⟩ = some (.int .i64 n) := (blk_cell h 0).trans rfl
 have hd : decide (n < 0) = false := decide_eq_false (by omega)
 have HB := am (Below.refl w.heap.size w)
 clear h0
 go_enter Tryd.func100, Tryd.ntmps100
 go_wp2
 go_ret
 exact ⟨by first | rfl | (simp; done), by repeat (first | exact HB.out | apply pw_below_drewN | apply below_drew1)⟩
theorem chain_sizes.c2 (g : Nat) (n : Int) (w : World) (h : w.heap[g]? = some (.cells #[.int .i64 n] 3 (0, 0))) (h0 : n ≤ 1048576) : Calls Tryd.prog 101 #[.pointer (some ⟨g, 0, none⟩)] w fun e w' => e = .returned (.bool false) ∧ Below w.heap.size w w' := by
 have hc : w.cell? ⟨g, 0, none⟩ = some (.int .i64 n) := (blk_cell h 0).trans rfl
 have hd : decide (1048576 < n) = false := decide_eq_false (by omega)
 have HB := am (Below.refl w.heap.size w)
 clear h0
 go_enter Tryd.func101, Tryd.ntmps101
 go_wp2
 go_ret
 exact ⟨by first | rfl | (simp; done), by repeat (first | exact HB.out | apply pw_below_drewN | apply below_drew1)⟩
theorem chain_sizes.c3 (g g1 : Nat) (s : ByteArray) (A1 A2 : Option Addr) (n m c1 c2 : Nat) (w : World) (h : w.heap[g]? = some (.cells #[.int .i64 0] 29 (0, 0))) (h1 : w.heap[g1]? = some (.cells #[.string s, .slice A1 n c1, .slice A2 m c2] 42 (0, 0))) (hn : n = m + 1) (hm : m < 1000000) :
  Calls Tryd.prog 102 #[.pointer (some ⟨g, 0, none⟩), .pointer (some ⟨g1, 0, none⟩)] w fun e w' => e = .returned (.bool false) ∧ Below w.heap.size w w' := by
 have hc : w.cell? ⟨g, 0, none⟩ = some (.int .i64 0) := (blk_cell h 0).trans rfl
 have hc1 : w.cell? ⟨g1, 1, none⟩ = some (.slice A1 n c1) := (blk_cell h1 1).trans rfl
 have hc2 : w.cell? ⟨g1, 2, none⟩ = some (.slice A2 m c2) := (blk_cell h1 2).trans rfl
 have hw : wrap64 ((m : Int) + 1) = (m : Int) + 1 := by unfold wrap64; omega
 have hd : ((n : Int) != (m : Int) + 1) = false := by rw [hn]; simp
 have HB := am (Below.refl w.heap.size w)
 clear hm hn
 go_enter Tryd.func102, Tryd.ntmps102
 go_wp2
 go_ret
 exact ⟨by first | rfl | (simp; done), by repeat (first | exact HB.out | apply pw_below_drewN | apply below_drew1)⟩
theorem chain_sizes.c4 (k : Nat) (g : Nat) (A : Option Addr) (c : Nat) (l : List S25) (w : World) (h : w.heap[g]? = some (.cells #[.slice A l.length c] 27 (0, 0))) (hr : Kd.C k25 w A l.length l) (hc : l.length ≤ c) (hT : Tabs w) (hm : op_May.f k l = some 0) :
  Calls Tryd.prog 103 #[.pointer (some ⟨g, 0, none⟩)] w fun e w' => e = .returned (.int .i64 0) ∧ Below w.heap.size w w' := by
 have hc : w.cell? ⟨g, 0, none⟩ = some (.slice A l.length c) := (blk_cell h 0).trans rfl
 have HR := am hr; have HC := am hc; have HT := am hT; have HM := am hm; have HL := am ‹l.length ≤ c›
 clear hr hT hm
 go_enter Tryd.func103, Tryd.ntmps103
 go_wp2_with (go_at_call 46; (with_reducible refine (op_May.calls k A c l 0 _ HR.out HL.out HT.out HM.out).mono ?_); rintro e w1 ⟨rfl, hb⟩; have HB1 := am hb; clear hb)
 go_ret
 exact ⟨rfl, HB1.out⟩
theorem chain_sizes.c6 (g : Nat) (A : Option Addr) (c : Nat) (l : List S25) (n : Int) (w : World) (h : w.heap[g]? = some (.cells #[.slice A l.length c] 27 (0, 0))) (hr : Kd.C k25 w A l.length l) (hc : l.length ≤ c) (hT : Tabs w) (hm : op_Out.f l = some n) (hn : n ≤ 1048576) :
  Calls Tryd.prog 105 #[.pointer (some ⟨g, 0, none⟩)] w fun e w' => e = .returned (.bool false) ∧ Below w.heap.size w w' := by
 have hc : w.cell? ⟨g, 0, none⟩ = some (.slice A l.length c) := (blk_cell h 0).trans rfl
 have hd : decide (1048576 < n) = false := decide_eq_false (by omega)
 have HR := am hr; have HC := am hc; have HT := am hT; have HM := am hm; have HL := am ‹l.length ≤ c›
 clear hr hT hm hn
 go_enter Tryd.func105, Tryd.ntmps105
 go_wp2_with (go_at_call 62; (with_reducible refine (op_Out.calls A c l n _ HR.out HL.out HT.out HM.out).mono ?_); rintro e w1 ⟨rfl, hb⟩; have HB1 := am hb; clear hb)
 go_ret
 exact ⟨by first | rfl | (simp; done), HB1.out⟩
theorem chain_sizes.c7 (k : Nat) (g : Nat) (A : Option Addr) (c : Nat) (l : List S25) (w : World) (h : w.heap[g]? = some (.cells #[.slice A l.length c] 27 (0, 0))) (hr : Kd.C k25 w A l.length l) (hc : l.length ≤ c) (hm : normal_Is.f k l = some true) :
  Calls Tryd.prog 106 #[.pointer (some ⟨g, 0, none⟩)] w fun e w' => e = .returned (.bool false) ∧ Below w.heap.size w w' := by
 have hc : w.cell? ⟨g, 0, none⟩ = some (.slice A l.length c) := (blk_cell h 0).trans rfl
 have HR := am hr; have HC := am hc; have HM := am hm; have HL := am ‹l.length ≤ c›
 clear hr hm
 go_enter Tryd.func106, Tryd.ntmps106
 go_wp2_with (go_at_call 107; (with_reducible refine (normal_Is.calls k A c l true _ HR.out HL.out HM.out).mono ?_); rintro e w1 ⟨rfl, hb⟩; have HB1 := am hb; clear hb)
 go_ret
 exact ⟨by first | rfl | (simp; done), HB1.out⟩
set_option maxHeartbeats 8000000 in
set_option maxRecDepth 100000 in
theorem chain_sizes.c5 (g g4 : Nat) (A : Option Addr) (c : Nat) (l : List S25) (n : Int) (w : World) (h : w.heap[g]? = some (.cells #[.slice A l.length c] 27 (0, 0))) (h4 : w.heap[g4]? = some (.cells #[.int .i64 n] 3 (0, 0))) (hr : Kd.C k25 w A l.length l) (hc : l.length ≤ c) (hT : Tabs w) (hm : op_In.f l = some n) :
  Calls Tryd.prog 104 #[.pointer (some ⟨g, 0, none⟩), .pointer (some ⟨g4, 0, none⟩)] w fun e w' => e = .returned (.bool false) ∧ Below w.heap.size w w' := by
 have HBD := am (below_drew1 (Below.refl w.heap.size w))
 have hc0 : w.drew.cell? ⟨g, 0, none⟩ = some (.slice A l.length c) := (blk_cell h 0).trans rfl
 have hc4 : w.drew.cell? ⟨g4, 0, none⟩ = some (.int .i64 n) := (blk_cell h4 0).trans rfl
 have hd : (n != n) = false := by simp
 have HRD := am (Kd.C_below hr HBD.out); have HTD := am (Tabs.below hT HBD.out); have HM := am hm; have HL := am hc; have H4 := am (blk_below h4 HBD.out)
 clear hr hT hm h h4
 go_enter Tryd.func104, Tryd.ntmps104
 go_wp2
 go_region_law (go_simp; go_at_call 20; (with_reducible refine (op_In.calls A c l n _ HRD.out HL.out HTD.out HM.out).mono ?_); rintro e w1 ⟨rfl, hb⟩; have HB1 := am (below_then HBD.out HBD.out.size hb); have cp1 : w1.cell? ⟨g4, 0, none⟩ = some (.int .i64 n) := (blk_cell (blk_below H4.out hb) 0).trans rfl; clear hb)
 all_goals go_wp2
 all_goals go_ret
 all_goals exact ⟨by first | rfl | (simp; done), HB1.out⟩
def chain_sizes.l (k : Nat) : Int → List (List S25) → List Int → Option (List Int)
 | _, [], out => some out
 | n, x :: l, out => (op_May.f k x).bind fun e => if e = 0 then (op_In.f x).bind fun m => (if m = n then (op_Out.f x).bind fun q => (if q ≤ 1048576 then (normal_Is.f k x).bind fun b => (if b = true then chain_sizes.l k q l (out ++ [q]) else none) else none) else none) else none
def chain_sizes.f (k : Nat) (s : ByteArray) (revs : List Int) (segs : List (List S25)) : Option (List Int × Int) :=
 if segs.length < 1000000 then (points_Count.f s).bind fun n => (if 0 ≤ n ∧ n ≤ 1048576 then (snap_PutRow.f revs).bind fun p => (if p.2 = 0 ∧ revs.length = segs.length + 1 then (chain_sizes.l k n segs [n]).bind fun o => some (o, 0) else none) else none) else none
theorem chain_sizes.fine {w : World} {fid : Nat} {caps : Array Value} {r : Value} (hen : ∀ (args : Array Value) (w : World), (callFunc fid args).run Tryd.prog w = .ok (.enter fid args) w) (h : ∀ W, Below w.heap.size w W → Calls Tryd.prog fid caps W fun e w' => e = .returned r ∧ Below W.heap.size W w') : Fine w (.func (Fn.func fid) #[] caps) r := ⟨fid, caps, rfl, hen, h⟩
set_option maxHeartbeats 8000000 in
set_option maxRecDepth 100000 in
theorem chain_sizes.calls (k : Nat) (a0_0 : ByteArray) (A0_1 : Option Addr) (c0_1 : Nat) (l0_1 : List Int) (A0_2 : Option Addr) (c0_2 : Nat) (l0_2 : List (List (S25))) (r1 : List Int) (r2 : Int) (w : World) (hr0_1 : Kd.C (Kd.int .i64) w A0_1 l0_1.length l0_1) (hc0_1 : l0_1.length ≤ c0_1) (hr0_2 : Kd.C (Kd.slice 25 k25) w A0_2 l0_2.length l0_2) (hc0_2 : l0_2.length ≤ c0_2) (hT : Tabs w) (h : chain_sizes.f k a0_0 l0_1 l0_2 = some (r1, r2)) :
  Calls Tryd.prog 88 #[.agg #[.string a0_0, .slice A0_1 l0_1.length c0_1, .slice A0_2 l0_2.length c0_2]] w fun e w' => ∃ v0_ : Value, e = .returned (.tuple #[v0_, .int .i64 r2]) ∧ Kd.R (Kd.int .i64) 3 w' w.heap.size (fun _ => True) v0_ r1 ∧ Below w.heap.size w w' := by
 have hmf : ∀ (fn : Fn) (first cap : Array Value) (w : World), (Instr.makeFunc fn first cap).run Tryd.prog w = .ok (.func fn first cap) w := fun _ _ _ _ => rfl
 unfold chain_sizes.f at h
 by_cases hs : l0_2.length < 1000000
 ·rw [if_pos hs] at h
  obtain ⟨n, hn, h⟩ := Option.bind_eq_some_iff.mp h
  by_cases hb : 0 ≤ n ∧ n ≤ 1048576
  ·rw [if_pos hb] at h
   obtain ⟨p, hp, h⟩ := Option.bind_eq_some_iff.mp h
   by_cases hq : p.2 = 0 ∧ l0_1.length = l0_2.length + 1
   ·rw [if_pos hq] at h
    obtain ⟨o, ho, h⟩ := Option.bind_eq_some_iff.mp h
    simp only [Option.some.injEq, Prod.mk.injEq] at h
    obtain ⟨rfl, rfl⟩ := h
    obtain ⟨rp, ep⟩ := p
    obtain ⟨rfl, hq⟩ := hq
    have HR1 := am hr0_1; have HC1 := am hc0_1; have HR2 := am hr0_2; have HC2 := am hc0_2; have HT := am hT; have HN := am hn; have HBD := am hb; have HP := am hp; have HQ := am hq; have HOO := am ho; have HZ := am hs
    have HB := am (Below.refl w.heap.size w)
    clear hr0_1 hc0_1 hr0_2 hc0_2 hT hn hb hp hq ho hs
    have HB0 := am (below_alloc (Below.refl w.heap.size w) (.cells #[.string a0_0, .slice A0_1 l0_1.length c0_1, .slice A0_2 l0_2.length c0_2] 42))
    have HG0 : Aside0 ((w.alloc (.cells #[.string a0_0, .slice A0_1 l0_1.length c0_1, .slice A0_2 l0_2.length c0_2] 42)).heap[w.heap.size]? = some (.cells #[.string a0_0, .slice A0_1 l0_1.length c0_1, .slice A0_2 l0_2.length c0_2] 42 (0, 0))) := ⟨heap_alloc_new w _⟩
    go_enter Tryd.func88, Tryd.ntmps88
    go_wp2_with (first | (go_at_call 10; (with_reducible refine (points_Count.calls a0_0 n _ (Tabs.below HT.out HB0.out) HN.out).mono ?_); rintro e w1 ⟨rfl, hb⟩; have HB1 := am (below_then HB0.out HB0.out.size hb); have HB2 := am (HB1.out.alloc HB1.out.size (.cells #[.int .i64 n] 3)); have HG2 : Aside0 ((w1.alloc (.cells #[.int .i64 n] 3)).heap[w.heap.size]? = some (.cells #[.string a0_0, .slice A0_1 l0_1.length c0_1, .slice A0_2 l0_2.length c0_2] 42 (0, 0))) := ⟨blk_alloc (blk_below HG0.out hb) _⟩; have HN2 : Aside0 ((w1.alloc (.cells #[.int .i64 n] 3)).heap[w1.heap.size]? = some (.cells #[.int .i64 n] 3 (0, 0))) := ⟨heap_alloc_new w1 _⟩; have cx1 : (w1.alloc (.cells #[.int .i64 n] 3)).cell? ⟨w.heap.size, 1, none⟩ = some (.slice A0_1 l0_1.length c0_1) := (blk_cell HG2.out 1).trans rfl; clear hb) | (go_at_call 97; (with_reducible refine (snap_PutRow.calls A0_1 c0_1 l0_1 rp 0 _ (Kd.C_below HR1.out HB2.out) HC1.out HP.out).mono ?_); rintro e w3 ⟨v3, rfl, ho3, hb⟩; have HB3 := am ((below_then HB2.out HB2.out.size hb).alloc (below_then HB2.out HB2.out.size hb).size (.cells #[.int .i64 0] 29)); have HG3 : Aside0 ((w3.alloc (.cells #[.int .i64 0] 29)).heap[w.heap.size]? = some (.cells #[.string a0_0, .slice A0_1 l0_1.length c0_1, .slice A0_2 l0_2.length c0_2] 42 (0, 0))) := ⟨blk_alloc (blk_below HG2.out hb) _⟩; have HN3 : Aside0 ((w3.alloc (.cells #[.int .i64 0] 29)).heap[w1.heap.size]? = some (.cells #[.int .i64 n] 3 (0, 0))) := ⟨blk_alloc (blk_below HN2.out hb) _⟩; have HE3 : Aside0 ((w3.alloc (.cells #[.int .i64 0] 29)).heap[w3.heap.size]? = some (.cells #[.int .i64 0] 29 (0, 0))) := ⟨heap_alloc_new w3 _⟩; clear hb ho3) | (go_at_call 99; (with_reducible refine (chain_is.calls (.func (Fn.func 100) #[] #[.pointer (some ⟨w1.heap.size, 0, none⟩)]) 3 _ ?sf).mono ?_); (case sf => exact chain_sizes.fine (Go.Proofs.enters_of Tryd.func100 (by kernel_rfl) rfl) (fun W hb => chain_sizes.c1 w1.heap.size n W (blk_below HN3.out hb) HBD.out.1)); rintro e w4 ⟨v4, rfl, hf, hb⟩; obtain ⟨f4, k4, ev, he⟩ := id hf; clear he; subst ev; have HF4 := am hf; have HB4 := am (below_then HB3.out HB3.out.size hb); have HG4 := am (blk_below HG3.out hb); have HN4 := am (blk_below HN3.out hb); have HE4 := am (blk_below HE3.out hb); clear hb hf) | (go_at_call 99; (with_reducible refine (chain_is.calls (.func (Fn.func 101) #[] #[.pointer (some ⟨w1.heap.size, 0, none⟩)]) 4 _ ?sf).mono ?_); (case sf => exact chain_sizes.fine (Go.Proofs.enters_of Tryd.func101 (by kernel_rfl) rfl) (fun W hb => chain_sizes.c2 w1.heap.size n W (blk_below HN4.out hb) HBD.out.2)); rintro e w5 ⟨v5, rfl, hf, hb⟩; obtain ⟨f5, k5, ev, he⟩ := id hf; clear he; subst ev; have HF5 := am hf; have HB5 := am (below_then HB4.out HB4.out.size hb); have HG5 := am (blk_below HG4.out hb); have HN5 := am (blk_below HN4.out hb); have HE5 := am (blk_below HE4.out hb); have HFa4 := am (Fine.below HF4.out hb); clear hb hf) | (go_at_call 99; (with_reducible refine (chain_is.calls (.func (Fn.func 102) #[] #[.pointer (some ⟨w3.heap.size, 0, none⟩), .pointer (some ⟨w.heap.size, 0, none⟩)]) 6 _ ?sf).mono ?_); (case sf => exact chain_sizes.fine (Go.Proofs.enters_of Tryd.func102 (by kernel_rfl) rfl) (fun W hb => chain_sizes.c3 w3.heap.size w.heap.size a0_0 A0_1 A0_2 l0_1.length l0_2.length c0_1 c0_2 W (blk_below HE5.out hb) (blk_below HG5.out hb) HQ.out HZ.out)); rintro e w6 ⟨v6, rfl, hf, hb⟩; obtain ⟨f6, k6, ev, he⟩ := id hf; clear he; subst ev; have HF6 := am hf; have HB6 := am (below_then HB5.out HB5.out.size hb); have HG6 := am (blk_below HG5.out hb); have HN6 := am (blk_below HN5.out hb); have HE6 := am (blk_below HE5.out hb); have HV6 : Aside0 (∀ v ∈ [.func (Fn.func f4) #[] k4, .func (Fn.func f5) #[] k5, .func (Fn.func f6) #[] k6], Fine (w6.alloc (.cells #[.func (Fn.func f4) #[] k4, .func (Fn.func f5) #[] k5, .func (Fn.func f6) #[] k6] 163)) v (.int .i64 0)) := ⟨by have ha := below_alloc (Below.refl w6.heap.size w6) (.cells #[.func (Fn.func f4) #[] k4, .func (Fn.func f5) #[] k5, .func (Fn.func f6) #[] k6] 163); intro v hv; simp only [List.mem_cons, List.not_mem_nil, or_false] at hv; rcases hv with rfl | rfl | rfl; exact Fine.below (Fine.below HFa4.out hb) ha; exact Fine.below (Fine.below HF5.out hb) ha; exact Fine.below hf ha⟩; clear hb hf) | (go_at_call 98; (refine (chain_first.calls w6.heap.size 3 [.func (Fn.func f4) #[] k4, .func (Fn.func f5) #[] k5, .func (Fn.func f6) #[] k6] _ (by simp) ?sg ?sv).mono ?_); (case sg => exact heap_alloc_new w6 _); (case sv => exact HV6.out); rintro e w7 ⟨rfl, hb⟩; have ha6 := HB6.out.alloc HB6.out.size (.cells #[.func (Fn.func f4) #[] k4, .func (Fn.func f5) #[] k5, .func (Fn.func f6) #[] k6] 163); have HB7 := am (below_then ha6 ha6.size hb); have HG7 := am (blk_below (blk_alloc HG6.out _) hb); have HN7 := am (blk_below (blk_alloc HN6.out _) hb); have cn7 : w7.cell? ⟨w1.heap.size, 0, none⟩ = some (.int .i64 n) := (blk_cell HN7.out 0).trans rfl; clear hb ha6) | ((with_reducible refine gate_dst (N := 33) rfl ?_); refine Kd.R_lit (Kd.int .i64) (w0 := w) w.heap.size 3 ?hg (N := 33) ?hd (xs := ([n] : List Int)) (inner := [.int .i64 n]) (ok := fun k => k ≠ w1.heap.size) (okp := fun k => k ≠ w1.heap.size) ?hr ?hp (fun _ hk => hk) ?hf HB7.out HB7.out.size (by simp) ?_; (case hd => rfl); (case hg => rfl); (case hr => first | (go_simp; done) | (go_simp; rfl)); (case hp => exact (Reps.one (show Kd.M (Kd.int .i64) _ _ _ n [.int .i64 n] from rfl) (Reps.none _ _))); (case hf => have := blk_lt HN7.out; omega); intro v8 w8 ho hb hg_ hnew_; have hk8 : Kept w7 w8 (fun _ => False) := Kept.of_grown hg_ (Kept.refl _ _) (fun k e => by cases e); have HO8 := am ho; have HB8 := am hb; have HN8 := am (blk_kept HN7.out hk8 (fun e => e)); have HG8 := am (blk_kept HG7.out hk8 (fun e => e)); have cx8 : w8.cell? ⟨w.heap.size, 2, none⟩ = some (.slice A0_2 l0_2.length c0_2) := (blk_cell HG8.out 2).trans rfl; clear ho hb hg_ hnew_ hk8))
    have HO0 := HOO
    clear HOO
    have HGW : Aside0 (w.heap.size ≤ w1.heap.size) := ⟨HB1.out.size⟩
    go_loopw [8, 10, 11, 37] (fun v8' _ _ v37 wr => ∃ (j : Nat) (m : Int) (out : List Int), v37 = .int .i64 j ∧ j ≤ l0_2.length ∧ Aside0 (chain_sizes.l k m (l0_2.drop j) out = some o) ∧ Aside0 (wr.heap[w1.heap.size]? = some (.cells #[.int .i64 m] 3 (0, 0))) ∧ Aside0 (Kd.R (Kd.int .i64) 3 wr w.heap.size (fun k => k ≠ w1.heap.size) v8' out) ∧ Aside0 (Below w.heap.size w wr) ∧ Aside0 (out.length ≤ j + 1)) (fun _ _ _ v37 _ => l0_2.length - (intOf v37).toNat)
    case atStart => exact ⟨0, n, [n], rfl, Nat.zero_le _, HO0, HN8, HO8, HB8, ⟨by simp⟩⟩
    case round =>
     clear HO0 HN8 HO8 HB8
     obtain ⟨j, m, out, rfl, hj, HA, HN9, HO9, HB9, HLN⟩ := hrel
     by_cases hlt : j < l0_2.length
     ·have hltb : decide ((j : Int) < (l0_2.length : Int)) = true := decide_eq_true (by omega)
      have HL := am hlt
      have h := HA.out
      clear HA
      rw [rows_next l0_2 j hlt, chain_sizes.l] at h
      obtain ⟨e1, he1, h⟩ := Option.bind_eq_some_iff.mp h
      by_cases z1 : e1 = 0
      ·subst z1
       rw [if_pos rfl] at h
       obtain ⟨m2, hm2, h⟩ := Option.bind_eq_some_iff.mp h
       by_cases z2 : m2 = m
       ·subst z2
        rw [if_pos rfl] at h
        obtain ⟨q, hq, h⟩ := Option.bind_eq_some_iff.mp h
        by_cases z3 : q ≤ 1048576
        ·rw [if_pos z3] at h
         obtain ⟨b4, hb4, h⟩ := Option.bind_eq_some_iff.mp h
         by_cases z4 : b4 = true
         ·subst z4
          rw [if_pos rfl] at h
          obtain ⟨ad, A, c, eA, hx, hcl, hC⟩ := at_rows (Kd.C_below HR2.out HB9.out) j hlt
          subst eA
          have HMY := am he1; have HIN := am hm2; have HOU := am hq; have HQB := am z3; have HIS := am hb4; have HH := am h; have HCL := am hcl
          have p2 : ((j : Int) < (l0_2.length : Int)) = True := eq_true (by omega)
          have p3 : (j < l0_2.length) = True := eq_true hlt
          have ew : Aside0 (wrap64 ((j : Int) + 1) = ((j + 1 : Nat) : Int)) := ⟨by have := HZ.out; unfold wrap64; omega⟩
          have HB10 := am (HB9.out.alloc HB9.out.size (.cells #[.slice A (rowsAt l0_2 j).length c] 27))
          have HX10 : Aside0 ((wr.alloc (.cells #[.slice A (rowsAt l0_2 j).length c] 27)).heap[wr.heap.size]? = some (.cells #[.slice A (rowsAt l0_2 j).length c] 27 (0, 0))) := ⟨heap_alloc_new wr _⟩
          have HN10 : Aside0 ((wr.alloc (.cells #[.slice A (rowsAt l0_2 j).length c] 27)).heap[w1.heap.size]? = some (.cells #[.int .i64 m2] 3 (0, 0))) := ⟨blk_alloc HN9.out _⟩
          have HC10 : Aside0 (Kd.C k25 (wr.alloc (.cells #[.slice A (rowsAt l0_2 j).length c] 27)) A (rowsAt l0_2 j).length (rowsAt l0_2 j)) := ⟨Kd.C_alloc hC _⟩
          have HO10 : Aside0 (Kd.R (Kd.int .i64) 3 (wr.alloc (.cells #[.slice A (rowsAt l0_2 j).length c] 27)) w.heap.size (fun k => k ≠ w1.heap.size) u8 out) := ⟨Kd.R_alloc HO9.out _⟩
          have HT10 : Aside0 (Tabs (wr.alloc (.cells #[.slice A (rowsAt l0_2 j).length c] 27))) := ⟨Tabs.below HT.out HB10.out⟩
          clear hlt h he1 hm2 hq z3 hb4 hcl hC
          go_wp2_with (first | (go_at_call 99; (with_reducible refine (chain_is.calls (.func (Fn.func 104) #[] #[.pointer (some ⟨wr.heap.size, 0, none⟩), .pointer (some ⟨w1.heap.size, 0, none⟩)]) 5 _ ?sf).mono ?_); (case sf => exact chain_sizes.fine (Go.Proofs.enters_of Tryd.func104 (by kernel_rfl) rfl) (fun W hb => chain_sizes.c5 wr.heap.size w1.heap.size A c _ m2 W (blk_below HX10.out hb) (blk_below HN10.out hb) (Kd.C_below HC10.out hb) HCL.out (Tabs.below HT10.out hb) HIN.out)); rintro e w11 ⟨v11, rfl, hf, hb⟩; obtain ⟨f11, k11, ev, he⟩ := id hf; clear he; subst ev; have HF11 := am hf; have HB11 := am (below_then HB10.out HB10.out.size hb); have HX11 := am (blk_below HX10.out hb); have HN11 := am (blk_below HN10.out hb); have HC11 := am (Kd.C_below HC10.out hb); have HO11 := am (Kd.R_below HO10.out hb); have HT11 := am (Tabs.below HT10.out hb); clear hb hf) | (go_at_call 99; (with_reducible refine (chain_is.calls (.func (Fn.func 105) #[] #[.pointer (some ⟨wr.heap.size, 0, none⟩)]) 4 _ ?sf).mono ?_); (case sf => exact chain_sizes.fine (Go.Proofs.enters_of Tryd.func105 (by kernel_rfl) rfl) (fun W hb => chain_sizes.c6 wr.heap.size A c _ q W (blk_below HX11.out hb) (Kd.C_below HC11.out hb) HCL.out (Tabs.below HT11.out hb) HOU.out HQB.out)); rintro e w12 ⟨v12, rfl, hf, hb⟩; obtain ⟨f12, k12, ev, he⟩ := id hf; clear he; subst ev; have HF12 := am hf; have HB12 := am (below_then HB11.out HB11.out.size hb); have HX12 := am (blk_below HX11.out hb); have HN12 := am (blk_below HN11.out hb); have HC12 := am (Kd.C_below HC11.out hb); have HO12 := am (Kd.R_below HO11.out hb); have HT12 := am (Tabs.below HT11.out hb); have HFa11 := am (Fine.below HF11.out hb); clear hb hf) | (go_at_call 99; (with_reducible refine (chain_is.calls (.func (Fn.func 106) #[] #[.pointer (some ⟨wr.heap.size, 0, none⟩)]) 8 _ ?sf).mono ?_); (case sf => exact chain_sizes.fine (Go.Proofs.enters_of Tryd.func106 (by kernel_rfl) rfl) (fun W hb => chain_sizes.c7 k wr.heap.size A c _ W (blk_below HX12.out hb) (Kd.C_below HC12.out hb) HCL.out HIS.out)); rintro e w13 ⟨v13, rfl, hf, hb⟩; obtain ⟨f13, k13, ev, he⟩ := id hf; clear he; subst ev; have HF13 := am hf; have HB13 := am (below_then HB12.out HB12.out.size hb); have HX13 := am (blk_below HX12.out hb); have HN13 := am (blk_below HN12.out hb); have HC13 := am (Kd.C_below HC12.out hb); have HO13 := am (Kd.R_below HO12.out hb); have HT13 := am (Tabs.below HT12.out hb); have HFa12 := am (Fine.below (Fine.below HFa11.out hb) (below_alloc (Below.refl _ _) (.cells #[.func (Fn.func 103) #[] #[.pointer (some ⟨wr.heap.size, 0, none⟩)], .func (Fn.func f11) #[] k11, .func (Fn.func f12) #[] k12, .func (Fn.func f13) #[] k13] 163))); have HFb12 := am (Fine.below (Fine.below HF12.out hb) (below_alloc (Below.refl _ _) (.cells #[.func (Fn.func 103) #[] #[.pointer (some ⟨wr.heap.size, 0, none⟩)], .func (Fn.func f11) #[] k11, .func (Fn.func f12) #[] k12, .func (Fn.func f13) #[] k13] 163))); have HFc12 := am (Fine.below hf (below_alloc (Below.refl _ _) (.cells #[.func (Fn.func 103) #[] #[.pointer (some ⟨wr.heap.size, 0, none⟩)], .func (Fn.func f11) #[] k11, .func (Fn.func f12) #[] k12, .func (Fn.func f13) #[] k13] 163))); have HFd12 : Aside0 (Fine (w13.alloc (.cells #[.func (Fn.func 103) #[] #[.pointer (some ⟨wr.heap.size, 0, none⟩)], .func (Fn.func f11) #[] k11, .func (Fn.func f12) #[] k12, .func (Fn.func f13) #[] k13] 163)) (.func (Fn.func 103) #[] #[.pointer (some ⟨wr.heap.size, 0, none⟩)]) (.int .i64 0)) := ⟨chain_sizes.fine (Go.Proofs.enters_of Tryd.func103 (by kernel_rfl) rfl) (fun W hb2 => chain_sizes.c4 k wr.heap.size A c _ W (blk_below (blk_alloc HX13.out _) hb2) (Kd.C_below (Kd.C_alloc HC13.out _) hb2) HCL.out (Tabs.below (Tabs.below HT13.out (below_alloc (Below.refl _ _) _)) hb2) HMY.out)⟩; clear hb hf) | (go_at_call 98; (refine (chain_first.calls w13.heap.size 4 [.func (Fn.func 103) #[] #[.pointer (some ⟨wr.heap.size, 0, none⟩)], .func (Fn.func f11) #[] k11, .func (Fn.func f12) #[] k12, .func (Fn.func f13) #[] k13] _ (by simp) ?sg ?sv).mono ?_); (case sg => exact heap_alloc_new w13 _); (case sv => intro v hv; simp only [List.mem_cons, List.not_mem_nil, or_false] at hv; rcases hv with rfl | rfl | rfl | rfl; exact HFd12.out; exact HFa12.out; exact HFb12.out; exact HFc12.out); rintro e w14 ⟨rfl, hb⟩; have ha := below_alloc (Below.refl w13.heap.size w13) (.cells #[.func (Fn.func 103) #[] #[.pointer (some ⟨wr.heap.size, 0, none⟩)], .func (Fn.func f11) #[] k11, .func (Fn.func f12) #[] k12, .func (Fn.func f13) #[] k13] 163); have hb2 := below_then ha (by simp) hb; have HB14 := am (below_then HB13.out HB13.out.size hb2); have HX14 := am (blk_below HX13.out hb2); have HN14 := am (blk_below HN13.out hb2); have HC14 := am (Kd.C_below HC13.out hb2); have HO14 := am (Kd.R_below HO13.out hb2); have HT14 := am (Tabs.below HT13.out hb2); have cx14 : w14.cell? ⟨wr.heap.size, 0, none⟩ = some (.slice A (rowsAt l0_2 j).length c) := (blk_cell HX14.out 0).trans rfl; clear hb ha hb2) | (go_at_call 62; (with_reducible refine (op_Out.calls A c (rowsAt l0_2 j) q _ HC14.out HCL.out HT14.out HOU.out).mono ?_); rintro e w15 ⟨rfl, hb⟩; have HB15 := am (below_then HB14.out HB14.out.size hb); have HN15 := am (blk_below HN14.out hb); have HO15 := am (Kd.R_below HO14.out hb); have cn15 : w15.cell? ⟨w1.heap.size, 0, none⟩ = some (.int .i64 m2) := (blk_cell HN15.out 0).trans rfl; have fn15 : w15.frozen? ⟨w1.heap.size, 0, none⟩ = false := blk_frozen HN15.out 0; have HN16 : Aside0 ((w15.setCell ⟨w1.heap.size, 0, none⟩ (.int .i64 q)).heap[w1.heap.size]? = some (.cells #[.int .i64 q] 3 (0, 0))) := ⟨blk_put HN15.out 0 _ rfl⟩; have cn16 : (w15.setCell ⟨w1.heap.size, 0, none⟩ (.int .i64 q)).cell? ⟨w1.heap.size, 0, none⟩ = some (.int .i64 q) := (blk_cell HN16.out 0).trans rfl; have HO16 := am (Kd.R_far (p := ⟨w1.heap.size, 0, none⟩) HO15.out (fun k hk => hk) (.int .i64 q)); have HB16 := am (HB15.out.setCell (p := ⟨w1.heap.size, 0, none⟩) HGW.out (.int .i64 q)); clear hb) | ((with_reducible refine gate_builtin (b := .append) (xs := #[.tmp 55, .tmp 57]) rfl ?_); at_builtin; refine Kd.R_append (Kd.int .i64) (w0 := w) w.heap.size rfl (.tmp 55) (.tmp 57) 38 3 (.int .i64 0) 8 rfl Tryd.underlying38 info3 rfl (by decide) (by omega) u8 out q [.int .i64 q] (fun k => k ≠ w1.heap.size) (fun _ => False) rfl ?hx ?aP (fun _ hk => hk.elim) ?aF ?aO ?aB ?aS ?aL ?_; (case hx => show Value.slice (some ⟨w15.heap.size, 0, none⟩) 1 1 = _; simp); (case aP => exact rfl); (case aB => exact HB16.out); (case aF => intro k hk; have := blk_lt HN16.out; omega); (case aO => exact HO16.out); (case aS => exact HB16.out.size); (case aL => have := HLN.out; have := HZ.out; have := HL.out; omega); intro v17 w17 ho hb hg hat; have HO17 := am ho; have HB17 := am hb; have HN17 := am (blk_kept HN16.out (Kept.of_grown (S := fun k => u8.ownBlock = some k) hg (Kept.refl _ _) (fun k e => .inl e)) (fun e => (HO16.out.1 _ e) rfl)); clear ho hb hg hat))
          go_roundw
          case rel => exact ⟨j + 1, q, out ++ [q], by rw [ew.out], HL.out, HH, HN17, HO17, HB17, ⟨by rw [List.length_append]; have := HLN.out; simp; omega⟩⟩
          case measure => exact op_sum.less HL.out ew.out
         ·rw [if_neg z4] at h; cases h
        ·rw [if_neg z3] at h; cases h
       ·rw [if_neg z2] at h; cases h
      ·rw [if_neg z1] at h; cases h
     ·have hltb : decide ((j : Int) < (l0_2.length : Int)) = false := decide_eq_false (by omega)
      have h := HA.out
      clear HA
      rw [List.drop_of_length_le (by omega), chain_sizes.l] at h
      obtain rfl := Option.some.inj h
      go_wp2
      go_ret2
      exact ⟨_, rfl, Kd.R_mono HO9.out (fun _ _ => trivial), HB9.out⟩
   ·rw [if_neg hq] at h; cases h
  ·rw [if_neg hb] at h; cases h
 ·rw [if_neg hs] at h; cases h
def chain_May.f (k : Nat) (a0_0 : ByteArray) (l0_1 : List Int) (l0_2 : List (List (S25))) : Option (Int) := (chain_sizes.f k a0_0 l0_1 l0_2).bind fun bt312 => (some bt312.2)
set_option maxHeartbeats 8000000 in
set_option maxRecDepth 100000 in
theorem chain_May.calls (k : Nat) (a0_0 : ByteArray) (A0_1 : Option Addr) (c0_1 : Nat) (l0_1 : List Int) (A0_2 : Option Addr) (c0_2 : Nat) (l0_2 : List (List (S25))) (r : Int) (w : World) (hr0_1 : Kd.C (Kd.int .i64) w A0_1 l0_1.length l0_1) (hc0_1 : l0_1.length ≤ c0_1) (hr0_2 : Kd.C (Kd.slice 25 k25) w A0_2 l0_2.length l0_2) (hc0_2 : l0_2.length ≤ c0_2) (hT : Tabs w) (h : chain_May.f k a0_0 l0_1 l0_2 = some r) :
  Calls Tryd.prog 66 #[.agg #[.string a0_0, .slice A0_1 l0_1.length c0_1, .slice A0_2 l0_2.length c0_2]] w fun e w' => e = .returned (.int .i64 r) ∧ Below w.heap.size w w' := by
 have HT := am hT
 clear hT
 have hu42 := Tryd.underlying42
 have HR0_1 := am hr0_1
 have HC0_1 := am hc0_1
 clear hr0_1 hc0_1
 have HR0_2 := am hr0_2
 have HC0_2 := am hc0_2
 clear hr0_2 hc0_2
 have HB := am (Below.refl w.heap.size w)
 have H : ((chain_sizes.f k a0_0 l0_1 l0_2).bind fun bt312 => (some bt312.2)) = some r := h
 clear h
 replace H := Option.bind_eq_some_iff.mp H
 obtain ⟨⟨t312, t315⟩, A20, H⟩ := H
 replace H : (some t315) = some r := H
 have A2 := am A20
 clear A20
 obtain rfl := Option.some.inj H
 simp only [Option.some.injEq, Prod.mk.injEq] at H
 obtain ⟨rfl⟩ := H
 go_enter Tryd.func66, Tryd.ntmps66
 go_wp2_with (first | ((with_reducible refine gate_dst (N := 1) rfl ?_); refine box_event ?hg (N := 1) ?hd (cs := #[.string a0_0, .slice A0_1 l0_1.length c0_1, .slice A0_2 l0_2.length c0_2]) (t := 42) ?hr ?_; (case hd => rfl); (case hg => rfl); (case hr => first | (go_simp; done) | (go_simp; rfl)); intro gb311 hg w3 hbox hb; have n0_ := am (below_step bl hb); have n1_ := am (hbox); have n2_ := am ((gs : w.heap.size ≤ gb311)); have n3_ := am ((gs : w.heap.size ≤ gb311)); clear HB; have HB := n0_; have BK311 := n1_; have GW311 := n2_; have GE311 := n3_; clear n0_ n1_ n2_ n3_; clear hb hbox hg; have hcz4_0 : w3.cell? ⟨gb311, 0, none⟩ = some (.string a0_0) := (blk_cell BK311.out 0).trans rfl; have hcz4_1 : w3.cell? ⟨gb311, 1, none⟩ = some (.slice A0_1 l0_1.length c0_1) := (blk_cell BK311.out 1).trans rfl; have hcz4_2 : w3.cell? ⟨gb311, 2, none⟩ = some (.slice A0_2 l0_2.length c0_2) := (blk_cell BK311.out 2).trans rfl; have hfz4_0 := blk_frozen BK311.out 0; have hfz4_1 := blk_frozen BK311.out 1; have hfz4_2 := blk_frozen BK311.out 2) | ((with_reducible refine gate_callee (f := 88) rfl ?_); refine goesL_ (some 7) rfl rfl Tryd.func88 (by kernel_rfl) rfl #[.agg #[.string a0_0, .slice A0_1 l0_1.length c0_1, .slice A0_2 l0_2.length c0_2]] rfl ar ?_; (with_reducible refine (chain_sizes.calls k a0_0 _ _ l0_1 _ _ l0_2 t312 t315 _ ?side1 ?side2 ?side3 ?side4 ?side5 A2.out).mono ?_); (case side1 => repeat (first | exact (Kd.C_below HR0_1.out HB.out) | (with_reducible refine Kd.C_alloc ?_ _) | (with_reducible refine Kd.C_drewN ?_ _) | (with_reducible refine Kd.C_drew ?_))); (case side2 => exact HC0_1.out); (case side3 => repeat (first | exact (Kd.C_below HR0_2.out HB.out) | (with_reducible refine Kd.C_alloc ?_ _) | (with_reducible refine Kd.C_drewN ?_ _) | (with_reducible refine Kd.C_drew ?_))); (case side4 => exact HC0_2.out); (case side5 => exact Tabs.below HT.out bl); rintro e w5 ⟨v313, rfl, ho0, hb⟩; refine ⟨_, rfl, ?_⟩; have n0_ := am (Kd.R_lower ho0 (below_size bl)); have n1_ := am (blk_below (g := gb311) (o := .cells #[.string a0_0, .slice A0_1 l0_1.length c0_1, .slice A0_2 l0_2.length c0_2] 42 (0, 0)) (by refine bk ?_; exact BK311.out) hb); have n2_ := am (below_step bl hb); clear BK311; clear HB; have HO314 := n0_; have BK311 := n1_; have HB := n2_; clear n0_ n1_ n2_; (try clear hb); (try clear hb2); (try clear hk); (try clear hi); (try clear ho0)))
 go_ret
 exact ⟨by first | rfl | (simp [errW_none, errW_some] <;> rfl) | (simp [*, errW_none, errW_some] <;> rfl), bl⟩
def chain_At.f (k : Nat) (a0_0 : ByteArray) (l0_1 : List Int) (l0_2 : List (List (S25))) (a1 : Int) : Option (ByteArray × Int) := (chain_May.f k a0_0 l0_1 l0_2).bind fun t317 => (if t317 = 0 then (if a1 < 0 then (some ((⟨#[]⟩ : ByteArray), 6)) else (if a1 > (l0_2.length : Int) then (some ((⟨#[]⟩ : ByteArray), 6)) else (if 0 ≤ a1 then (if a1 ≤ (l0_2.length : Int) then ((apply_All.f k a0_0 (l0_2.take (a1 : Int).toNat)).bind fun bt322 => (some (bt322.1, bt322.2))) else (none)) else (none)))) else (some ((⟨#[]⟩ : ByteArray), t317)))
def chain_At.T6 : Bool × List (List Nat × List Nat) := (true, [([], []), ([0], [0]), ([], []), ([2], [2]), ([], []), ([3, 4], [3, 4]), ([1, 5], [1, 5]), ([6], [6]), ([6], [6]), ([7, 6, 0, 1, 2, 3, 4, 5, 6, 7, 8], [7]), ([8, 9, 0, 1, 2, 3, 4, 5, 6, 7, 8, 9], [8])])
def chain_At.B6 : List Nat := [0, 1, 0, 4, 0, 28, 63, 127, 127, 511, 1023]
theorem chain_At.tab6 : rtab .any (opsOf Tryd.f27 6) = chain_At.T6 := by kernel_rfl
theorem chain_At.bits6 : waitsOk chain_At.T6.2 chain_At.B6 = true := by kernel_rfl
set_option maxHeartbeats 8000000 in
set_option maxRecDepth 100000 in
theorem chain_At.calls (k : Nat) (a0_0 : ByteArray) (A0_1 : Option Addr) (c0_1 : Nat) (l0_1 : List Int) (A0_2 : Option Addr) (c0_2 : Nat) (l0_2 : List (List (S25))) (a1 : Int) (r1 : ByteArray) (r2 : Int) (w : World) (hr0_1 : Kd.C (Kd.int .i64) w A0_1 l0_1.length l0_1) (hc0_1 : l0_1.length ≤ c0_1) (hr0_2 : Kd.C (Kd.slice 25 k25) w A0_2 l0_2.length l0_2) (hc0_2 : l0_2.length ≤ c0_2) (hT : Tabs w) (h : chain_At.f k a0_0 l0_1 l0_2 a1 = some (r1, r2)) :
  Calls Tryd.prog 27 #[.agg #[.string a0_0, .slice A0_1 l0_1.length c0_1, .slice A0_2 l0_2.length c0_2], .int .i64 a1] w fun e w' => e = .returned (.tuple #[.string r1, .int .i64 r2]) ∧ Below w.heap.size w w' := by
 have HT := am hT
 clear hT
 have hu42 := Tryd.underlying42
 have HR0_1 := am hr0_1
 have HC0_1 := am hc0_1
 clear hr0_1 hc0_1
 have HR0_2 := am hr0_2
 have HC0_2 := am hc0_2
 clear hr0_2 hc0_2
 have HB := am (Below.refl w.heap.size w)
 have H : ((chain_May.f k a0_0 l0_1 l0_2).bind fun t317 => (if t317 = 0 then (if a1 < 0 then (some ((⟨#[]⟩ : ByteArray), 6)) else (if a1 > (l0_2.length : Int) then (some ((⟨#[]⟩ : ByteArray), 6)) else (if 0 ≤ a1 then (if a1 ≤ (l0_2.length : Int) then ((apply_All.f k a0_0 (l0_2.take (a1 : Int).toNat)).bind fun bt322 => (some (bt322.1, bt322.2))) else (none)) else (none)))) else (some ((⟨#[]⟩ : ByteArray), t317)))) = some (r1, r2) := h
 clear h
 replace H := Option.bind_eq_some_iff.mp H
 obtain ⟨t317, A30, H⟩ := H
 try dsimp only at H
 have A3 := am A30
 clear A30
 by_cases c4 : t317 = 0
 ·rw [if_pos c4] at H
  have c4b0 : (t317 == 0) = true := beq_iff_eq.mpr c4
  have c4b1 : (t317 != 0) = false := bne_eq_false_iff_eq.mpr c4
  clear c4
  by_cases c5 : a1 < 0
  ·rw [if_pos c5] at H
   have c5b0 : decide (a1 < 0) = true := decide_eq_true c5
   clear c5
   simp only [Option.some.injEq, Prod.mk.injEq] at H
   obtain ⟨rfl, rfl⟩ := H
   go_enter Tryd.func27, Tryd.ntmps27
   go_wp2_with (first | ((with_reducible refine gate_dst (N := 2) rfl ?_); (try (refine gate_guard (by rfl) ?_; dsimp only)); refine box_event ?hg (N := 2) ?hd (cs := #[.string a0_0, .slice A0_1 l0_1.length c0_1, .slice A0_2 l0_2.length c0_2]) (t := 42) ?hr ?_; (case hd => rfl); (case hg => rfl); (case hr => first | (go_simp; done) | (go_simp; rfl)); intro gb316 hg w6 hbox hb; have n0_ := am (below_step bl hb); have n1_ := am (hbox); have n2_ := am ((gs : w.heap.size ≤ gb316)); have n3_ := am ((gs : w.heap.size ≤ gb316)); clear HB; have HB := n0_; have BK316 := n1_; have GW316 := n2_; have GE316 := n3_; clear n0_ n1_ n2_ n3_; clear hb hbox hg; have hcz7_0 : w6.cell? ⟨gb316, 0, none⟩ = some (.string a0_0) := (blk_cell BK316.out 0).trans rfl; have hcz7_1 : w6.cell? ⟨gb316, 1, none⟩ = some (.slice A0_1 l0_1.length c0_1) := (blk_cell BK316.out 1).trans rfl; have hcz7_2 : w6.cell? ⟨gb316, 2, none⟩ = some (.slice A0_2 l0_2.length c0_2) := (blk_cell BK316.out 2).trans rfl; have hfz7_0 := blk_frozen BK316.out 0; have hfz7_1 := blk_frozen BK316.out 1; have hfz7_2 := blk_frozen BK316.out 2) | ((with_reducible refine gate_callee (f := 66) rfl ?_); refine goesL_ (some 8) rfl rfl Tryd.func66 (by kernel_rfl) rfl #[.agg #[.string a0_0, .slice A0_1 l0_1.length c0_1, .slice A0_2 l0_2.length c0_2]] rfl ar ?_; (with_reducible refine (chain_May.calls k a0_0 _ _ l0_1 _ _ l0_2 t317 _ ?side1 ?side2 ?side3 ?side4 ?side5 A3.out).mono ?_); (case side1 => repeat (first | exact (Kd.C_below HR0_1.out HB.out) | (with_reducible refine Kd.C_alloc ?_ _) | (with_reducible refine Kd.C_drewN ?_ _) | (with_reducible refine Kd.C_drew ?_))); (case side2 => exact HC0_1.out); (case side3 => repeat (first | exact (Kd.C_below HR0_2.out HB.out) | (with_reducible refine Kd.C_alloc ?_ _) | (with_reducible refine Kd.C_drewN ?_ _) | (with_reducible refine Kd.C_drew ?_))); (case side4 => exact HC0_2.out); (case side5 => exact Tabs.below HT.out bl); rintro e w8 ⟨rfl, hb⟩; refine ⟨_, rfl, ?_⟩; have n0_ := am (blk_below (g := gb316) (o := .cells #[.string a0_0, .slice A0_1 l0_1.length c0_1, .slice A0_2 l0_2.length c0_2] 42 (0, 0)) (by refine bk ?_; exact BK316.out) hb); have n1_ := am (below_step bl hb); clear BK316; clear HB; have BK316 := n0_; have HB := n1_; clear n0_ n1_; (try clear hb); (try clear hb2); (try clear hk); (try clear hi)))
   go_ret2
   exact ⟨by first | rfl | (simp [errW_none, errW_some] <;> rfl) | (simp [*, errW_none, errW_some] <;> rfl), bl⟩
  ·rw [if_neg c5] at H
   have c5b0 : decide (a1 < 0) = false := decide_eq_false c5
   clear c5
   by_cases c9 : a1 > (l0_2.length : Int)
   ·rw [if_pos c9] at H
    have c9b0 : decide ((l0_2.length : Int) < a1) = true := decide_eq_true c9
    clear c9
    simp only [Option.some.injEq, Prod.mk.injEq] at H
    obtain ⟨rfl, rfl⟩ := H
    go_enter Tryd.func27, Tryd.ntmps27
    go_wp2_with (first | ((with_reducible refine gate_dst (N := 2) rfl ?_); (try (refine gate_guard (by rfl) ?_; dsimp only)); refine box_event ?hg (N := 2) ?hd (cs := #[.string a0_0, .slice A0_1 l0_1.length c0_1, .slice A0_2 l0_2.length c0_2]) (t := 42) ?hr ?_; (case hd => rfl); (case hg => rfl); (case hr => first | (go_simp; done) | (go_simp; rfl)); intro gb316 hg w10 hbox hb; have n0_ := am (below_step bl hb); have n1_ := am (hbox); have n2_ := am ((gs : w.heap.size ≤ gb316)); have n3_ := am ((gs : w.heap.size ≤ gb316)); clear HB; have HB := n0_; have BK316 := n1_; have GW316 := n2_; have GE316 := n3_; clear n0_ n1_ n2_ n3_; clear hb hbox hg; have hcz11_0 : w10.cell? ⟨gb316, 0, none⟩ = some (.string a0_0) := (blk_cell BK316.out 0).trans rfl; have hcz11_1 : w10.cell? ⟨gb316, 1, none⟩ = some (.slice A0_1 l0_1.length c0_1) := (blk_cell BK316.out 1).trans rfl; have hcz11_2 : w10.cell? ⟨gb316, 2, none⟩ = some (.slice A0_2 l0_2.length c0_2) := (blk_cell BK316.out 2).trans rfl; have hfz11_0 := blk_frozen BK316.out 0; have hfz11_1 := blk_frozen BK316.out 1; have hfz11_2 := blk_frozen BK316.out 2) | ((with_reducible refine gate_callee (f := 66) rfl ?_); refine goesL_ (some 8) rfl rfl Tryd.func66 (by kernel_rfl) rfl #[.agg #[.string a0_0, .slice A0_1 l0_1.length c0_1, .slice A0_2 l0_2.length c0_2]] rfl ar ?_; (with_reducible refine (chain_May.calls k a0_0 _ _ l0_1 _ _ l0_2 t317 _ ?side1 ?side2 ?side3 ?side4 ?side5 A3.out).mono ?_); (case side1 => repeat (first | exact (Kd.C_below HR0_1.out HB.out) | (with_reducible refine Kd.C_alloc ?_ _) | (with_reducible refine Kd.C_drewN ?_ _) | (with_reducible refine Kd.C_drew ?_))); (case side2 => exact HC0_1.out); (case side3 => repeat (first | exact (Kd.C_below HR0_2.out HB.out) | (with_reducible refine Kd.C_alloc ?_ _) | (with_reducible refine Kd.C_drewN ?_ _) | (with_reducible refine Kd.C_drew ?_))); (case side4 => exact HC0_2.out); (case side5 => exact Tabs.below HT.out bl); rintro e w12 ⟨rfl, hb⟩; refine ⟨_, rfl, ?_⟩; have n0_ := am (blk_below (g := gb316) (o := .cells #[.string a0_0, .slice A0_1 l0_1.length c0_1, .slice A0_2 l0_2.length c0_2] 42 (0, 0)) (by refine bk ?_; exact BK316.out) hb); have n1_ := am (below_step bl hb); clear BK316; clear HB; have BK316 := n0_; have HB := n1_; clear n0_ n1_; (try clear hb); (try clear hb2); (try clear hk); (try clear hi); have hcz13_0 : w12.cell? ⟨gb316, 0, none⟩ = some (.string a0_0) := (blk_cell BK316.out 0).trans rfl; have hcz13_1 : w12.cell? ⟨gb316, 1, none⟩ = some (.slice A0_1 l0_1.length c0_1) := (blk_cell BK316.out 1).trans rfl; have hcz13_2 : w12.cell? ⟨gb316, 2, none⟩ = some (.slice A0_2 l0_2.length c0_2) := (blk_cell BK316.out 2).trans rfl; have hfz13_0 := blk_frozen BK316.out 0; have hfz13_1 := blk_frozen BK316.out 1; have hfz13_2 := blk_frozen BK316.out 2))
    go_ret2
    exact ⟨by first | rfl | (simp [errW_none, errW_some] <;> rfl) | (simp [*, errW_none, errW_some] <;> rfl), bl⟩
   ·rw [if_neg c9] at H
    have c9b0 : decide ((l0_2.length : Int) < a1) = false := decide_eq_false c9
    clear c9
    by_cases c14 : 0 ≤ a1
    ·rw [if_pos c14] at H
     have c14b0 := eq_true c14
     have c14b1 : decide (0 ≤ a1) = true := decide_eq_true c14
     clear c14
     by_cases c15 : a1 ≤ (l0_2.length : Int)
     ·rw [if_pos c15] at H
      have c15b0 := eq_true c15
      have c15b1 : decide (a1 ≤ (l0_2.length : Int)) = true := decide_eq_true c15
      clear c15
      obtain ⟨y318, hy318⟩ : ∃ y_ : List (List (S25)), y_ = (l0_2.take (a1 : Int).toNat) := ⟨_, rfl⟩
      replace H : ((apply_All.f k a0_0 y318).bind fun bt322 => (some (bt322.1, bt322.2))) = some (r1, r2) := by first | (rw [hy318]; with_reducible exact H) | (have H2_ := (Option.bind_some _ _).symm.trans H; rw [hy318]; with_reducible exact H2_) | (have H2_ := (Option.bind_some _ _).symm.trans H; with_reducible exact H2_) | with_reducible exact H | (rw [hy318]; exact H) | exact H
      have Ny318 := am hy318
      clear hy318
      replace H := Option.bind_eq_some_iff.mp H
      obtain ⟨⟨t322, t323⟩, A160, H⟩ := H
      replace H : (some (t322, t323)) = some (r1, r2) := H
      have A16 := am A160
      clear A160
      simp only [Option.some.injEq, Prod.mk.injEq] at H
      obtain ⟨rfl, rfl⟩ := H
      go_enter Tryd.func27, Tryd.ntmps27
      try go_wp2_with (first | ((with_reducible refine gate_dst (N := 2) rfl ?_); (try (refine gate_guard (by rfl) ?_; dsimp only)); refine box_event ?hg (N := 2) ?hd (cs := #[.string a0_0, .slice A0_1 l0_1.length c0_1, .slice A0_2 l0_2.length c0_2]) (t := 42) ?hr ?_; (case hd => rfl); (case hg => rfl); (case hr => first | (go_simp; done) | (go_simp; rfl)); intro gb316 hg w17 hbox hb; have n0_ := am (below_step bl hb); have n1_ := am (hbox); have n2_ := am ((gs : w.heap.size ≤ gb316)); have n3_ := am ((gs : w.heap.size ≤ gb316)); clear HB; have HB := n0_; have BK316 := n1_; have GW316 := n2_; have GE316 := n3_; clear n0_ n1_ n2_ n3_; clear hb hbox hg; have hcz18_0 : w17.cell? ⟨gb316, 0, none⟩ = some (.string a0_0) := (blk_cell BK316.out 0).trans rfl; have hcz18_1 : w17.cell? ⟨gb316, 1, none⟩ = some (.slice A0_1 l0_1.length c0_1) := (blk_cell BK316.out 1).trans rfl; have hcz18_2 : w17.cell? ⟨gb316, 2, none⟩ = some (.slice A0_2 l0_2.length c0_2) := (blk_cell BK316.out 2).trans rfl; have hfz18_0 := blk_frozen BK316.out 0; have hfz18_1 := blk_frozen BK316.out 1; have hfz18_2 := blk_frozen BK316.out 2) | ((with_reducible refine gate_callee (f := 66) rfl ?_); refine goesL_ (some 8) rfl rfl Tryd.func66 (by kernel_rfl) rfl #[.agg #[.string a0_0, .slice A0_1 l0_1.length c0_1, .slice A0_2 l0_2.length c0_2]] rfl ar ?_; (with_reducible refine (chain_May.calls k a0_0 _ _ l0_1 _ _ l0_2 t317 _ ?side1 ?side2 ?side3 ?side4 ?side5 A3.out).mono ?_); (case side1 => repeat (first | exact (Kd.C_below HR0_1.out HB.out) | (with_reducible refine Kd.C_alloc ?_ _) | (with_reducible refine Kd.C_drewN ?_ _) | (with_reducible refine Kd.C_drew ?_))); (case side2 => exact HC0_1.out); (case side3 => repeat (first | exact (Kd.C_below HR0_2.out HB.out) | (with_reducible refine Kd.C_alloc ?_ _) | (with_reducible refine Kd.C_drewN ?_ _) | (with_reducible refine Kd.C_drew ?_))); (case side4 => exact HC0_2.out); (case side5 => exact Tabs.below HT.out bl); rintro e w19 ⟨rfl, hb⟩; refine ⟨_, rfl, ?_⟩; have n0_ := am (blk_below (g := gb316) (o := .cells #[.string a0_0, .slice A0_1 l0_1.length c0_1, .slice A0_2 l0_2.length c0_2] 42 (0, 0)) (by refine bk ?_; exact BK316.out) hb); have n1_ := am (below_step bl hb); clear BK316; clear HB; have BK316 := n0_; have HB := n1_; clear n0_ n1_; (try clear hb); (try clear hb2); (try clear hk); (try clear hi); have hcz20_0 : w19.cell? ⟨gb316, 0, none⟩ = some (.string a0_0) := (blk_cell BK316.out 0).trans rfl; have hcz20_1 : w19.cell? ⟨gb316, 1, none⟩ = some (.slice A0_1 l0_1.length c0_1) := (blk_cell BK316.out 1).trans rfl; have hcz20_2 : w19.cell? ⟨gb316, 2, none⟩ = some (.slice A0_2 l0_2.length c0_2) := (blk_cell BK316.out 2).trans rfl; have hfz20_0 := blk_frozen BK316.out 0; have hfz20_1 := blk_frozen BK316.out 1; have hfz20_2 := blk_frozen BK316.out 2))
      have n0_ := am (blk_drew BK316.out)
      have n1_ := am (below_drew1 HB.out)
      clear BK316
      clear HB
      have BK316 := n0_
      have HB := n1_
      clear n0_ n1_
      have q22 : (a1 : Int) ≤ ((l0_2.length : Int) : Int) := of_decide_eq_true as0
      obtain ⟨i022, hi022, _, hsz22, _⟩ := info_parts info27
      have hroom22 : l0_2.length ≤ c0_2 := HC0_2.out
      have hC22 : Kd.C (Kd.slice 25 k25) _ A0_2 l0_2.length l0_2 := HR0_2.out
      have hcut22 := cut_to (P := Tryd.prog) 28 27 .i64 Tryd.underlying28 hi022 A0_2 l0_2.length c0_2 a1 (of_decide_eq_true as0) q22 hroom22
      have hr22 := Kd.C_take (m := (a1 : Int).toNat) hC22 (by omega)
      have hy22 : y318.length = (a1 : Int).toNat := (by rw [Ny318.out, List.length_take]; omega)
      rw [← Ny318.out] at hr22
      rw [← hy22] at hcut22
      have HR321 := am hr22
      have HC321 := am (show y318.length ≤ c0_2 from by omega)
      clear hr22 hC22 hroom22 hi022 hsz22
      have KY22 := am hy22
      clear hy22
      replace q22 := eq_true q22
      refine start_ (n := 11) (S := fun w' => w'.cell? ⟨gb316, 0, none⟩ = some (.string a0_0) ∧ w'.cell? ⟨gb316, 1, none⟩ = some (.slice A0_1 l0_1.length c0_1) ∧ w'.cell? ⟨gb316, 2, none⟩ = some (.slice A0_2 l0_2.length c0_2)) (ds := []) #[false, false, false, false, false, false, false, false, false, false, false] (by kernel_rfl) rfl rfl ⟨(blk_cell BK316.out 0).trans rfl, (blk_cell BK316.out 1).trans rfl, (blk_cell BK316.out 2).trans rfl⟩ (fun hHeld => ?_); refine with_tabW chain_At.tab6 chain_At.bits6 (fun HT_ HW_ => ?_)
      generalize w19.drew = w21 at BK316 HB HR321 hHeld ⊢
      refine pure_ (i := 0) (N := some 21) #[true, false, false, false, false, false, false, false, false, false, false] rfl rfl (aT HT_.out) (fun _ _ _ h => h) (Or.inl ⟨rfl, rn⟩) ap ?_
      refine pure_ (i := 2) (N := some 23) #[true, false, true, false, false, false, false, false, false, false, false] rfl rfl (aT HT_.out) (fun _ _ _ h => h) (Or.inl ⟨rfl, rn⟩) ap ?_
      refine pure_ (i := 4) (N := some 25) #[true, false, true, false, true, false, false, false, false, false, false] rfl rfl (aT HT_.out) (fun _ _ _ h => h) (Or.inl ⟨rfl, rn⟩) ap ?_
      refine take_ (i := 1) (N := some 22) (v := ?_) (a' := ?_) #[true, true, true, false, true, false, false, false, false, false, false] rfl rfl (take_ofW HT_.out HW_.out (by kernel_rfl)) (fun _ _ _ h => h) (Or.inl ⟨by rfl, ?_⟩) hHeld ?_ ?_
      rotate_left
      ·rintro w' ⟨s0, s1, s2⟩
       go_simp
       with_reducible rfl
      rotate_left
      ·exact ap
      refine take_ (i := 3) (N := some 24) (v := ?_) (a' := ?_) #[true, true, true, true, true, false, false, false, false, false, false] rfl rfl (take_ofW HT_.out HW_.out (by kernel_rfl)) (fun _ _ _ h => h) (Or.inl ⟨by rfl, ?_⟩) hHeld ?_ ?_
      rotate_left
      ·rintro w' ⟨s0, s1, s2⟩
       go_simp
       with_reducible rfl
      rotate_left
      ·exact ap
      refine pure_ (i := 5) (N := some 26) #[true, true, true, true, true, true, false, false, false, false, false] rfl rfl (aT HT_.out) (fun _ _ _ h => h) (Or.inl ⟨rfl, rn⟩) ap ?_
      refine one_ (i := 6) (N := some 27) #[true, true, true, true, true, true, true, false, false, false, false] rfl rfl (one_of HT_.out (by kernel_rfl)) (by decide) (fun K hK => ?_)
      refine goes_ Tryd.func14 (by kernel_rfl) rfl #[.string a0_0, .slice A0_2 y318.length c0_2] (by rfl) rfl rfl ar ?_
      with_reducible refine (apply_All.calls k a0_0 _ _ y318 t322 t323 _ ?side1 ?side2 ?side3 A16.out).mono ?_
      (case side1 => repeat (first | exact (Kd.C_below HR321.out HB.out) | (with_reducible refine Kd.C_alloc ?_ _) | (with_reducible refine Kd.C_drewN ?_ _) | (with_reducible refine Kd.C_drew ?_)))
      (case side2 => exact HC321.out)
      (case side3 => exact Tabs.below HT.out bl)
      rintro e w23 ⟨rfl, hb⟩
      refine ⟨_, rfl, ?_⟩
      have n0_ := am (blk_below (g := gb316) (o := .cells #[.string a0_0, .slice A0_1 l0_1.length c0_1, .slice A0_2 l0_2.length c0_2] 42 (0, 0)) (by refine bk ?_; exact BK316.out) hb)
      have n1_ := am (below_step bl hb)
      clear BK316
      clear HB
      have BK316 := n0_
      have HB := n1_
      clear n0_ n1_
      (try clear hb)
      (try clear hb2)
      (try clear hk)
      (try clear hi)
      refine hK.out _ _ ⟨(blk_cell BK316.out 0).trans rfl, (blk_cell BK316.out 1).trans rfl, (blk_cell BK316.out 2).trans rfl⟩ (fun hHeld => ?_)
      clear hK K
      refine norm_ (a' := ?_) ?_ ?_
      rotate_left
      ·show Act.put _ (some 27) _ = _
       simp only [Act.put, List.setIfInBounds_toArray, List.set_cons_zero, List.set_cons_succ, i64_w, i32_w]
       rfl
      refine pure_ (i := 7) (N := some 28) #[true, true, true, true, true, true, true, true, false, false, false] rfl rfl (aT HT_.out) (fun _ _ _ h => h) (Or.inl ⟨rfl, rn⟩) ap ?_
      refine pure_ (i := 8) (N := some 29) #[true, true, true, true, true, true, true, true, true, false, false] rfl rfl (aT HT_.out) (fun _ _ _ h => h) (Or.inl ⟨rfl, rn⟩) ap ?_
      refine pure_ (i := 9) (N := some 4) #[true, true, true, true, true, true, true, true, true, true, false] rfl rfl (aT HT_.out) (fun _ _ _ h => h) (Or.inl ⟨rfl, rn⟩) ap ?_
      refine pure_ (i := 10) (N := some 5) #[true, true, true, true, true, true, true, true, true, true, true] rfl rfl (aT HT_.out) (fun _ _ _ h => h) (Or.inl ⟨rfl, rn⟩) ap ?_
      refine done_ (done_of HT_.out (by kernel_rfl)) ?_
      try go_wp2
      go_ret2
      exact ⟨by first | rfl | (simp [errW_none, errW_some] <;> rfl) | (simp [*, errW_none, errW_some] <;> rfl), bl⟩
     ·rw [if_neg c15] at H
      exact absurd H (by simp)
    ·rw [if_neg c14] at H
     exact absurd H (by simp)
 ·rw [if_neg c4] at H
  have c4b0 : (t317 == 0) = false := beq_eq_false_iff_ne.mpr c4
  have c4b1 : (t317 != 0) = true := bne_iff_ne.mpr c4
  simp only [Option.some.injEq, Prod.mk.injEq] at H
  obtain ⟨rfl, rfl⟩ := H
  go_enter Tryd.func27, Tryd.ntmps27
  go_wp2_with (first | ((with_reducible refine gate_dst (N := 2) rfl ?_); (try (refine gate_guard (by rfl) ?_; dsimp only)); refine box_event ?hg (N := 2) ?hd (cs := #[.string a0_0, .slice A0_1 l0_1.length c0_1, .slice A0_2 l0_2.length c0_2]) (t := 42) ?hr ?_; (case hd => rfl); (case hg => rfl); (case hr => first | (go_simp; done) | (go_simp; rfl)); intro gb316 hg w24 hbox hb; have n0_ := am (below_step bl hb); have n1_ := am (hbox); have n2_ := am ((gs : w.heap.size ≤ gb316)); have n3_ := am ((gs : w.heap.size ≤ gb316)); clear HB; have HB := n0_; have BK316 := n1_; have GW316 := n2_; have GE316 := n3_; clear n0_ n1_ n2_ n3_; clear hb hbox hg; have hcz25_0 : w24.cell? ⟨gb316, 0, none⟩ = some (.string a0_0) := (blk_cell BK316.out 0).trans rfl; have hcz25_1 : w24.cell? ⟨gb316, 1, none⟩ = some (.slice A0_1 l0_1.length c0_1) := (blk_cell BK316.out 1).trans rfl; have hcz25_2 : w24.cell? ⟨gb316, 2, none⟩ = some (.slice A0_2 l0_2.length c0_2) := (blk_cell BK316.out 2).trans rfl; have hfz25_0 := blk_frozen BK316.out 0; have hfz25_1 := blk_frozen BK316.out 1; have hfz25_2 := blk_frozen BK316.out 2) | ((with_reducible refine gate_callee (f := 66) rfl ?_); refine goesL_ (some 8) rfl rfl Tryd.func66 (by kernel_rfl) rfl #[.agg #[.string a0_0, .slice A0_1 l0_1.length c0_1, .slice A0_2 l0_2.length c0_2]] rfl ar ?_; (with_reducible refine (chain_May.calls k a0_0 _ _ l0_1 _ _ l0_2 t317 _ ?side1 ?side2 ?side3 ?side4 ?side5 A3.out).mono ?_); (case side1 => repeat (first | exact (Kd.C_below HR0_1.out HB.out) | (with_reducible refine Kd.C_alloc ?_ _) | (with_reducible refine Kd.C_drewN ?_ _) | (with_reducible refine Kd.C_drew ?_))); (case side2 => exact HC0_1.out); (case side3 => repeat (first | exact (Kd.C_below HR0_2.out HB.out) | (with_reducible refine Kd.C_alloc ?_ _) | (with_reducible refine Kd.C_drewN ?_ _) | (with_reducible refine Kd.C_drew ?_))); (case side4 => exact HC0_2.out); (case side5 => exact Tabs.below HT.out bl); rintro e w26 ⟨rfl, hb⟩; refine ⟨_, rfl, ?_⟩; have n0_ := am (blk_below (g := gb316) (o := .cells #[.string a0_0, .slice A0_1 l0_1.length c0_1, .slice A0_2 l0_2.length c0_2] 42 (0, 0)) (by refine bk ?_; exact BK316.out) hb); have n1_ := am (below_step bl hb); clear BK316; clear HB; have BK316 := n0_; have HB := n1_; clear n0_ n1_; (try clear hb); (try clear hb2); (try clear hk); (try clear hi)))
  go_ret2
  exact ⟨by first | rfl | (simp [errW_none, errW_some] <;> rfl) | (simp [*, errW_none, errW_some] <;> rfl), bl⟩
def chain_Sizes.f (k : Nat) (a0_0 : ByteArray) (l0_1 : List Int) (l0_2 : List (List (S25))) : Option (List Int × Int) := (chain_sizes.f k a0_0 l0_1 l0_2).bind fun bt325 => (some (bt325.1, bt325.2))
set_option maxHeartbeats 8000000 in
set_option maxRecDepth 100000 in
theorem chain_Sizes.calls (k : Nat) (a0_0 : ByteArray) (A0_1 : Option Addr) (c0_1 : Nat) (l0_1 : List Int) (A0_2 : Option Addr) (c0_2 : Nat) (l0_2 : List (List (S25))) (r1 : List Int) (r2 : Int) (w : World) (hr0_1 : Kd.C (Kd.int .i64) w A0_1 l0_1.length l0_1) (hc0_1 : l0_1.length ≤ c0_1) (hr0_2 : Kd.C (Kd.slice 25 k25) w A0_2 l0_2.length l0_2) (hc0_2 : l0_2.length ≤ c0_2) (hT : Tabs w) (h : chain_Sizes.f k a0_0 l0_1 l0_2 = some (r1, r2)) :
  Calls Tryd.prog 54 #[.agg #[.string a0_0, .slice A0_1 l0_1.length c0_1, .slice A0_2 l0_2.length c0_2]] w fun e w' => ∃ v0_ : Value, e = .returned (.tuple #[v0_, .int .i64 r2]) ∧ Kd.R (Kd.int .i64) 3 w' w.heap.size (fun _ => True) v0_ r1 ∧ Below w.heap.size w w' := by
 have HT := am hT
 clear hT
 have hu42 := Tryd.underlying42
 have HR0_1 := am hr0_1
 have HC0_1 := am hc0_1
 clear hr0_1 hc0_1
 have HR0_2 := am hr0_2
 have HC0_2 := am hc0_2
 clear hr0_2 hc0_2
 have HB := am (Below.refl w.heap.size w)
 have H : ((chain_sizes.f k a0_0 l0_1 l0_2).bind fun bt325 => (some (bt325.1, bt325.2))) = some (r1, r2) := h
 clear h
 replace H := Option.bind_eq_some_iff.mp H
 obtain ⟨⟨t325, t328⟩, A20, H⟩ := H
 replace H : (some (t325, t328)) = some (r1, r2) := H
 have A2 := am A20
 clear A20
 simp only [Option.some.injEq, Prod.mk.injEq] at H
 obtain ⟨rfl, rfl⟩ := H
 go_enter Tryd.func54, Tryd.ntmps54
 go_wp2_with (first | ((with_reducible refine gate_dst (N := 1) rfl ?_); refine box_event ?hg (N := 1) ?hd (cs := #[.string a0_0, .slice A0_1 l0_1.length c0_1, .slice A0_2 l0_2.length c0_2]) (t := 42) ?hr ?_; (case hd => rfl); (case hg => rfl); (case hr => first | (go_simp; done) | (go_simp; rfl)); intro gb324 hg w3 hbox hb; have n0_ := am (below_step bl hb); have n1_ := am (hbox); have n2_ := am ((gs : w.heap.size ≤ gb324)); have n3_ := am ((gs : w.heap.size ≤ gb324)); clear HB; have HB := n0_; have BK324 := n1_; have GW324 := n2_; have GE324 := n3_; clear n0_ n1_ n2_ n3_; clear hb hbox hg; have hcz4_0 : w3.cell? ⟨gb324, 0, none⟩ = some (.string a0_0) := (blk_cell BK324.out 0).trans rfl; have hcz4_1 : w3.cell? ⟨gb324, 1, none⟩ = some (.slice A0_1 l0_1.length c0_1) := (blk_cell BK324.out 1).trans rfl; have hcz4_2 : w3.cell? ⟨gb324, 2, none⟩ = some (.slice A0_2 l0_2.length c0_2) := (blk_cell BK324.out 2).trans rfl; have hfz4_0 := blk_frozen BK324.out 0; have hfz4_1 := blk_frozen BK324.out 1; have hfz4_2 := blk_frozen BK324.out 2) | ((with_reducible refine gate_callee (f := 88) rfl ?_); refine goesL_ (some 5) rfl rfl Tryd.func88 (by kernel_rfl) rfl #[.agg #[.string a0_0, .slice A0_1 l0_1.length c0_1, .slice A0_2 l0_2.length c0_2]] rfl ar ?_; (with_reducible refine (chain_sizes.calls k a0_0 _ _ l0_1 _ _ l0_2 t325 t328 _ ?side1 ?side2 ?side3 ?side4 ?side5 A2.out).mono ?_); (case side1 => repeat (first | exact (Kd.C_below HR0_1.out HB.out) | (with_reducible refine Kd.C_alloc ?_ _) | (with_reducible refine Kd.C_drewN ?_ _) | (with_reducible refine Kd.C_drew ?_))); (case side2 => exact HC0_1.out); (case side3 => repeat (first | exact (Kd.C_below HR0_2.out HB.out) | (with_reducible refine Kd.C_alloc ?_ _) | (with_reducible refine Kd.C_drewN ?_ _) | (with_reducible refine Kd.C_drew ?_))); (case side4 => exact HC0_2.out); (case side5 => exact Tabs.below HT.out bl); rintro e w5 ⟨v326, rfl, ho0, hb⟩; refine ⟨_, rfl, ?_⟩; have n0_ := am (Kd.R_lower ho0 (below_size bl)); have n1_ := am (blk_below (g := gb324) (o := .cells #[.string a0_0, .slice A0_1 l0_1.length c0_1, .slice A0_2 l0_2.length c0_2] 42 (0, 0)) (by refine bk ?_; exact BK324.out) hb); have n2_ := am (below_step bl hb); clear BK324; clear HB; have HO327 := n0_; have BK324 := n1_; have HB := n2_; clear n0_ n1_ n2_; (try clear hb); (try clear hb2); (try clear hk); (try clear hi); (try clear ho0)))
 go_ret2
 exact ⟨_, by first | rfl | (simp [errW_none, errW_some] <;> rfl) | (simp [*, errW_none, errW_some] <;> rfl), by refine kR ?_; exact HO327.out, bl⟩
def keep_Floor.l0 : Nat → Int → Int → List Int → Int → Int → Option (Int)
 | 0, _, _, _, _, _ => none
 | k + 1, x1, x5, x8, x9, x10 => if x10 < x9 then (if 0 ≤ x10 then (if x10 < (x8.length : Int) then (if (rd x8 x10) > x1 then (some x5) else (keep_Floor.l0 k x1 x10 x8 x9 (wrap64 (x10 + 1)))) else (none)) else (none)) else (some x5)
def keep_Floor.f (k : Nat) (l0 : List Int) (a1 : Int) : Option (Int) := keep_Floor.l0 k a1 0 l0 (l0.length : Int) 0
set_option maxHeartbeats 8000000 in
set_option maxRecDepth 100000 in
theorem keep_Floor.calls (k : Nat) (A0 : Option Addr) (c0 : Nat) (l0 : List Int) (a1 : Int) (r : Int) (w : World) (hr0 : Kd.C (Kd.int .i64) w A0 l0.length l0) (hc0 : l0.length ≤ c0) (h : keep_Floor.f k l0 a1 = some r) :
  Calls Tryd.prog 55 #[.slice A0 l0.length c0, .int .i64 a1] w fun e w' => e = .returned (.int .i64 r) ∧ Drawn0 w w' := by
 have HR0 := am hr0
 have HC0 := am hc0
 clear hr0 hc0
 have H : (keep_Floor.l0 k a1 0 l0 (l0.length : Int) 0) = some r := h
 clear h
 have H' := am H
 clear H
 go_enter Tryd.func55, Tryd.ntmps55
 go_wp2
 go_loopg [5, 10] k (fun kq v5 v10 w' => ∃ (x5_1 : Int) (x10_1 : Int), v5 = .int .i64 x5_1 ∧ v10 = .int .i64 x10_1 ∧ Aside0 (keep_Floor.l0 kq a1 x5_1 l0 (l0.length : Int) x10_1 = some r) ∧ Aside0 (kq ≤ k) ∧ Drawn0 w w')
 case atStart => exact ⟨(0), (0), pj, pj, H', ⟨Nat.le_refl _⟩, by repeat (first | exact Drawn0.refl _ | apply Drawn0.step)⟩
 case round =>
  clear H'
  try clear p2
  obtain ⟨x5_1, x10_1, rfl, rfl, HA, HK1, ⟨m1, rfl⟩⟩ := hrel
  cases gk with
  | zero => exact absurd HA.out (by simp [keep_Floor.l0])
  | succ k1 =>
   have H := HA.out
   clear HA
   simp only [keep_Floor.l0] at H
   by_cases c3 : x10_1 < (l0.length : Int)
   ·rw [if_pos c3] at H
    have c3b0 : decide (x10_1 < (l0.length : Int)) = true := decide_eq_true c3
    clear c3
    by_cases c4 : 0 ≤ x10_1
    ·rw [if_pos c4] at H
     have c4b0 : decide (0 ≤ x10_1) = true := decide_eq_true c4
     clear c4
     by_cases c5 : x10_1 < (l0.length : Int)
     ·rw [if_pos c5] at H
      have c5b0 : decide (x10_1 < (l0.length : Int)) = true := decide_eq_true c5
      clear c5
      by_cases c6 : (rd l0 x10_1) > a1
      ·rw [if_pos c6] at H
       have c6b0 : decide (a1 < (rd l0 x10_1)) = true := decide_eq_true c6
       clear c6
       obtain rfl := Option.some.inj H
       simp only [Option.some.injEq, Prod.mk.injEq] at H
       obtain ⟨rfl⟩ := H
       have p329 : 0 ≤ (x10_1 : Int) := of_decide_eq_true as0
       have q329 : x10_1 < (l0.length : Int) := of_decide_eq_true as0
       obtain ⟨ad329, e329, hx329_0⟩ := Kd.at_int HR0.out x10_1 p329 q329
       cases e329
       replace p329 := eq_true p329
       replace q329 := eq_true q329
       go_wp2
       go_ret
       exact ⟨pj, by repeat (first | exact Drawn0.refl _ | apply Drawn0.step)⟩
      ·rw [if_neg c6] at H
       have c6b0 : decide (a1 < (rd l0 x10_1)) = false := decide_eq_false c6
       clear c6
       have H' := am H
       clear H
       have p329 : 0 ≤ (x10_1 : Int) := of_decide_eq_true as0
       have q329 : x10_1 < (l0.length : Int) := of_decide_eq_true as0
       obtain ⟨ad329, e329, hx329_0⟩ := Kd.at_int HR0.out x10_1 p329 q329
       cases e329
       replace p329 := eq_true p329
       replace q329 := eq_true q329
       go_wp2
       go_roundg k1
       case measure => have := HK1.out; omega
       case rel => exact ⟨(x10_1), (wrap64 (x10_1 + 1)), pj, pj, H', ⟨by have := HK1.out; omega⟩, by repeat (first | exact Drawn0.refl _ | apply Drawn0.step)⟩
     ·rw [if_neg c5] at H
      exact absurd H (by simp)
    ·rw [if_neg c4] at H
     exact absurd H (by simp)
   ·rw [if_neg c3] at H
    have c3b0 : decide (x10_1 < (l0.length : Int)) = false := decide_eq_false c3
    clear c3
    obtain rfl := Option.some.inj H
    simp only [Option.some.injEq, Prod.mk.injEq] at H
    obtain ⟨rfl⟩ := H
    go_wp2
    go_ret
    exact ⟨pj, by repeat (first | exact Drawn0.refl _ | apply Drawn0.step)⟩
def i64ok (x : Int) : Prop := -9223372036854775808 ≤ x ∧ x ≤ 9223372036854775807
instance (x : Int) : Decidable (i64ok x) := inferInstanceAs (Decidable (_ ∧ _))
theorem i64ok.wf {x : Int} (h : i64ok x) : (Lit.int .i64 x).wf = true := by
 unfold i64ok at h
 simp [Lit.wf, IntKind.min, IntKind.max, IntKind.signed, IntKind.bits]; omega
theorem keep_Of.keyed : Go.Maps.Keyed Tryd.prog 3 := Go.Maps.int_keyed Tryd.underlying3
theorem keep_Of.zero (w : World) : (zeroValue 4).run Tryd.prog w = .ok (.bool false) w := by kernel_rfl
theorem plainElem_bool_inv {H : Type} {P : Program} {e : TypeId} (he : P.underlying e = some .bool) {v : Value} {z : DataW H × List MemPlace} (h : plainElem P e v = some z) : ∃ x, v = .bool x ∧ z = (.lit (.bool x), []) := by
 unfold plainElem at h
 rw [he] at h
 cases v <;> simp at h
 exact ⟨_, rfl, h.symm⟩
def SM (w : World) (b n : Nat) (l : List Int) : Prop := ∃ D : DataW Unit, w.ownsMap Tryd.prog 3 (plainElem Tryd.prog 4) b n D ∧ Go.Maps.IsMap D ∧ ∀ x : Int, D.atKey (.int .i64 x) (.lit (.bool false)) = .lit (.bool (decide (x ∈ l)))
theorem SM.kept {w w' : World} {b n : Nat} {l : List Int} {row : Option Nat} (h : SM w b n l) (hg : w.grownBy w' row) (hne : some b ≠ row) : SM w' b n l := by
 obtain ⟨D, h1, h2, h3⟩ := h
 exact ⟨D, h1.kept hg hne, h2, h3⟩
theorem SM_made (w : World) : SM (w.alloc (.map #[] 0)) w.heap.size 0 [] := ⟨.map [], World.ownsMap_made w _ _ _, Go.Maps.isMap_empty, fun x => by simp [DataW.atKey]⟩
theorem SM.put {w : World} {b n : Nat} {l : List Int} (h : SM w b n l) (hn : n < maxLen) {y : Int} (hy : i64ok y) :
  ∃ w', (Instr.mapUpdate 143 (.map (some b)) (.int .i64 y) (.bool true)).run Tryd.prog w = .ok () w' ∧ SM w' b (n + 1) (y :: l) ∧ w.grownBy w' (some b) := by
 obtain ⟨D, h1, h2, h3⟩ := h
 obtain ⟨w', hrun, r1, r2⟩ := h1.update keep_Of.keyed Tryd.underlying143 hn (Go.Maps.keyOf_int_mk Tryd.underlying3 hy.wf) (plainElem_bool Tryd.underlying4 true)
 refine ⟨w', hrun, ⟨_, r1, h2.put _ _, fun x => ?_⟩, r2⟩
 by_cases c : x = y
 ·subst c
  rw [Go.Maps.atKey_put_same h2 (by simp [WideAt.IsKeyLit])]
  simp
 ·rw [Go.Maps.atKey_put_other (by intro e; injection e with e1 e2; exact c e2), h3]
  simp [c]
theorem SM.look {w : World} {b n : Nat} {l : List Int} (h : SM w b n l) {x : Int} (hx : i64ok x) :
  (Instr.lookup 143 (.map (some b)) (.int .i64 x) false).run Tryd.prog w = .ok (.bool (decide (x ∈ l))) w := by
 obtain ⟨D, h1, h2, h3⟩ := h
 obtain ⟨v, ps, hrun, hv⟩ := h1.lookup keep_Of.keyed Tryd.underlying143 (keep_Of.zero w) (plainElem_bool Tryd.underlying4 false) (Go.Maps.keyOf_int_mk Tryd.underlying3 hx.wf)
 obtain ⟨c, rfl, e⟩ := plainElem_bool_inv Tryd.underlying4 hv
 have e1 := congrArg Prod.fst e
 rw [h3] at e1
 have e2 : decide (x ∈ l) = c := Lit.bool.inj (DataW.lit.inj e1)
 rw [e2]
 exact hrun
theorem SM.lt {w : World} {b n : Nat} {l : List Int} (h : SM w b n l) : b < w.heap.size := by
 obtain ⟨D, h1, _⟩ := h
 exact h1.lt
theorem keep_Of.cut (A : Option Addr) (n c m : Nat) (hm : m ≤ n) (hc : n ≤ c) (W : World) : (Instr.slice 38 (.slice A n c) (some (.int .i64 (m : Int))) none none).run Tryd.prog W = .ok (.slice (if c = m then A else A.map (·.add (m * 1))) (n - m) (c - m)) W := by
 obtain ⟨i0, hi0, _, hsz, _⟩ := info_parts info3
 have h := cut_from (P := Tryd.prog) 38 3 .i64 Tryd.underlying38 hi0 1 hsz A n c (m : Int) (by omega) (by omega) W
 rw [Int.toNat_natCast] at h
 exact h
theorem SM_cell {W w1 : World} {row : Option Nat} {base : Nat} {a : Addr} {v : Value} (hg : W.grownBy w1 row) (hb : a.block < base) (h : W.cell? a = some v) (hr : row = none ∨ row = some base := by first | exact .inl rfl | exact .inr rfl) : w1.cell? a = some v := by
 refine hg.cell h ?_
 rcases hr with rfl | rfl
 ·simp
 ·simp; omega
theorem rd_mem {l : List Int} {i : Int} (h0 : 0 ≤ i) (h1 : i < (l.length : Int)) : rd l i ∈ l := by
 unfold rd
 rw [List.getD_eq_getElem?_getD, List.getElem?_eq_getElem (by omega)]
 exact List.getElem_mem _
def keep_Of.p (r l1 : List Int) (x : Int) : Bool := decide (x = rd r 0) || decide (x = rd r ((r.length : Int) - 1)) || decide (x ∈ l1)
def keep_Of.f (k : Nat) (l0 l1 : List Int) (a2 : Int) : Option (List Int) :=
 (keep_Floor.f k l0 a2).bind fun m => if 0 ≤ m ∧ m < (l0.length : Int) ∧ l0.length < 1000000 ∧ l1.length < 1000000 ∧ (∀ x ∈ l0, i64ok x) ∧ (∀ x ∈ l1, i64ok x) then some ((l0.drop m.toNat).filter (keep_Of.p (l0.drop m.toNat) l1)) else none
def SX (w : World) (b n : Nat) (q l1 : List Int) (j : Nat) : Prop := ∃ L, SM w b n L ∧ ∀ x, x ∈ L ↔ (x = rd q 0 ∨ x = rd q ((q.length : Int) - 1) ∨ x ∈ l1.take j)
theorem SX.kept {w w' : World} {b n : Nat} {q l1 : List Int} {j : Nat} {row : Option Nat} (h : SX w b n q l1 j) (hg : w.grownBy w' row) (hne : some b ≠ row) : SX w' b n q l1 j := by
 obtain ⟨L, h1, h2⟩ := h
 exact ⟨L, h1.kept hg hne, h2⟩
theorem SX.put {w : World} {b n : Nat} {q l1 : List Int} {j : Nat} (h : SX w b n q l1 j) (hn : n < maxLen) (hj : j < l1.length) (hy : i64ok (rd l1 (j : Int))) :
  ∃ w', (Instr.mapUpdate 143 (.map (some b)) (.int .i64 (rd l1 (j : Int))) (.bool true)).run Tryd.prog w = .ok () w' ∧ SX w' b (n + 1) q l1 (j + 1) ∧ w.grownBy w' (some b) := by
 obtain ⟨L, h1, h2⟩ := h
 obtain ⟨w', hrun, hs, hg⟩ := h1.put hn hy
 refine ⟨w', hrun, ⟨_, hs, fun x => ?_⟩, hg⟩
 have e : rd l1 (j : Int) = l1[j] := by unfold rd; rw [Int.toNat_natCast, List.getD_eq_getElem?_getD, List.getElem?_eq_getElem hj]; rfl
 rw [List.mem_cons, h2, List.take_succ_eq_append_getElem hj, List.mem_append, List.mem_singleton, e]
 constructor
 ·rintro (h | h | h | h) <;> simp [h]
 ·rintro (h | h | h | h) <;> simp [h]
theorem SX.look {w : World} {b n : Nat} {q l1 : List Int} (h : SX w b n q l1 l1.length) {x : Int} (hx : i64ok x) :
  (Instr.lookup 143 (.map (some b)) (.int .i64 x) false).run Tryd.prog w = .ok (.bool (keep_Of.p q l1 x)) w := by
 obtain ⟨L, h1, h2⟩ := h
 rw [h1.look hx]
 have e : decide (x ∈ L) = keep_Of.p q l1 x := by
  unfold keep_Of.p
  rw [Bool.eq_iff_iff]
  simp [h2]
  constructor
  ·rintro (h | h | h) <;> simp [h]
  ·rintro ((h | h) | h) <;> simp [h]
 rw [e]
set_option maxHeartbeats 8000000 in
set_option maxRecDepth 100000 in
theorem keep_Of.calls (k : Nat) (A0 : Option Addr) (c0 : Nat) (l0 : List Int) (A1 : Option Addr) (c1 : Nat) (l1 : List Int) (a2 : Int) (r : List Int) (w : World) (hr0 : Kd.C (Kd.int .i64) w A0 l0.length l0) (hc0 : l0.length ≤ c0) (hr1 : Kd.C (Kd.int .i64) w A1 l1.length l1) (hc1 : l1.length ≤ c1) (h : keep_Of.f k l0 l1 a2 = some r) :
  Calls Tryd.prog 56 #[.slice A0 l0.length c0, .slice A1 l1.length c1, .int .i64 a2] w fun e w' => ∃ v0_ : Value, e = .returned v0_ ∧ Kd.R (Kd.int .i64) 3 w' w.heap.size (fun _ => True) v0_ r ∧ Below w.heap.size w w' := by
 unfold keep_Of.f at h
 have hmm := @run_makeMap Tryd.prog
 obtain ⟨m', hm', h⟩ := Option.bind_eq_some_iff.mp h
 by_cases z : 0 ≤ m' ∧ m' < (l0.length : Int) ∧ l0.length < 1000000 ∧ l1.length < 1000000 ∧ (∀ x ∈ l0, i64ok x) ∧ (∀ x ∈ l1, i64ok x)
 ·rw [if_pos z] at h
  have h := Option.some.inj h
  obtain ⟨z0, z1, z2, z3, z4, z5⟩ := z
  obtain ⟨m, rfl⟩ : ∃ m : Nat, m' = (m : Int) := ⟨m'.toNat, by omega⟩
  rw [Int.toNat_natCast] at h
  have hml : m < l0.length := by omega
  obtain ⟨q, hq⟩ : ∃ q, l0.drop m = q := ⟨_, rfl⟩
  have hql : l0.length - m = q.length := by rw [← hq, List.length_drop]
  have hqi : ∀ x ∈ q, i64ok x := fun x hx => z4 x (List.mem_of_mem_drop (hq ▸ hx))
  rw [hq] at h
  have hcm : ¬ c0 = m := by omega
  have hcq := Kd.C_drop hr0 (m := m) (by omega) hc0
  rw [hq, if_neg hcm] at hcq
  have hcut := fun W => keep_Of.cut A0 l0.length c0 m (by omega) hc0 W
  rw [if_neg hcm, hql] at hcut
  obtain ⟨A, hA⟩ : ∃ A, A0.map (·.add (m * 1)) = A := ⟨_, rfl⟩
  have hA2 : A0.map (·.add (m * (Kd.int .i64).sz)) = A := hA
  rw [hA] at hcut
  rw [hA2] at hcq
  obtain ⟨q', hq'⟩ : ∃ q', q.length = q' + 1 := ⟨q.length - 1, by omega⟩
  obtain ⟨ad, eA, hx0⟩ := Kd.at_int hcq 0 (by omega) (by omega)
  obtain ⟨_, _, hx9⟩ := Kd.at_int hcq (q' : Int) (by omega) (by omega)
  subst eA
  rename_i e9
  cases e9
  rw [Int.toNat_natCast] at hx9
  have hx0 : w.cell? ad = some (.int .i64 (rd q 0)) := by rw [show ad = ad.add 0 by cases ad; simp [Addr.add]]; exact hx0
  have HM := am hm'; have HR0 := am hr0; have HC0 := am hc0; have HR1 := am hr1; have HQ := am hcq; have HX0 := am hx0; have HX9 := am hx9; have HCUT := am hcut; have HQI := am hqi; have HSI := am z5; have HZ1 := am z3; have HH := am h; have HQL := am hq'
  have HZQ : Aside0 (q.length < 1000000) := ⟨by omega⟩
  have hp1 : (0 < q.length) = True := eq_true (by omega)
  have hp2 : (q' < q.length) = True := eq_true (by omega)
  have hp3 : ((q' : Int) < (q.length : Int)) = True := eq_true (by omega)
  have hw1 : wrap64 ((q.length : Int) - 1) = (q' : Int) := by unfold wrap64; omega
  have hw2 : IntKind.i64.wrap ((q.length : Int) - 1) = (q' : Int) := by rw [IntKind.wrap_i64]; omega
  clear hm' hr0 hc0 hr1 hc1 hcq hx0 hx9 hqi z0 z1 z2 z3 z4 z5 h hq hql hcm hA hA2 hml hq'
  go_enter Tryd.func56, Tryd.ntmps56
  go_wp2_with (go_at_call 55; (with_reducible refine (keep_Floor.calls k A0 c0 l0 a2 (m : Int) _ HR0.out HC0.out HM.out).mono ?_); rintro e w1 ⟨rfl, nd, rfl⟩)
  have HSM3 : Aside0 (SM ((w.drewN (nd + 1)).alloc (.map #[] 0)) w.heap.size 0 []) := ⟨SM_made _⟩
  have HI0 : Aside0 (rd q 0 ∈ q) := ⟨rd_mem (by omega) (by have := HQL.out; omega)⟩
  have HI9 : Aside0 (rd q (q' : Int) ∈ q) := ⟨rd_mem (by omega) (by have := HQL.out; omega)⟩
  have HX0L : Aside0 (ad.block < w.heap.size) := ⟨World.block_lt_of_cell? w _ HX0.out⟩
  have HX9L : Aside0 ((ad.add q').block < w.heap.size) := ⟨World.block_lt_of_cell? w _ HX9.out⟩
  have hx0_2 : (w.drewN (nd + 1)).cell? ad = some (.int .i64 (rd q 0)) := HX0.out
  have hx9_2 : (w.drewN (nd + 1)).cell? (ad.add q') = some (.int .i64 (rd q (q' : Int))) := HX9.out
  have hx0_3 : ((w.drewN (nd + 1)).alloc (.map #[] 0)).cell? ad = some (.int .i64 (rd q 0)) := SM_cell (World.grownBy_alloc _ _ none) HX0L.out hx0_2
  have hx9_3 : ((w.drewN (nd + 1)).alloc (.map #[] 0)).cell? (ad.add q') = some (.int .i64 (rd q (q' : Int))) := SM_cell (World.grownBy_alloc _ _ none) HX9L.out hx9_2
  obtain ⟨w5, hrun5, hs5, hg5⟩ := SM.put HSM3.out (by unfold maxLen; decide) (HQI.out _ HI0.out)
  obtain ⟨w6, hrun6, hs6, hg6⟩ := SM.put hs5 (by unfold maxLen; decide) (HQI.out _ HI9.out)
  obtain ⟨v5, hrv5, ht5, hh5⟩ := SM.put HSM3.out (by unfold maxLen; decide) (HQI.out _ HI9.out)
  obtain ⟨v6, hrv6, ht6, hh6⟩ := SM.put ht5 (by unfold maxLen; decide) (HQI.out _ HI0.out)
  have hx0_5 : w5.cell? ad = some (.int .i64 (rd q 0)) := SM_cell hg5 HX0L.out hx0_3
  have hx9_5 : w5.cell? (ad.add q') = some (.int .i64 (rd q (q' : Int))) := SM_cell hg5 HX9L.out hx9_3
  have hx0_6 : v5.cell? ad = some (.int .i64 (rd q 0)) := SM_cell hh5 HX0L.out hx0_3
  have hx9_6 : v5.cell? (ad.add q') = some (.int .i64 (rd q (q' : Int))) := SM_cell hh5 HX9L.out hx9_3
  have hb3 := (below_drew1 (pw_below_drewN (Below.refl w.heap.size w) nd)).alloc (by simp) (.map #[] 0)
  have HW6 : Aside0 (SX w6 w.heap.size 2 q l1 0) := ⟨_, hs6, fun x => by rw [HQL.out]; simp [or_comm]⟩
  have HV6 : Aside0 (SX v6 w.heap.size 2 q l1 0) := ⟨_, ht6, fun x => by rw [HQL.out]; simp⟩
  have HBW : Aside0 (Below w.heap.size w w6) := ⟨(hb3.grown hg5 (by simp) (fun j hj => by cases hj; exact Nat.le_refl _)).grown hg6 (by have := hg5.size; simp at this; omega) (fun j hj => by cases hj; exact Nat.le_refl _)⟩
  have HBV : Aside0 (Below w.heap.size w v6) := ⟨(hb3.grown hh5 (by simp) (fun j hj => by cases hj; exact Nat.le_refl _)).grown hh6 (by have := hh5.size; simp at this; omega) (fun j hj => by cases hj; exact Nat.le_refl _)⟩
  clear hs5 hg5 hs6 hg6 ht5 hh5 ht6 hh6 hb3
  refine wp_region_noPanic ?_
  go_region
  all_goals (refine NoPanic.normal ?_)
  all_goals (first | (show Exit.then _ _ Exit.normal _ w6; have HSX := HW6; have HBX := HBW; generalize w6 = wz at HSX HBX ⊢) | (show Exit.then _ _ Exit.normal _ v6; have HSX := HV6; have HBX := HBV; generalize v6 = wz at HSX HBX ⊢))
  all_goals clear hrun5 hrun6 hrv5 hrv6 HW6 HV6 HBW HBV hx0_2 hx9_2 hx0_3 hx9_3 hx0_5 hx9_5 hx0_6 hx9_6
  all_goals go_wp2
  all_goals
   go_loopw [9, 31] (fun _ v31 wr => ∃ j : Nat, v31 = .int .i64 j ∧ j ≤ l1.length ∧ Aside0 (SX wr w.heap.size (2 + j) q l1 j) ∧ Aside0 (Below w.heap.size w wr)) (fun _ v31 _ => l1.length - (intOf v31).toNat)
   case atStart => exact ⟨0, rfl, Nat.zero_le _, HSX, HBX⟩
   case round =>
    clear HSX HBX
    obtain ⟨j, rfl, hj, HSX, HBX⟩ := hrel
    by_cases hlt : j < l1.length
    ·have hltb : decide ((j : Int) < (l1.length : Int)) = true := decide_eq_true (by omega)
     have HL := am hlt
     obtain ⟨ad1, e1, hx1⟩ := Kd.at_int (Kd.C_below HR1.out HBX.out) (j : Int) (by omega) (by omega)
     subst e1
     rw [Int.toNat_natCast] at hx1
     have p2 : ((j : Int) < (l1.length : Int)) = True := eq_true (by omega)
     have p3 : (j < l1.length) = True := eq_true hlt
     have ew : wrap64 ((j : Int) + 1) = ((j + 1 : Nat) : Int) := by have := HZ1.out; unfold wrap64; omega
     obtain ⟨w9, hrun9, hs9, hg9⟩ := HSX.out.put (by have := HZ1.out; unfold maxLen; omega) hlt (HSI.out _ (rd_mem (by omega) (by omega)))
     have HS9 := am hs9
     have HB9 := am (HBX.out.grown hg9 HBX.out.size (fun j hj => by cases hj; exact Nat.le_refl _))
     clear hlt hs9 hg9 HSX HBX
     go_wp2
     go_round
     case measure => exact op_sum.less HL.out ew
     case rel => exact ⟨j + 1, by rw [ew], HL.out, HS9, HB9⟩
    ·have hltb : decide ((j : Int) < (l1.length : Int)) = false := decide_eq_false (by omega)
     obtain rfl : j = l1.length := by omega
     clear hlt hj
     go_wp2
     go_loopw [10, 12, 40] (fun v10 _ v40 wr => ∃ (j : Nat) (out : List Int), v40 = .int .i64 j ∧ j ≤ q.length ∧ Aside0 (out = (q.take j).filter (keep_Of.p q l1)) ∧ Aside0 (SX wr w.heap.size (2 + l1.length) q l1 l1.length) ∧ Aside0 (Kd.R (Kd.int .i64) 3 wr w.heap.size (fun k => k ≠ w.heap.size) v10 out) ∧ Aside0 (Below w.heap.size w wr)) (fun _ _ v40 _ => q.length - (intOf v40).toNat)
     case atStart => exact ⟨0, [], rfl, Nat.zero_le _, ⟨by simp⟩, HSX, ⟨Kd.R_nil _ _ _ _ _⟩, HBX⟩
     case round =>
      clear HSX HBX
      obtain ⟨j, out, rfl, hj, HOE, HSX, HOO, HBX⟩ := hrel
      by_cases hlt : j < q.length
      ·have hltb : decide ((j : Int) < (q.length : Int)) = true := decide_eq_true (by omega)
       have HL := am hlt
       obtain ⟨ad1, e1, hx1⟩ := Kd.at_int (Kd.C_below HQ.out HBX.out) (j : Int) (by omega) (by omega)
       cases e1
       rw [Int.toNat_natCast] at hx1
       have p2 : ((j : Int) < (q.length : Int)) = True := eq_true (by omega)
       have p3 : (j < q.length) = True := eq_true hlt
       have ew : wrap64 ((j : Int) + 1) = ((j + 1 : Nat) : Int) := by have := HZQ.out; unfold wrap64; omega
       have hlk := HSX.out.look (HQI.out _ (rd_mem (l := q) (i := (j : Int)) (by omega) (by omega)))
       have HON : Aside0 ((q.take (j + 1)).filter (keep_Of.p q l1) = out ++ [rd q (j : Int)].filter (keep_Of.p q l1)) := ⟨by
        have e : rd q (j : Int) = q[j] := by unfold rd; rw [Int.toNat_natCast, List.getD_eq_getElem?_getD, List.getElem?_eq_getElem hlt]; rfl
        rw [List.take_succ_eq_append_getElem hlt, List.filter_append, HOE.out, e]⟩
       have HLN : Aside0 (out.length ≤ j) := ⟨by rw [HOE.out]; exact Nat.le_trans (List.length_filter_le _ _) (by rw [List.length_take]; omega)⟩
       have HSG : Aside0 (some w.heap.size ≠ u10.ownBlock) := ⟨fun e => (HOO.out.1 _ e.symm) rfl⟩
       have HGL : Aside0 (w.heap.size < wr.heap.size) := ⟨by obtain ⟨L, h1, _⟩ := HSX.out; exact h1.lt⟩
       clear hlt HOE
       cases hb : keep_Of.p q l1 (rd q (j : Int)) with
       | true =>
        rw [hb] at hlk
        have HO2 : Aside0 (out ++ [rd q (j : Int)] = (q.take (j + 1)).filter (keep_Of.p q l1)) := ⟨by rw [HON.out]; simp [hb]⟩
        clear hb
        go_wp2_with ((with_reducible refine gate_builtin (b := .append) (xs := #[.tmp 47, .tmp 49]) rfl ?_); at_builtin; refine Kd.R_append (Kd.int .i64) (w0 := w) w.heap.size rfl (.tmp 47) (.tmp 49) 38 3 (.int .i64 0) 8 rfl Tryd.underlying38 info3 rfl (by decide) (by omega) u10 out (rd q (j : Int)) [.int .i64 (rd q (j : Int))] (fun k => k ≠ w.heap.size) (fun _ => False) rfl rfl ?aP (fun _ hk => hk.elim) ?aF ?aO ?aB ?aS ?aL ?_; (case aP => exact rfl); (case aB => exact HBX.out); (case aF => intro k hk; have := HGL.out; omega); (case aO => exact HOO.out); (case aS => exact HBX.out.size); (case aL => have := HLN.out; have := HZQ.out; have := HL.out; omega); intro v17 w17 ho hb2 hg hat; have HO17 := am ho; have HB17 := am hb2; have HS17 := am (HSX.out.kept hg HSG.out); clear ho hb2 hg hat)
        go_round
        case measure => exact op_sum.less HL.out ew
        case rel => exact ⟨j + 1, _, by rw [ew], HL.out, HO2, HS17, HO17, HB17⟩
       | false =>
        rw [hb] at hlk
        have HO2 : Aside0 (out = (q.take (j + 1)).filter (keep_Of.p q l1)) := ⟨by rw [HON.out]; simp [hb]⟩
        clear hb
        go_wp2
        go_round
        case measure => exact op_sum.less HL.out ew
        case rel => exact ⟨j + 1, _, by rw [ew], HL.out, HO2, HSX, HOO, HBX⟩
      ·have hltb : decide ((j : Int) < (q.length : Int)) = false := decide_eq_false (by omega)
       obtain rfl : j = q.length := by omega
       clear hlt hj
       have HF : Aside0 (out = r) := ⟨by rw [HOE.out, List.take_length]; exact HH.out⟩
       go_wp2
       go_ret
       exact ⟨_, rfl, Kd.R_mono (HF.out ▸ HOO.out) (fun _ _ => trivial), HBX.out⟩
 ·rw [if_neg z] at h; cases h
end Go.Proofs.YtegjegihcebimaaDoor.P
end
