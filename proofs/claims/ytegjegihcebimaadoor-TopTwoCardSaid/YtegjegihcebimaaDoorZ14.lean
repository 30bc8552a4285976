/- Part 14 of the proof of topTwo_holds: out of the texts that this session's programs wrote, what the theorem reaches. -/
import Derived.Test.YtegjegihcebimaaDoorZ11
import Derived.Test.YtegjegihcebimaaDoorZ13
import Derived.Test.YtegjegihcebimaaDoorZ3
import Derived.Test.YtegjegihcebimaaDoorZ4
import Derived.Test.YtegjegihcebimaaDoorZ6
import Derived.Test.YtegjegihcebimaaDoorZ7
import Derived.Test.YtegjegihcebimaaDoorZ8
section
namespace Go.Proofs.YtegjegihcebimaaDoor.P
open Go.RowKit Go.Proofs.YtegjegihcebimaaDoorW.PrintWords Go.Proofs.YtegjegihcebimaaDoorW.PrintLast Go.Proofs.YtegjegihcebimaaDoorW.PrintMore
attribute [local go_sem] max2_int min2_int max_two min_two max_three min_three max_four min_four
set_option linter.unusedVariables false
set_option linter.unusedSimpArgs false
@[local go_sem] theorem under_store {P : Program} {w : World} (a : Addr) (fn : Fn) (first captured : Array Value) (m : Mode) : (store a (.func fn first captured) m).run P w = stored P w a (.func fn first captured) m := run_store P w a _ m rfl
set_option maxHeartbeats 16000000 in
set_option maxRecDepth 100000 in
theorem under_Of.calls (k : Nat) (A0 : Option Addr) (c0 : Nat) (l0 : List S25) (A1 : Option Addr) (c1 : Nat) (l1 : List S25) (n : Int) (la ls out r : List S25) (w : World) (hr0 : Kd.C k25 w A0 l0.length l0) (hc0 : l0.length ≤ c0) (hr1 : Kd.C k25 w A1 l1.length l1) (hc1 : l1.length ≤ c1) (hT : Tabs w)
  (he0 : op_May.f k l0 = some 0) (he1 : op_May.f k l1 = some 0) (hn0 : op_In.f l0 = some n) (hn1 : op_In.f l1 = some n) (hla : normal_Of.f l0 = some la) (hls : normal_Of.f l1 = some ls) (hout : under_Of.l k la ls 0 0 [] = some out) (hr : normal_Of.f out = some r) :
  Calls Tryd.prog 32 #[.slice A0 l0.length c0, .slice A1 l1.length c1] w fun e w' => ∃ v : Value, e = .returned (.tuple #[v, .int .i64 0]) ∧ Kd.R k25 25 w' w.heap.size (fun _ => True) v r ∧ Below w.heap.size w w' := by
 have hmf : ∀ (fn : Fn) (first cap : Array Value) (w : World), (Instr.makeFunc fn first cap).run Tryd.prog w = .ok (.func fn first cap) w := fun _ _ _ _ => rfl
 have H2P : Aside0 (2 < w.heap.size) := ⟨by have := hT.2 0 (by decide); exact World.block_lt_of_cell? w _ this⟩
 have HR0 := Aside0.mk hr0; have HC0 := Aside0.mk hc0; have HR1 := Aside0.mk hr1; have HC1 := Aside0.mk hc1; have HT := Aside0.mk hT; have HE0 := Aside0.mk he0; have HE1 := Aside0.mk he1; have HN0 := Aside0.mk hn0; have HN1 := Aside0.mk hn1; have HLA := Aside0.mk hla; have HLS := Aside0.mk hls; have HOUT := Aside0.mk hout; have HRR := Aside0.mk hr
 clear hr0 hc0 hr1 hc1 hT he0 he1 hn0 hn1 hla hls hout hr
 have HSA := Aside0.mk (heap_alloc_new w (.cells #[.slice A0 l0.length c0, .slice A1 l1.length c1] 27))
 have HBA := Aside0.mk (below_alloc (Below.refl w.heap.size w) (.cells #[.slice A0 l0.length c0, .slice A1 l1.length c1] 27))
 go_enter Tryd.func32, Tryd.ntmps32
 go_wp2
 go_loopw [7, 8, 15] (fun _ _ v15 wr => ∃ j : Nat, v15 = .int .i64 j ∧ j ≤ 2 ∧ Aside0 (wr.heap[w.heap.size]? = some (.cells #[.slice A0 l0.length c0, .slice A1 l1.length c1] 27 (0, 0))) ∧ Aside0 (Below w.heap.size w wr)) (fun _ _ v15 _ => 2 - (intOf v15).toNat)
 case atStart => exact ⟨0, rfl, by omega, HSA, HBA⟩
 case round =>
  obtain ⟨j, rfl, hj, HS, HB⟩ := hrel
  clear HSA HBA
  obtain ⟨k0, k1⟩ := compose_Of.cells2 HS.out
  rcases (by omega : j = 0 ∨ j = 1 ∨ j = 2) with rfl | rfl | rfl
  ·go_wp2_with (go_at_call 46; (with_reducible refine (op_May.calls k A0 c0 l0 0 _ (Kd.C_below HR0.out HB.out) HC0.out (Tabs.below HT.out HB.out) HE0.out).mono ?_); rintro e w1 ⟨rfl, hb⟩; have HS1 := Aside0.mk (blk_below HS.out hb); have HB1 := Aside0.mk (below_then HB.out HB.out.size hb); clear hb)
   go_round
   case measure => decide
   case rel => exact ⟨1, rfl, by omega, HS1, HB1⟩
  ·go_wp2_with (go_at_call 46; (with_reducible refine (op_May.calls k A1 c1 l1 0 _ (Kd.C_below HR1.out HB.out) HC1.out (Tabs.below HT.out HB.out) HE1.out).mono ?_); rintro e w1 ⟨rfl, hb⟩; have HS1 := Aside0.mk (blk_below HS.out hb); have HB1 := Aside0.mk (below_then HB.out HB.out.size hb); clear hb)
   go_round
   case measure => decide
   case rel => exact ⟨2, rfl, by omega, HS1, HB1⟩
  ·go_upto_region 10 with (first | (go_at_call 20; (with_reducible refine (op_In.calls A0 c0 l0 n _ (Kd.C_below HR0.out HB.out) HC0.out (Tabs.below HT.out HB.out) HN0.out).mono ?_); rintro e w1 ⟨rfl, hb⟩; have HB1 := Aside0.mk (below_then HB.out HB.out.size hb); clear hb) | (go_at_call 20; (with_reducible refine (op_In.calls A1 c1 l1 n _ (Kd.C_below HR1.out HB1.out) HC1.out (Tabs.below HT.out HB1.out) HN1.out).mono ?_); rintro e w2 ⟨rfl, hb⟩; have HB2 := Aside0.mk (below_then HB1.out HB1.out.size hb); clear hb))
   go_upto_region 11 with (fail)
   go_upto_region 12 with (fail)
   have HPA := Aside0.mk (blk_alloc (heap_alloc_new w2 (.cells #[.slice none 0 0] 27)) (.cells #[.func (.func 69) #[] #[.pointer (some ⟨w2.heap.size, 0, none⟩)], .func (.func 70) #[] #[.pointer (some ⟨w2.heap.size, 0, none⟩)], .func (.func 71) #[] #[.pointer (some ⟨w2.heap.size, 0, none⟩)]] 125))
   have hgw : ((w2.alloc (.cells #[.slice none 0 0] 27)).alloc (.cells #[.func (.func 69) #[] #[.pointer (some ⟨w2.heap.size, 0, none⟩)], .func (.func 70) #[] #[.pointer (some ⟨w2.heap.size, 0, none⟩)], .func (.func 71) #[] #[.pointer (some ⟨w2.heap.size, 0, none⟩)]] 125)).heap[w2.heap.size + 1]? = some (.cells #[.func (.func 69) #[] #[.pointer (some ⟨w2.heap.size, 0, none⟩)], .func (.func 70) #[] #[.pointer (some ⟨w2.heap.size, 0, none⟩)], .func (.func 71) #[] #[.pointer (some ⟨w2.heap.size, 0, none⟩)]] 125 (0, 0)) := by
    have := heap_alloc_new (w2.alloc (.cells #[.slice none 0 0] 27)) (.cells #[.func (.func 69) #[] #[.pointer (some ⟨w2.heap.size, 0, none⟩)], .func (.func 70) #[] #[.pointer (some ⟨w2.heap.size, 0, none⟩)], .func (.func 71) #[] #[.pointer (some ⟨w2.heap.size, 0, none⟩)]] 125)
    simpa using this
   have HGW := Aside0.mk hgw
   have HBA := Aside0.mk ((below_alloc HB2.out (.cells #[.slice none 0 0] 27)).alloc (by have := HB2.out.size; simp; omega) (.cells #[.func (.func 69) #[] #[.pointer (some ⟨w2.heap.size, 0, none⟩)], .func (.func 70) #[] #[.pointer (some ⟨w2.heap.size, 0, none⟩)], .func (.func 71) #[] #[.pointer (some ⟨w2.heap.size, 0, none⟩)]] 125))
   have HSZ : Aside0 (w2.heap.size + 1 < ((w2.alloc (.cells #[.slice none 0 0] 27)).alloc (.cells #[.func (.func 69) #[] #[.pointer (some ⟨w2.heap.size, 0, none⟩)], .func (.func 70) #[] #[.pointer (some ⟨w2.heap.size, 0, none⟩)], .func (.func 71) #[] #[.pointer (some ⟨w2.heap.size, 0, none⟩)]] 125)).heap.size) := ⟨by simp⟩
   have HP0 := Aside0.mk HB2.out.size
   clear hgw HB2 HB1 HS HB k0 k1 hj
   generalize (w2.alloc (.cells #[.slice none 0 0] 27)).alloc (.cells #[.func (.func 69) #[] #[.pointer (some ⟨w2.heap.size, 0, none⟩)], .func (.func 70) #[] #[.pointer (some ⟨w2.heap.size, 0, none⟩)], .func (.func 71) #[] #[.pointer (some ⟨w2.heap.size, 0, none⟩)]] 125) = w3 at HPA HGW HBA HSZ ⊢
   generalize w2.heap.size = p at HPA HGW HSZ HP0 ⊢
   have g0 : w3.cell? ⟨p + 1, 0, none⟩ = some (.func (.func 69) #[] #[.pointer (some ⟨p, 0, none⟩)]) := (blk_cell HGW.out 0).trans rfl
   have g1 : w3.cell? ⟨p + 1, 1, none⟩ = some (.func (.func 70) #[] #[.pointer (some ⟨p, 0, none⟩)]) := (blk_cell HGW.out 1).trans rfl
   have g2 : w3.cell? ⟨p + 1, 2, none⟩ = some (.func (.func 71) #[] #[.pointer (some ⟨p, 0, none⟩)]) := (blk_cell HGW.out 2).trans rfl
   have C0 := Aside0.mk g0; have C1 := Aside0.mk g1; have C2 := Aside0.mk g2
   have HBD := Aside0.mk (below_drew1 (Below.refl w3.heap.size w3))
   have HTO := Aside0.mk (fun (Ba Bs : Nat) (va vs : Value) (W : World) (hoi : OI w W p Ba Bs va vs la ls []) => by have h9 := under_through.calls k w W p Ba Bs va vs la ls [] out HT.out hoi HOUT.out; unfold under_Of.C at h9; exact h9)
   go_region_law (first | (go_simp; go_at_call 33; (with_reducible refine (normal_Of.calls A0 c0 l0 la _ (Kd.C_below HR0.out (below_then HBA.out HBA.out.size HBD.out)) HC0.out HLA.out).mono ?_); rintro e w5 ⟨va, rfl, ho, hb⟩; have HOA := Aside0.mk ho; have HBN := Aside0.mk hb; have HB5 := Aside0.mk (below_step HBD.out hb); have d0 := cell_past HB5.out C0.out; have d1 := cell_past HB5.out C1.out; have d2 := cell_past HB5.out C2.out; clear ho hb) | (go_simp; go_at_call 33; (with_reducible refine (normal_Of.calls A1 c1 l1 ls _ (Kd.C_below HR1.out (below_then HBA.out HBA.out.size HB5.out)) HC1.out HLS.out).mono ?_); rintro e w6 ⟨vs, rfl, ho, hb⟩; obtain ⟨Ba, Bs, hoi⟩ := OI_ex (OI_new HOA.out HBN.out ho hb (blk_below HPA.out HBD.out) (below_then HBA.out HBA.out.size HBD.out) HP0.out (Nat.lt_of_lt_of_le H2P.out HP0.out) (Nat.lt_of_lt_of_le HSZ.out HBD.out.size)); have HOI := Aside0.mk hoi; have HB6 := Aside0.mk (below_step HB5.out hb); have d3 := cell_past HB6.out C0.out; have d4 := cell_past HB6.out C1.out; have d5 := cell_past HB6.out C2.out; clear hoi ho hb) | (go_simp; go_at_call 72; (with_reducible refine (HTO.out Ba Bs va vs _ HOI.out).mono ?_); rintro e w7 ⟨rfl, va', vs', hoi⟩; have HO7 := Aside0.mk hoi; clear hoi))
   all_goals obtain ⟨h1_, h2_, ⟨vo, h3_, h4_⟩, h5_, -⟩ := HO7.out
   all_goals obtain ⟨AO, cO, rfl⟩ := Kd.R_slice h4_
   all_goals have HRO := Aside0.mk (Kd.R_reads' h4_).2
   all_goals have HBO := Aside0.mk h5_
   all_goals have cl : w7.cell? ⟨p, 0, none⟩ = some (.slice AO out.length cO) := (blk_cell h3_ 0).trans rfl
   all_goals clear h1_ h2_ h3_ h4_ h5_
   all_goals go_wp2_with (go_at_call 33; (with_reducible refine (normal_Of.calls AO cO out r _ HRO.out.2 HRO.out.1 HRR.out).mono ?_); rintro e w8 ⟨v8, rfl, ho, hb⟩; have HO8 := Aside0.mk ho; have HB8 := Aside0.mk hb; clear ho hb)
   all_goals go_ret2
   all_goals exact ⟨_, rfl, Kd.R_lower HO8.out HBO.out.size, below_then HBO.out HBO.out.size HB8.out⟩
end Go.Proofs.YtegjegihcebimaaDoor.P
end
section
namespace Go.Proofs.YtegjegihcebimaaDoor.P
open Go.RowKit Go.Proofs.YtegjegihcebimaaDoorW.PrintWords Go.Proofs.YtegjegihcebimaaDoorW.PrintLast Go.Proofs.YtegjegihcebimaaDoorW.PrintMore
set_option linter.unusedVariables false
set_option linter.unusedSimpArgs false
structure UndOk (k : Nat) (s a r : List S25) (n : Int) (la ls out : List S25) : Prop where
 e0 : op_May.f k s = some 0
 e1 : op_May.f k a = some 0
 n0 : op_In.f s = some n
 n1 : op_In.f a = some n
 m0 : normal_Of.f s = some la
 m1 : normal_Of.f a = some ls
 wk : under_Of.l k la ls 0 0 [] = some out
 m2 : normal_Of.f out = some r
structure TwoOk (k : Nat) (a0 : ByteArray) (l0 l1 : List S25) (u : ByteArray) (n : Int) (xa xb ya yb pa pb na nb ua ub : List S25) (za zb qa qb m na' nb' : Int) (la lb ls lt oa ob : List S25) (one two : ByteArray) : Prop where
 sh : epitometop_shown.f k = some true
 ft : epitomeref01_Fit.f k (a0.extract 0 ((mn (a0.size : Int) 20) : Int).toNat) = some u
 cn : points_Count.f u = some n
 c0 : 0 ≤ n
 c1 : n ≤ 1048576
 sz : chain_Sizes.f k u [0] [] = some ([n], 0)
 fa : epitomeref04_Fit.f k l0 n = some xa
 fb : epitomeref04_Fit.f k l1 n = some xb
 s1 : SubOk k [0] [] [n] 0 xa 0 0 n 0 1 ya za
 s2 : SubOk k ([0] ++ [1]) ([] ++ [ya]) ([n] ++ [za]) 0 xb 0 0 n 1 2 pb qb
 t1 : SubOk k [0] [] [n] 0 xb 0 0 n 0 1 yb zb
 t2 : SubOk k ([0] ++ [1]) ([] ++ [yb]) ([n] ++ [zb]) 0 xa 0 0 n 1 2 pa qa
 vb : over_Of.f k xb xa = some (pb, 0)
 va : over_Of.f k xa xb = some (pa, 0)
 ma : normal_Of.f xa = some na
 mb : normal_Of.f xb = some nb
 da : UndOk k na xb ua na' la ls oa
 db : UndOk k nb xa ub nb' lb lt ob
 a1 : apply_All.f k u [xb, ua] = some (one, 0)
 a2 : apply_All.f k u [xa, ub] = some (two, 0)
 sb : epitomeref04_Same.f k pb pb = some true
 sa : epitomeref04_Same.f k pa pa = some true
 x1 : chain_At.f k u ([0] ++ [1] ++ [2]) ([] ++ [ya] ++ [pb]) (([] ++ [ya] ++ [pb]).length : Int) = some (one, 0)
 x2 : chain_At.f k u ([0] ++ [1] ++ [2]) ([] ++ [yb] ++ [pa]) (([] ++ [yb] ++ [pa]).length : Int) = some (two, 0)
 m1 : points_Count.f one = some m
 m2 : points_Count.f two = some m
structure TS (w W : World) (P1 P2 : Nat → Prop) (g1 g2 : Nat) (u : ByteArray) (r1 : List Int) (l1 : List (List S25)) (z1 : List Int) (r2 : List Int) (l2 : List (List S25)) (z2 : List Int) : Prop where
 S1 : SI W P1 g1 u r1 l1 z1
 S2 : SI W P2 g2 u r2 l2 z2
 D : ∀ k, P1 k → ¬ P2 k
 B1 : ∀ k, P1 k → w.heap.size ≤ k
 B2 : ∀ k, P2 k → w.heap.size ≤ k
 HB : Below w.heap.size w W
section
variable {w W W1 : World} {P1 P2 : Nat → Prop} {g1 g2 : Nat} {u : ByteArray} {r1 r2 z1 z2 r' z' : List Int} {l1 l2 l' : List (List S25)}
theorem TS.below (T : TS w W P1 P2 g1 g2 u r1 l1 z1 r2 l2 z2) (hb : Below W.heap.size W W1) : TS w W1 P1 P2 g1 g2 u r1 l1 z1 r2 l2 z2 := ⟨T.S1.below hb, T.S2.below hb, T.D, T.B1, T.B2, below_step T.HB hb⟩
theorem TS.sub1 (T : TS w W P1 P2 g1 g2 u r1 l1 z1 r2 l2 z2) (hs : SI W1 (fun k => P1 k ∨ (W.heap.size ≤ k ∧ k < W1.heap.size)) g1 u r' l' z') (hk : Kf W W1 P1) : TS w W1 (fun k => P1 k ∨ (W.heap.size ≤ k ∧ k < W1.heap.size)) P2 g1 g2 u r' l' z' r2 l2 z2 := by
 have hw := T.HB.size
 refine ⟨hs, T.S2.kf hk (fun k h2 h1 => T.D k h1 h2), fun k hk1 h2 => ?_, fun k hk1 => ?_, T.B2, T.HB.trans (hk.below hw T.B1)⟩
 ·rcases hk1 with h | h
  ·exact T.D k h h2
  ·have := T.S2.2.1 k h2; omega
 ·rcases hk1 with h | h
  ·exact T.B1 k h
  ·omega
theorem TS.sub2 (T : TS w W P1 P2 g1 g2 u r1 l1 z1 r2 l2 z2) (hs : SI W1 (fun k => P2 k ∨ (W.heap.size ≤ k ∧ k < W1.heap.size)) g2 u r' l' z') (hk : Kf W W1 P2) : TS w W1 P1 (fun k => P2 k ∨ (W.heap.size ≤ k ∧ k < W1.heap.size)) g1 g2 u r1 l1 z1 r' l' z' := by
 have hw := T.HB.size
 refine ⟨T.S1.kf hk (fun k h2 h1 => T.D k h2 h1), hs, fun k h1 hk1 => ?_, T.B1, fun k hk1 => ?_, T.HB.trans (hk.below hw T.B2)⟩
 ·rcases hk1 with h | h
  ·exact T.D k h1 h
  ·have := T.S1.2.1 k h1; omega
 ·rcases hk1 with h | h
  ·exact T.B2 k h
  ·omega
theorem TS.new (hb : Below w.heap.size w W) (h1 : SI W (fun k => w.heap.size ≤ k ∧ k < W.heap.size) g1 u r1 l1 z1) (hb2 : Below W.heap.size W W1) (h2 : SI W1 (fun k => W.heap.size ≤ k ∧ k < W1.heap.size) g2 u r2 l2 z2) : TS w W1 (fun k => w.heap.size ≤ k ∧ k < W.heap.size) (fun k => W.heap.size ≤ k ∧ k < W1.heap.size) g1 g2 u r1 l1 z1 r2 l2 z2 :=
 ⟨h1.below hb2, h2, fun k h1 h2 => by omega, fun k h => h.1, fun k h => Nat.le_trans hb.size h.1, below_step hb hb2⟩
end
theorem two_reads {W : World} {b : Nat} {A A' : Option Addr} {c c' : Nat} {p q : List S25} (hb : W.heap[b]? = some (.cells #[.slice A p.length c, .slice A' q.length c'] 27 (0, 0))) (h1 : p.length ≤ c) (r1 : Kd.C k25 W A p.length p) (h2 : q.length ≤ c') (r2 : Kd.C k25 W A' q.length q) : Kd.C (Kd.slice 25 k25) W (some ⟨b, 0, none⟩) 2 [p, q] := by
 refine ⟨rfl, by decide, fun _ => ⟨_, rfl, fun j x hj => ?_⟩⟩
 match j, hj with
 | 0, hj =>
  have : p = x := by simpa using hj
  subst this
  refine ⟨_, rfl, ⟨A, c, rfl, h1, r1⟩, fun i u hu => ?_⟩
  cases i with
  | zero =>
   have e : Value.slice A p.length c = u := by simpa using hu
   subst e
   exact (blk_cell hb 0).trans rfl
  | succ i => simp at hu
 | 1, hj =>
  have : q = x := by simpa using hj
  subst this
  refine ⟨_, rfl, ⟨A', c', rfl, h2, r2⟩, fun i u hu => ?_⟩
  cases i with
  | zero =>
   have e : Value.slice A' q.length c' = u := by simpa using hu
   subst e
   exact (blk_cell hb 1).trans rfl
  | succ i => simp at hu
 | j + 2, hj => simp at hj
theorem ans_box (w : World) (v : Value) (r e : Int) : Below w.heap.size w (w.alloc (.cells #[v, .int .i64 r, .int .i64 e] 72)) ∧ (w.alloc (.cells #[v, .int .i64 r, .int .i64 e] 72)).heap[w.heap.size]? = some (.cells #[v, .int .i64 r, .int .i64 e] 72 (0, 0)) :=
 ⟨below_alloc (Below.refl w.heap.size w) _, heap_alloc_new w _⟩
end Go.Proofs.YtegjegihcebimaaDoor.P
end
