/- Part 16 of the proof of topLogs_holds: out of the texts that this session's programs wrote, what the theorem reaches. -/
import Derived.Test.YtegjegihcebimaaDoorZ15
section
namespace Go.Proofs.YtegjegihcebimaaDoor.P
open Go.RowKit Go.Proofs.YtegjegihcebimaaDoorW.PrintWords Go.Proofs.YtegjegihcebimaaDoorW.PrintLast Go.Proofs.YtegjegihcebimaaDoorW.PrintMore
attribute [local go_sem] max2_int min2_int max_two min_two max_three min_three max_four min_four
set_option linter.unusedVariables false
set_option linter.unusedSimpArgs false
set_option maxHeartbeats 16000000 in
set_option maxRecDepth 100000 in
theorem logs_walk (k : Nat) (a0 : ByteArray) (A1 : Option Addr) (c1 : Nat) (l : List OpV) (u : ByteArray) (n : Int) (st : Nat → LS) (m : Nat) (b : ByteArray) (R : List Int) (os : List (List S25)) (w : World)
  (hr1 : OpsAt w A1 l) (hc1 : l.length ≤ c1) (hT : Tabs w) (h : LogsOk k a0 l u n st m b R os) :
  Calls Tryd.prog 7 #[.string a0, .slice A1 l.length c1] w fun e w' => e = .returned (.bool true) ∧ Below w.heap.size w w' := by
 have HR1 := Aside0.mk hr1; have HC1 := Aside0.mk hc1; have HT := Aside0.mk hT; have H := Aside0.mk h
 have HF := Aside0.mk (fun (W : World) => epitomeref01_Fit.calls k _ u W h.ft)
 obtain ⟨j, hj⟩ : ∃ j : Int, mn (a0.size : Int) 20 = j := ⟨_, rfl⟩
 rw [hj] at HF
 have hj0 : 0 ≤ j := by rw [← hj]; unfold mn; split <;> omega
 have hj1 : j ≤ (a0.size : Int) := by rw [← hj]; unfold mn; split <;> omega
 have hj_ : (if 20 < (a0.size : Int) then 20 else (a0.size : Int)) = j := hj
 have b0 := eq_true hj0
 have b1 : decide (0 ≤ j) = true := decide_eq_true hj0
 have b2 := eq_true hj1
 have b3 : decide (j ≤ (a0.size : Int)) = true := decide_eq_true hj1
 have HB0 := Aside0.mk (Below.refl w.heap.size w)
 clear hr1 hc1 hT h hj hj0 hj1
 go_enter Tryd.func7, Tryd.ntmps7
 go_upto_region 3 with (first | (go_at_call 8; (with_reducible refine (epitometop_shown.calls k true _ (Tabs.below HT.out HB0.out) H.out.sh rfl).mono ?_); rintro e w2 ⟨rfl, hb⟩; have HB2 := Aside0.mk (below_step HB0.out hb); clear hb) | (go_at_call 9; (with_reducible refine (HF.out _).mono ?_); rintro e w3 ⟨rfl, hb⟩; have HB6 := Aside0.mk (below_step HB2.out hb); clear hb))
 rename World => w6
 have HT6 := Aside0.mk (Tabs.below HT.out HB6.out)
 have h0 := H.out.s0
 go_upto_region 7 with (first | (go_at_call 30; (with_reducible refine (server_New.calls k u n _ HT6.out H.out.cn H.out.c0 H.out.c1 H.out.sz).mono ?_); rintro e w7 ⟨g1, rfl, hs, hb⟩; have HS7 := Aside0.mk hs; have HB7 := Aside0.mk hb; have HT7 := Aside0.mk (Tabs.below HT6.out hb); clear hb hs HT6) | (go_at_call 30; (with_reducible refine (server_New.calls k u n _ HT7.out H.out.cn H.out.c0 H.out.c1 H.out.sz).mono ?_); rintro e w8 ⟨g2, rfl, hs, hb⟩; have T8 := Aside0.mk (TL.new (x := ⟨u, [0], [], [n], [0], [], [n]⟩) HB7.out HS7.out hb hs); clear hb hs HT7))
 have HJ : Aside0 (∃ P1 P2, TL w6 w8 P1 P2 g1 g2 u (st 0)) := ⟨⟨_, _, by rw [h0]; exact T8.out⟩⟩
 clear HS7 HB7 T8 h0 hj_ b0 b1 b2 b3 HF
 go_wp2
 go_loopw [11] (fun v11 wr => ∃ j : Nat, v11 = .int .i64 j ∧ j ≤ m ∧ Aside0 (∃ P1 P2, TL w6 wr P1 P2 g1 g2 u (st j))) (fun v11 _ => m - (intOf v11).toNat)
 case atStart => exact ⟨0, rfl, Nat.zero_le _, HJ⟩
 case round =>
  obtain ⟨j, rfl, hj, HJ2⟩ := hrel
  clear HJ
  by_cases hlt : j < m
  ·have hjl : j < l.length := by have := H.out.ml; omega
   have hltb : decide ((j : Int) < (l.length : Int)) = true := decide_eq_true (by omega)
   have hlt12 : decide ((j : Int) < 12) = true := decide_eq_true (by have := H.out.mt; omega)
   have HLT := Aside0.mk hlt; have HJL := Aside0.mk hjl
   have p1 : ((j : Int) < (l.length : Int)) = True := eq_true (by omega)
   have p2 : (j < l.length) = True := eq_true hjl
   have p3 : ((j : Int) < 12) = True := eq_true (by have := H.out.mt; omega)
   have p4 : (0 : Int) ≤ (j : Int) := by omega
   have EW : Aside0 (wrap64 ((j : Int) + 1) = ((j + 1 : Nat) : Int)) := ⟨by have := H.out.mt; unfold wrap64; omega⟩
   obtain ⟨P1, P2, T⟩ := HJ2.out
   have TR := Aside0.mk T
   have HBR := Aside0.mk (below_then HB6.out HB6.out.size T.HB)
   have hrd := H.out.rd_ j hjl hlt
   have HRD := Aside0.mk hrd
   obtain ⟨ad, eA, hops⟩ := HR1.out (by omega)
   obtain ⟨AL, cL, AS, cS, h0, h1, h2, h3, h4, h5, lL, rL, lS, rS⟩ := hops j hjl
   subst eA
   generalize l[j] = o at hrd HRD h0 h1 h2 h3 h4 h5 lL rL lS rS ⊢
   have HLL := Aside0.mk lL; have HRL := Aside0.mk rL; have HLS := Aside0.mk lS; have HRS := Aside0.mk rS
   have x0 := cell_past HBR.out h0
   have x1 : wr.cell? { block := (ad.add (j * 6)).block, off := (ad.add (j * 6)).off + 1 } = _ := cell_past HBR.out h1
   have x2 : wr.cell? { block := (ad.add (j * 6)).block, off := (ad.add (j * 6)).off + 2 } = _ := cell_past HBR.out h2
   have x3 : wr.cell? { block := (ad.add (j * 6)).block, off := (ad.add (j * 6)).off + 3 } = _ := cell_past HBR.out h3
   have x4 : wr.cell? { block := (ad.add (j * 6)).block, off := (ad.add (j * 6)).off + 4 } = _ := cell_past HBR.out h4
   have x5 : wr.cell? { block := (ad.add (j * 6)).block, off := (ad.add (j * 6)).off + 5 } = _ := cell_past HBR.out h5
   clear hops h0 h1 h2 h3 h4 h5 lL rL lS rS T hlt hj HJ2 hjl HRD
   rcases hrd with ⟨kd, q0, q, s', rv, xx, t, nt, hf, hk, q1, q2, q3, e1, e2, e3⟩ | ⟨kd, q0, q, s', rv, xx, t, nt, hf, n3, n1, i, near, m1, hd, v, yy, qq, hs, i2, near2, m2, hd2, v2, yy2, qq2, ha, ey⟩ | ⟨kd, q0, q, s', rv, xx, t, nt, hf, n3, n1, q5, i, near, er, q6, he, ey⟩
   all_goals have HTR := Aside0.mk (Tabs.below HT.out HBR.out)
   all_goals have HFit := Aside0.mk (fit_walk k wr P2 g2 u (st j).ar (st j).al (st j).az o AL cL AS cS kd q0 q s' rv xx t nt HTR.out TR.out.S2 (Kd.C_below HRL.out HBR.out) HLL.out (Kd.C_below HRS.out HBR.out) HLS.out hf)
   all_goals clear hf
   all_goals go_upto_region 11 with (go_at_call 35; (with_reducible refine HFit.out.mono ?_); rintro e w9 ⟨AX, cX, AF, cF, rfl, hx, ls, rs, hb⟩; have HX9 := Aside0.mk hx; have HLs9 := Aside0.mk ls; have HRs9 := Aside0.mk rs; have HB9 := Aside0.mk hb; clear hx ls rs hb x0 x1 x2 x3 x4 x5)
   all_goals have HO10 := Aside0.mk (heap_alloc_new w9 (.cells #[.int .i64 kd, .int .i64 rv, .int .i64 o.floor, .int .i64 o.who, .slice AX xx.length cX, .slice AF s'.length cF] 79))
   all_goals have HX10 := Aside0.mk (below_alloc (Below.refl w9.heap.size w9) (.cells #[.int .i64 kd, .int .i64 rv, .int .i64 o.floor, .int .i64 o.who, .slice AX xx.length cX, .slice AF s'.length cF] 79))
   all_goals generalize w9.alloc (.cells #[.int .i64 kd, .int .i64 rv, .int .i64 o.floor, .int .i64 o.who, .slice AX xx.length cX, .slice AF s'.length cF] 79) = w10 at HO10 HX10 ⊢
   all_goals have HGB : Aside0 (wr.heap.size ≤ w9.heap.size) := ⟨HB9.out.size⟩
   all_goals generalize w9.heap.size = gb at HO10 HGB ⊢
   all_goals have T10 := Aside0.mk (TR.out.below (below_step HB9.out HX10.out))
   all_goals have HT10 := Aside0.mk (Tabs.below HT.out (below_then HB6.out HB6.out.size T10.out.HB))
   all_goals have HXX := Aside0.mk (Kd.R_below (Kd.R_mono (ok' := fun k => wr.heap.size ≤ k) (Kd.R_bound HX9.out) (fun k hk => hk.2.1)) HX10.out)
   all_goals have HRs10 := Aside0.mk (And.intro HLs9.out (Kd.C_below HRs9.out HX10.out))
   all_goals clear HX9 HLs9 HRs9 HFit
   all_goals have y0 : w10.cell? ⟨gb, 0, none⟩ = some (.int .i64 kd) := (blk_cell HO10.out 0).trans rfl
   all_goals have y1 : w10.cell? ⟨gb, 1, none⟩ = some (.int .i64 rv) := (blk_cell HO10.out 1).trans rfl
   all_goals have y2 : w10.cell? ⟨gb, 2, none⟩ = some (.int .i64 o.floor) := (blk_cell HO10.out 2).trans rfl
   all_goals have y4 : w10.cell? ⟨gb, 4, none⟩ = some (.slice AX xx.length cX) := (blk_cell HO10.out 4).trans rfl
   all_goals have y5 : w10.cell? ⟨gb, 5, none⟩ = some (.slice AF s'.length cF) := (blk_cell HO10.out 5).trans rfl
   ·have HCp := Aside0.mk (server_Compact.calls k w10 P1 g1 (st j).sb (st (j + 1)).sb (st j).sr (st j).sl (st j).sz AF cF s' o.floor (st (j + 1)).sr (st (j + 1)).sl (st (j + 1)).sz HT10.out T10.out.S1 HRs10.out.2 HRs10.out.1 q1 q2 q3)
    rcases hk with n3 | ⟨n3, n1⟩
    all_goals go_wp2_with (go_at_call 36; (with_reducible refine HCp.out.mono ?_); rintro e w11 ⟨v11, rfl, hs, hb⟩; have T11 := Aside0.mk (T10.out.sub1 hs hb); clear hs hb)
    all_goals go_round
    all_goals first | (exact op_sum.less HLT.out EW.out) | (refine ⟨j + 1, by rw [EW.out], HLT.out, ⟨⟨_, P2, ⟨T11.out.S1, by rw [e1, e2, e3]; exact T11.out.S2, T11.out.D, T11.out.B1, T11.out.B2, T11.out.HB⟩⟩⟩⟩)
   ·have HC1 := Aside0.mk (server_Submit.calls k w10 P1 g1 (st j).sb (st j).sr (st j).sl (st j).sz rv AX cX xx i near m1 hd v yy qq HT10.out T10.out.S1 (Kd.R_reads' HXX.out).2.2 (Kd.R_reads' HXX.out).2.1 hs)
    go_upto_region 15 with (go_at_call 31; (with_reducible refine HC1.out.mono ?_); rintro e w11 ⟨Av, cv, rfl, ho, hs1, hb⟩; have T11 := Aside0.mk (T10.out.sub1 hs1 hb); have HK11 := Aside0.mk hb; clear hs1 hb ho)
    have HQ1 : Aside0 (∀ k, P1 k → k < wr.heap.size) := ⟨TR.out.S1.2.1⟩
    have HXX11 := Aside0.mk (Kd.R_kept HXX.out HK11.out.2 (fun k hk e => by have := HQ1.out k e; omega))
    have HO11 := Aside0.mk (blk_kept HO10.out HK11.out.2 (fun e => by have := HQ1.out gb e; have := HGB.out; omega))
    have HXA := Aside0.mk (below_alloc (Below.refl w11.heap.size w11) (.cells #[.slice Av yy.length cv, .int .i64 v, .int .i64 0] 72))
    have HAN := Aside0.mk (heap_alloc_new w11 (.cells #[.slice Av yy.length cv, .int .i64 v, .int .i64 0] 72))
    generalize w11.alloc (.cells #[.slice Av yy.length cv, .int .i64 v, .int .i64 0] 72) = w12 at HXA HAN ⊢
    generalize w11.heap.size = ga at HAN ⊢
    have T12 := Aside0.mk (T11.out.below HXA.out)
    have HXX12 := Aside0.mk (Kd.R_below HXX11.out HXA.out)
    have HO12 := Aside0.mk (blk_below HO11.out HXA.out)
    have HT12 := Aside0.mk (Tabs.below HT.out (below_then HB6.out HB6.out.size T12.out.HB))
    have HC2 := Aside0.mk (server_Submit.calls k w12 P2 g2 u (st j).ar (st j).al (st j).az rv AX cX xx i2 near2 m2 hd2 v2 yy2 qq2 HT12.out T12.out.S2 (Kd.R_reads' HXX12.out).2.2 (Kd.R_reads' HXX12.out).2.1 ha)
    clear y0 y1 y2 y4 y5
    have y1 : w12.cell? ⟨gb, 1, none⟩ = some (.int .i64 rv) := (blk_cell HO12.out 1).trans rfl
    have y4 : w12.cell? ⟨gb, 4, none⟩ = some (.slice AX xx.length cX) := (blk_cell HO12.out 4).trans rfl
    have z2 : w12.cell? ⟨ga, 2, none⟩ = some (.int .i64 0) := (blk_cell HAN.out 2).trans rfl
    go_wp2_with (go_at_call 31; (with_reducible refine HC2.out.mono ?_); rintro e w13 ⟨Av2, cv2, rfl, ho, hs1, hb⟩; have T13 := Aside0.mk (T12.out.sub2 hs1 hb); clear hs1 hb ho)
    go_round
    case measure => exact op_sum.less HLT.out EW.out
    case rel =>
     refine ⟨j + 1, by rw [EW.out], HLT.out, ⟨?_⟩⟩
     rw [ey]
     exact ⟨_, _, T13.out⟩
   ·have hne : (er == 0) = false := beq_eq_false_iff_ne.2 he
    have HC1 := Aside0.mk (server_SubmitNo.calls k w10 P1 g1 (st j).sb (st j).sr (st j).sl (st j).sz rv AX cX xx i near er HT10.out T10.out.S1 (Kd.R_reads' HXX.out).2.2 (Kd.R_reads' HXX.out).2.1 q5 q6 he)
    go_upto_region 15 with (go_at_call 31; (with_reducible refine HC1.out.mono ?_); rintro e w11 ⟨rfl, hb⟩; have T11 := Aside0.mk (T10.out.below hb); clear hb)
    have HXA := Aside0.mk (below_alloc (Below.refl w11.heap.size w11) (.cells #[.slice none 0 0, .int .i64 near, .int .i64 er] 72))
    have HAN := Aside0.mk (heap_alloc_new w11 (.cells #[.slice none 0 0, .int .i64 near, .int .i64 er] 72))
    generalize w11.alloc (.cells #[.slice none 0 0, .int .i64 near, .int .i64 er] 72) = w12 at HXA HAN ⊢
    generalize w11.heap.size = ga at HAN ⊢
    have z2 : w12.cell? ⟨ga, 2, none⟩ = some (.int .i64 er) := (blk_cell HAN.out 2).trans rfl
    go_wp2
    go_round
    case measure => exact op_sum.less HLT.out EW.out
    case rel =>
     refine ⟨j + 1, by rw [EW.out], HLT.out, ⟨?_⟩⟩
     rw [ey]
     exact ⟨_, _, T11.out.below HXA.out⟩
  ·have ej : j = m := by omega
   subst ej
   have hex : (decide ((j : Int) < (l.length : Int)) = false ∧ ((j : Int) < (l.length : Int)) = False ∧ (j < l.length) = False ∧ ((j : Int) < 12) = ((j : Int) < 12) ∧ (j < 12) = (j < 12) ∧ True) ∨ (decide ((j : Int) < (l.length : Int)) = true ∧ ((j : Int) < (l.length : Int)) = True ∧ (j < l.length) = True ∧ ((j : Int) < 12) = False ∧ (j < 12) = False ∧ decide ((j : Int) < 12) = false) := by
    have h1 := H.out.ml
    have hA : ¬ j < l.length → (decide ((j : Int) < (l.length : Int)) = false ∧ ((j : Int) < (l.length : Int)) = False ∧ (j < l.length) = False ∧ ((j : Int) < 12) = ((j : Int) < 12) ∧ (j < 12) = (j < 12) ∧ True) := fun c => ⟨decide_eq_false (by omega), eq_false (by omega), eq_false c, rfl, rfl, trivial⟩
    rcases H.out.me with e | e
    ·exact .inl (hA (by omega))
    ·by_cases c : j < l.length
     ·exact .inr ⟨decide_eq_true (by omega), eq_true (by omega), eq_true c, eq_false (by omega), eq_false (by omega), decide_eq_false (by omega)⟩
     ·exact .inl (hA c)
   obtain ⟨P1, P2, T⟩ := HJ2.out
   have TR := Aside0.mk T
   have HBR := Aside0.mk (below_then HB6.out HB6.out.size T.HB)
   have HLs := Aside0.mk (server_Log.calls wr P1 g1 (st j).sb (st j).sr (st j).sl (st j).sz T.S1 H.out.r1 H.out.r2 H.out.r3)
   clear T HJ2 hlt hj HR1
   have hr0 := H.out.r0
   have rn : (((st j).sr.length : Int) == 0) = false := beq_eq_false_iff_ne.2 (by omega)
   have rn2 : (((st j).sr.length : Int) = 0) = False := eq_false (by omega)
   have rn3 : ((st j).sr = []) = False := eq_false (fun e => by rw [e] at hr0; simp at hr0)
   rcases hex with ⟨x1, x2, x3, -, -, -⟩ | ⟨x1, x2, x3, x4, x5, x6⟩
   all_goals go_wp2_with (go_at_call 37; (with_reducible refine HLs.out.mono ?_); rintro e w9 ⟨Ar, cr, As, cs, rfl, hr, hs, hb⟩; have HR9 := Aside0.mk hr; have HS9 := Aside0.mk hs; have HB9 := Aside0.mk hb; clear hr hs hb)
   all_goals have HG10 := Aside0.mk (heap_alloc_new w9 (.cells #[.string (st j).sb, .slice Ar (st j).sr.length cr, .slice As (st j).sl.length cs] 42))
   all_goals have HX10 := Aside0.mk (below_alloc (Below.refl w9.heap.size w9) (.cells #[.string (st j).sb, .slice Ar (st j).sr.length cr, .slice As (st j).sl.length cs] 42))
   all_goals generalize w9.alloc (.cells #[.string (st j).sb, .slice Ar (st j).sr.length cr, .slice As (st j).sl.length cs] 42) = w10 at HG10 HX10 ⊢
   all_goals generalize w9.heap.size = gc at HG10 ⊢
   all_goals have HR10 := Aside0.mk (Kd.R_reads' (Kd.R_below HR9.out HX10.out)).2
   all_goals have HS10 := Aside0.mk (Kd.S_reads' (Kd.S_below HS9.out HX10.out)).2
   all_goals have T10 := Aside0.mk (TR.out.below (below_step HB9.out HX10.out))
   all_goals obtain ⟨ad, hA, hc⟩ := Kd.at_int HR10.out.2 0 (by omega) (by omega)
   all_goals subst hA
   all_goals have CK2 : Aside0 (w10.cell? ad = some (.int .i64 (rd (st j).sr 0))) := ⟨hc⟩
   all_goals have CK1 : Aside0 (w10.cell? ⟨gc, 1, none⟩ = some (.slice (some ad) (st j).sr.length cr)) := ⟨(blk_cell HG10.out 1).trans rfl⟩
   all_goals have HLa := Aside0.mk (fun (W : World) (hW : Below w10.heap.size w10 W) => server_Log.calls W P2 g2 u (st j).ar (st j).al (st j).az (T10.out.S2.below hW) H.out.r4 H.out.r5 H.out.r6)
   all_goals have HT10 := Aside0.mk (Tabs.below HT.out (below_then HB6.out HB6.out.size T10.out.HB))
   all_goals have HCp := Aside0.mk (fun (W : World) (hW : Below w10.heap.size w10 W) (AL : Option Addr) (cL : Nat) (AS : Option Addr) (cS : Nat) (h1 : (st j).ar.length ≤ cL) (h2 : Kd.C (Kd.int .i64) W AL (st j).ar.length (st j).ar) (h3 : (st j).al.length ≤ cS) (h4 : Kd.C (Kd.slice 25 k25) W AS (st j).al.length (st j).al) => compact_Of.calls k u AL cL (st j).ar AS cS (st j).al (some ad) cr (st j).sr (rd (st j).sr 0) b R os 0 W h2 h1 h4 h3 (Kd.C_below HR10.out.2 hW) HR10.out.1 (Tabs.below HT10.out hW) H.out.co)
   all_goals have J := (LF.start (r := (st j).ar) (l := (st j).al) (K := R) (os := os) w10).below (below_drew1 (Below.refl _ _))
   all_goals clear hc rn rn2 rn3 HLs HB9 HX10 HR9 HS9
   all_goals
    refine start_ (n := 15) (S := fun w' => w'.cell? ⟨gc, 1, none⟩ = some (.slice (some ad) (st j).sr.length cr) ∧ w'.cell? ad = some (.int .i64 (rd (st j).sr 0))) (ds := [13]) #[false, false, false, false, false, false, false, false, false, false, false, false, false, false, false] (by kernel_rfl) rfl rfl ⟨cell_past J.HB CK1.out, cell_past J.HB CK2.out⟩ (fun hHeld => ?_)
    generalize w10.drew = wd at J hHeld ⊢
    refine pure_ (i := 0) (N := some 107) (v := ?_) (a' := ?_) #[true, false, false, false, false, false, false, false, false, false, false, false, false, false, false] rfl rfl (by kernel_rfl) (fun _ _ _ h => h) (Or.inl ⟨by rfl, ?_⟩) ?_ ?_
    rotate_left
    ·intro w'
     go_simp
     with_reducible rfl
    rotate_left
    ·simp only [Act.put, List.setIfInBounds_toArray, List.set_cons_zero, List.set_cons_succ, i64_w, i32_w]
     rfl
    refine pure_ (i := 2) (N := some 109) (v := ?_) (a' := ?_) #[true, false, true, false, false, false, false, false, false, false, false, false, false, false, false] rfl rfl (by kernel_rfl) (fun _ _ _ h => h) (Or.inl ⟨by rfl, ?_⟩) ?_ ?_
    rotate_left
    ·intro w'
     go_simp
     with_reducible rfl
    rotate_left
    ·simp only [Act.put, List.setIfInBounds_toArray, List.set_cons_zero, List.set_cons_succ, i64_w, i32_w]
     rfl
    refine pure_ (i := 4) (N := some 111) (v := ?_) (a' := ?_) #[true, false, true, false, true, false, false, false, false, false, false, false, false, false, false] rfl rfl (by kernel_rfl) (fun _ _ _ h => h) (Or.inl ⟨by rfl, ?_⟩) ?_ ?_
    rotate_left
    ·intro w'
     go_simp
     with_reducible rfl
    rotate_left
    ·simp only [Act.put, List.setIfInBounds_toArray, List.set_cons_zero, List.set_cons_succ, i64_w, i32_w]
     rfl
    refine take_ (i := 3) (N := some 110) (v := ?_) (a' := ?_) #[true, false, true, true, true, false, false, false, false, false, false, false, false, false, false] rfl rfl (by kernel_rfl) (fun _ _ _ h => h) (Or.inl ⟨by rfl, ?_⟩) hHeld ?_ ?_
    rotate_left
    ·rintro w' ⟨s0, s1⟩
     go_simp
     with_reducible rfl
    rotate_left
    ·simp only [Act.put, List.setIfInBounds_toArray, List.set_cons_zero, List.set_cons_succ, i64_w, i32_w]
     rfl
    refine take_ (i := 5) (N := some 112) (v := ?_) (a' := ?_) #[true, false, true, true, true, true, false, false, false, false, false, false, false, false, false] rfl rfl (by kernel_rfl) (fun _ _ _ h => h) (Or.inl ⟨by rfl, ?_⟩) hHeld ?_ ?_
    rotate_left
    ·rintro w' ⟨s0, s1⟩
     go_simp
     with_reducible rfl
    rotate_left
    ·simp only [Act.put, List.setIfInBounds_toArray, List.set_cons_zero, List.set_cons_succ, i64_w, i32_w]
     rfl
    refine pure_ (i := 6) (N := some 113) (v := ?_) (a' := ?_) #[true, false, true, true, true, true, true, false, false, false, false, false, false, false, false] rfl rfl (by kernel_rfl) (fun _ _ _ h => h) (Or.inl ⟨by rfl, ?_⟩) ?_ ?_
    rotate_left
    ·intro w'
     go_simp
     with_reducible rfl
    rotate_left
    ·simp only [Act.put, List.setIfInBounds_toArray, List.set_cons_zero, List.set_cons_succ, i64_w, i32_w]
     rfl
    refine take_ (i := 7) (N := some 114) (v := ?_) (a' := ?_) #[true, false, true, true, true, true, true, true, false, false, false, false, false, false, false] rfl rfl (by kernel_rfl) (fun _ _ _ h => h) (Or.inl ⟨by rfl, ?_⟩) hHeld ?_ ?_
    rotate_left
    ·rintro w' ⟨s0, s1⟩
     go_simp
     with_reducible rfl
    rotate_left
    ·simp only [Act.put, List.setIfInBounds_toArray, List.set_cons_zero, List.set_cons_succ, i64_w, i32_w]
     rfl
    refine join_ (σ := Option Addr × Nat × Option Addr × Nat × Option Addr × Nat × Option Addr × Nat × Nat) 2 #[true, true, true, true, true, true, true, true, true, true, true, true, true, false, false] (fun s_ => [(108, .agg #[.string u, .slice s_.1 (st j).ar.length s_.2.1, .slice s_.2.2.1 (st j).al.length s_.2.2.2.1]), (115, .tuple #[.agg #[.string b, .slice s_.2.2.2.2.1 R.length s_.2.2.2.2.2.1, .slice s_.2.2.2.2.2.2.1 os.length s_.2.2.2.2.2.2.2.1], .int .i64 0]), (106, .tuple #[.agg #[.string b, .slice s_.2.2.2.2.1 R.length s_.2.2.2.2.2.1, .slice s_.2.2.2.2.2.2.1 os.length s_.2.2.2.2.2.2.2.1], .int .i64 0]), (116, .agg #[.string b, .slice s_.2.2.2.2.1 R.length s_.2.2.2.2.2.1, .slice s_.2.2.2.2.2.2.1 os.length s_.2.2.2.2.2.2.2.1]), (117, .int .i64 0), (16, .pointer (some ⟨s_.2.2.2.2.2.2.2.2, 0, none⟩))]) (fun s_ w' => (w'.cell? ⟨gc, 1, none⟩ = some (.slice (some ad) (st j).sr.length cr) ∧ w'.cell? ad = some (.int .i64 (rd (st j).sr 0))) ∧ LF (st j).ar (st j).al R os w10 w' s_.2.2.2.2.2.2.2.2 true true true s_.1 s_.2.1 s_.2.2.1 s_.2.2.2.1 s_.2.2.2.2.1 s_.2.2.2.2.2.1 s_.2.2.2.2.2.2.1 s_.2.2.2.2.2.2.2.1) ?_ ?_
    rotate_left
    ·intro hCont
     refine two_ (i := 1) (j := 12) (Ni := some 108) (Nj := some 16) #[true, true, true, true, true, true, true, true, false, false, false, false, false, false, false] #[true, false, true, true, true, true, true, true, false, false, false, false, true, false, false] rfl rfl rfl rfl (by kernel_rfl) (by decide) (by decide) (fun K hK => ?_) (fun K hK => ?_)
     ·skip
      refine goes_ Tryd.func37 (by kernel_rfl) rfl #[.pointer (some ⟨g2, 0, none⟩)] (by rfl) rfl rfl (by simp only [List.map_toArray, List.map_cons, List.map_nil]; rfl) ?_
      with_reducible refine (HLa.out _ J.HB).mono ?_
      rintro e w11 ⟨ArL, crL, AsL, csL, rfl, hr, hs, hb⟩
      refine ⟨_, rfl, ?_⟩
      have J1 := J.eL hb hr hs
      clear J
      have J := J1
      clear J1
      refine hK.out _ _ ⟨cell_past J.HB CK1.out, cell_past J.HB CK2.out⟩ (fun hHeld => ?_)
      clear hK K
      refine norm_ (a' := ?_) ?_ ?_
      rotate_left
      ·show Act.put _ (some 108) _ = _
       simp only [Act.put, List.setIfInBounds_toArray, List.set_cons_zero, List.set_cons_succ, i64_w, i32_w]
       rfl
      refine two_ (i := 8) (j := 12) (Ni := some 115) (Nj := some 16) #[true, true, true, true, true, true, true, true, true, false, false, false, false, false, false] #[true, true, true, true, true, true, true, true, false, false, false, false, true, false, false] rfl rfl rfl rfl (by kernel_rfl) (by decide) (by decide) (fun K hK => ?_) (fun K hK => ?_)
      ·skip
       refine goes_ Tryd.func17 (by kernel_rfl) rfl #[.agg #[.string u, .slice ArL (st j).ar.length crL, .slice AsL (st j).al.length csL], .slice (some ad) (st j).sr.length cr, .int .i64 (rd (st j).sr 0)] (by rfl) rfl rfl (by simp only [List.map_toArray, List.map_cons, List.map_nil]; rfl) ?_
       with_reducible refine (HCp.out _ J.HB ArL crL AsL csL (J.L rfl).1 (J.L rfl).2.1 (J.L rfl).2.2.1 (J.L rfl).2.2.2).mono ?_
       rintro e w12 ⟨v1, v2, rfl, ho1, ho2, hb⟩
       refine ⟨_, rfl, ?_⟩
       obtain ⟨AK, cK, rfl⟩ := Kd.R_slice ho1
       obtain ⟨AO, cO, rfl⟩ := Kd.S_slice ho2
       have J1 := J.eC hb ho1 ho2
       clear J
       have J := J1
       clear J1
       refine hK.out _ _ ⟨cell_past J.HB CK1.out, cell_past J.HB CK2.out⟩ (fun hHeld => ?_)
       clear hK K
       refine norm_ (a' := ?_) ?_ ?_
       rotate_left
       ·show Act.put _ (some 115) _ = _
        simp only [Act.put, List.setIfInBounds_toArray, List.set_cons_zero, List.set_cons_succ, i64_w, i32_w]
        rfl
       refine pure_ (i := 9) (N := some 106) (v := ?_) (a' := ?_) #[true, true, true, true, true, true, true, true, true, true, false, false, false, false, false] rfl rfl (by kernel_rfl) (fun _ _ _ h => h) (Or.inl ⟨by rfl, ?_⟩) ?_ ?_
       rotate_left
       ·intro w'
        go_simp
        with_reducible rfl
       rotate_left
       ·simp only [Act.put, List.setIfInBounds_toArray, List.set_cons_zero, List.set_cons_succ, i64_w, i32_w]
        rfl
       refine pure_ (i := 10) (N := some 116) (v := ?_) (a' := ?_) #[true, true, true, true, true, true, true, true, true, true, true, false, false, false, false] rfl rfl (by kernel_rfl) (fun _ _ _ h => h) (Or.inl ⟨by rfl, ?_⟩) ?_ ?_
       rotate_left
       ·intro w'
        go_simp
        with_reducible rfl
       rotate_left
       ·simp only [Act.put, List.setIfInBounds_toArray, List.set_cons_zero, List.set_cons_succ, i64_w, i32_w]
        rfl
       refine pure_ (i := 11) (N := some 117) (v := ?_) (a' := ?_) #[true, true, true, true, true, true, true, true, true, true, true, true, false, false, false] rfl rfl (by kernel_rfl) (fun _ _ _ h => h) (Or.inl ⟨by rfl, ?_⟩) ?_ ?_
       rotate_left
       ·intro w'
        go_simp
        with_reducible rfl
       rotate_left
       ·simp only [Act.put, List.setIfInBounds_toArray, List.set_cons_zero, List.set_cons_succ, i64_w, i32_w]
        rfl
       refine one_ (i := 12) (N := some 16) #[true, true, true, true, true, true, true, true, true, true, true, true, true, false, false] rfl rfl (by kernel_rfl) (by decide) (fun K hK => ?_)
       refine value_ (w1 := ?_) (v := ?_) (by rfl) rfl ?_ ?_
       rotate_left 2
       ·go_simp
        constructor
        ·rfl
        ·rfl
       have J1 := J.eA
       try simp only [alloc_heap_size] at J1
       clear J
       have J := J1
       clear J1
       refine hK.out _ _ ⟨cell_past J.HB CK1.out, cell_past J.HB CK2.out⟩ (fun hHeld => ?_)
       clear hK K
       refine norm_ (a' := ?_) ?_ ?_
       rotate_left
       ·show Act.put _ (some 16) _ = _
        simp only [Act.put, List.setIfInBounds_toArray, List.set_cons_zero, List.set_cons_succ, i64_w, i32_w]
        rfl
       refine norm_ ?_ (hCont (_, _, _, _, _, _, _, _, _) _ ⟨⟨cell_past J.HB CK1.out, cell_past J.HB CK2.out⟩, J⟩)
       first | (simp only [putAll, Act.put, List.setIfInBounds_toArray, List.set_cons_zero, List.set_cons_succ]; done) | (simp only [putAll, Act.put, List.setIfInBounds_toArray, List.set_cons_zero, List.set_cons_succ]; rfl)
      ·skip
       refine value_ (w1 := ?_) (v := ?_) (by rfl) rfl ?_ ?_
       rotate_left 2
       ·go_simp
        constructor
        ·rfl
        ·rfl
       have J1 := J.eA
       try simp only [alloc_heap_size] at J1
       clear J
       have J := J1
       clear J1
       refine hK.out _ _ ⟨cell_past J.HB CK1.out, cell_past J.HB CK2.out⟩ (fun hHeld => ?_)
       clear hK K
       refine norm_ (a' := ?_) ?_ ?_
       rotate_left
       ·show Act.put _ (some 16) _ = _
        simp only [Act.put, List.setIfInBounds_toArray, List.set_cons_zero, List.set_cons_succ, i64_w, i32_w]
        rfl
       refine one_ (i := 8) (N := some 115) #[true, true, true, true, true, true, true, true, true, false, false, false, true, false, false] rfl rfl (by kernel_rfl) (by decide) (fun K hK => ?_)
       refine goes_ Tryd.func17 (by kernel_rfl) rfl #[.agg #[.string u, .slice ArL (st j).ar.length crL, .slice AsL (st j).al.length csL], .slice (some ad) (st j).sr.length cr, .int .i64 (rd (st j).sr 0)] (by rfl) rfl rfl (by simp only [List.map_toArray, List.map_cons, List.map_nil]; rfl) ?_
       with_reducible refine (HCp.out _ J.HB ArL crL AsL csL (J.L rfl).1 (J.L rfl).2.1 (J.L rfl).2.2.1 (J.L rfl).2.2.2).mono ?_
       rintro e w12 ⟨v1, v2, rfl, ho1, ho2, hb⟩
       refine ⟨_, rfl, ?_⟩
       obtain ⟨AK, cK, rfl⟩ := Kd.R_slice ho1
       obtain ⟨AO, cO, rfl⟩ := Kd.S_slice ho2
       have J1 := J.eC hb ho1 ho2
       clear J
       have J := J1
       clear J1
       refine hK.out _ _ ⟨cell_past J.HB CK1.out, cell_past J.HB CK2.out⟩ (fun hHeld => ?_)
       clear hK K
       refine norm_ (a' := ?_) ?_ ?_
       rotate_left
       ·show Act.put _ (some 115) _ = _
        simp only [Act.put, List.setIfInBounds_toArray, List.set_cons_zero, List.set_cons_succ, i64_w, i32_w]
        rfl
       refine pure_ (i := 9) (N := some 106) (v := ?_) (a' := ?_) #[true, true, true, true, true, true, true, true, true, true, false, false, true, false, false] rfl rfl (by kernel_rfl) (fun _ _ _ h => h) (Or.inl ⟨by rfl, ?_⟩) ?_ ?_
       rotate_left
       ·intro w'
        go_simp
        with_reducible rfl
       rotate_left
       ·simp only [Act.put, List.setIfInBounds_toArray, List.set_cons_zero, List.set_cons_succ, i64_w, i32_w]
        rfl
       refine pure_ (i := 10) (N := some 116) (v := ?_) (a' := ?_) #[true, true, true, true, true, true, true, true, true, true, true, false, true, false, false] rfl rfl (by kernel_rfl) (fun _ _ _ h => h) (Or.inl ⟨by rfl, ?_⟩) ?_ ?_
       rotate_left
       ·intro w'
        go_simp
        with_reducible rfl
       rotate_left
       ·simp only [Act.put, List.setIfInBounds_toArray, List.set_cons_zero, List.set_cons_succ, i64_w, i32_w]
        rfl
       refine pure_ (i := 11) (N := some 117) (v := ?_) (a' := ?_) #[true, true, true, true, true, true, true, true, true, true, true, true, true, false, false] rfl rfl (by kernel_rfl) (fun _ _ _ h => h) (Or.inl ⟨by rfl, ?_⟩) ?_ ?_
       rotate_left
       ·intro w'
        go_simp
        with_reducible rfl
       rotate_left
       ·simp only [Act.put, List.setIfInBounds_toArray, List.set_cons_zero, List.set_cons_succ, i64_w, i32_w]
        rfl
       refine norm_ ?_ (hCont (_, _, _, _, _, _, _, _, _) _ ⟨⟨cell_past J.HB CK1.out, cell_past J.HB CK2.out⟩, J⟩)
       first | (simp only [putAll, Act.put, List.setIfInBounds_toArray, List.set_cons_zero, List.set_cons_succ]; done) | (simp only [putAll, Act.put, List.setIfInBounds_toArray, List.set_cons_zero, List.set_cons_succ]; rfl)
     ·skip
      refine value_ (w1 := ?_) (v := ?_) (by rfl) rfl ?_ ?_
      rotate_left 2
      ·go_simp
       constructor
       ·rfl
       ·rfl
      have J1 := J.eA
      try simp only [alloc_heap_size] at J1
      clear J
      have J := J1
      clear J1
      refine hK.out _ _ ⟨cell_past J.HB CK1.out, cell_past J.HB CK2.out⟩ (fun hHeld => ?_)
      clear hK K
      refine norm_ (a' := ?_) ?_ ?_
      rotate_left
      ·show Act.put _ (some 16) _ = _
       simp only [Act.put, List.setIfInBounds_toArray, List.set_cons_zero, List.set_cons_succ, i64_w, i32_w]
       rfl
      refine one_ (i := 1) (N := some 108) #[true, true, true, true, true, true, true, true, false, false, false, false, true, false, false] rfl rfl (by kernel_rfl) (by decide) (fun K hK => ?_)
      refine goes_ Tryd.func37 (by kernel_rfl) rfl #[.pointer (some ⟨g2, 0, none⟩)] (by rfl) rfl rfl (by simp only [List.map_toArray, List.map_cons, List.map_nil]; rfl) ?_
      with_reducible refine (HLa.out _ J.HB).mono ?_
      rintro e w11 ⟨ArL, crL, AsL, csL, rfl, hr, hs, hb⟩
      refine ⟨_, rfl, ?_⟩
      have J1 := J.eL hb hr hs
      clear J
      have J := J1
      clear J1
      refine hK.out _ _ ⟨cell_past J.HB CK1.out, cell_past J.HB CK2.out⟩ (fun hHeld => ?_)
      clear hK K
      refine norm_ (a' := ?_) ?_ ?_
      rotate_left
      ·show Act.put _ (some 108) _ = _
       simp only [Act.put, List.setIfInBounds_toArray, List.set_cons_zero, List.set_cons_succ, i64_w, i32_w]
       rfl
      refine one_ (i := 8) (N := some 115) #[true, true, true, true, true, true, true, true, true, false, false, false, true, false, false] rfl rfl (by kernel_rfl) (by decide) (fun K hK => ?_)
      refine goes_ Tryd.func17 (by kernel_rfl) rfl #[.agg #[.string u, .slice ArL (st j).ar.length crL, .slice AsL (st j).al.length csL], .slice (some ad) (st j).sr.length cr, .int .i64 (rd (st j).sr 0)] (by rfl) rfl rfl (by simp only [List.map_toArray, List.map_cons, List.map_nil]; rfl) ?_
      with_reducible refine (HCp.out _ J.HB ArL crL AsL csL (J.L rfl).1 (J.L rfl).2.1 (J.L rfl).2.2.1 (J.L rfl).2.2.2).mono ?_
      rintro e w12 ⟨v1, v2, rfl, ho1, ho2, hb⟩
      refine ⟨_, rfl, ?_⟩
      obtain ⟨AK, cK, rfl⟩ := Kd.R_slice ho1
      obtain ⟨AO, cO, rfl⟩ := Kd.S_slice ho2
      have J1 := J.eC hb ho1 ho2
      clear J
      have J := J1
      clear J1
      refine hK.out _ _ ⟨cell_past J.HB CK1.out, cell_past J.HB CK2.out⟩ (fun hHeld => ?_)
      clear hK K
      refine norm_ (a' := ?_) ?_ ?_
      rotate_left
      ·show Act.put _ (some 115) _ = _
       simp only [Act.put, List.setIfInBounds_toArray, List.set_cons_zero, List.set_cons_succ, i64_w, i32_w]
       rfl
      refine pure_ (i := 9) (N := some 106) (v := ?_) (a' := ?_) #[true, true, true, true, true, true, true, true, true, true, false, false, true, false, false] rfl rfl (by kernel_rfl) (fun _ _ _ h => h) (Or.inl ⟨by rfl, ?_⟩) ?_ ?_
      rotate_left
      ·intro w'
       go_simp
       with_reducible rfl
      rotate_left
      ·simp only [Act.put, List.setIfInBounds_toArray, List.set_cons_zero, List.set_cons_succ, i64_w, i32_w]
       rfl
      refine pure_ (i := 10) (N := some 116) (v := ?_) (a' := ?_) #[true, true, true, true, true, true, true, true, true, true, true, false, true, false, false] rfl rfl (by kernel_rfl) (fun _ _ _ h => h) (Or.inl ⟨by rfl, ?_⟩) ?_ ?_
      rotate_left
      ·intro w'
       go_simp
       with_reducible rfl
      rotate_left
      ·simp only [Act.put, List.setIfInBounds_toArray, List.set_cons_zero, List.set_cons_succ, i64_w, i32_w]
       rfl
      refine pure_ (i := 11) (N := some 117) (v := ?_) (a' := ?_) #[true, true, true, true, true, true, true, true, true, true, true, true, true, false, false] rfl rfl (by kernel_rfl) (fun _ _ _ h => h) (Or.inl ⟨by rfl, ?_⟩) ?_ ?_
      rotate_left
      ·intro w'
       go_simp
       with_reducible rfl
      rotate_left
      ·simp only [Act.put, List.setIfInBounds_toArray, List.set_cons_zero, List.set_cons_succ, i64_w, i32_w]
       rfl
      refine norm_ ?_ (hCont (_, _, _, _, _, _, _, _, _) _ ⟨⟨cell_past J.HB CK1.out, cell_past J.HB CK2.out⟩, J⟩)
      first | (simp only [putAll, Act.put, List.setIfInBounds_toArray, List.set_cons_zero, List.set_cons_succ]; done) | (simp only [putAll, Act.put, List.setIfInBounds_toArray, List.set_cons_zero, List.set_cons_succ]; rfl)
    rintro ⟨ArL, crL, AsL, csL, AK, cK, AO, cO, gd⟩ wj ⟨hHeld, J⟩
    refine norm_ (a' := ?_) ?_ ?_
    rotate_left
    ·simp only [putAll, Act.put, List.setIfInBounds_toArray, List.set_cons_zero, List.set_cons_succ]
     rfl
    refine last_ (i := 13) (N := none) #[true, true, true, true, true, true, true, true, true, true, true, true, true, true, false] rfl rfl (by kernel_rfl) (by decide) (fun K hK => ?_)
    have hz0 : wj.cell? ⟨gd, 0, none⟩ = some (.string ⟨#[]⟩) := (blk_cell (J.A rfl).1 0).trans rfl
    have hz1 : wj.cell? ⟨gd, 1, none⟩ = some (.slice none 0 0) := (blk_cell (J.A rfl).1 1).trans rfl
    have hz2 : wj.cell? ⟨gd, 2, none⟩ = some (.slice none 0 0) := (blk_cell (J.A rfl).1 2).trans rfl
    have hy0 := blk_frozen (J.A rfl).1 0
    have hy1 := blk_frozen (J.A rfl).1 1
    have hy2 := blk_frozen (J.A rfl).1 2
    refine skip_ (w1 := ?_) (by rfl) rfl ?_ ?_
    rotate_left
    ·go_simp
     rfl
    clear hz0 hz1 hz2 hy0 hy1 hy2
    refine hK.out _ _ ?_
    clear hK K
    refine pure_ (i := 14) (N := some 17) (v := ?_) (a' := ?_) #[true, true, true, true, true, true, true, true, true, true, true, true, true, true, true] rfl rfl (by kernel_rfl) (fun _ _ _ h => h) (Or.inl ⟨by rfl, ?_⟩) ?_ ?_
    rotate_left
    ·intro w'
     go_simp
     with_reducible rfl
    rotate_left
    ·simp only [Act.put, List.setIfInBounds_toArray, List.set_cons_zero, List.set_cons_succ, i64_w, i32_w]
     rfl
    refine done_ (by kernel_rfl) ?_
   all_goals have HD1 := Aside0.mk (blk_put (blk_put (blk_put (J.A rfl).1 0 (.string b) rfl) 1 (.slice AK R.length cK) rfl) 2 (.slice AO os.length cO) rfl)
   all_goals have HRK := Aside0.mk (Kd.R_reads' (Kd.R_far (p := ⟨gd, 2, none⟩) (Kd.R_far (p := ⟨gd, 1, none⟩) (Kd.R_far (p := ⟨gd, 0, none⟩) (Kd.R_types (J.C rfl).1 (J.A rfl).1 (by decide)) (fun _ hk => hk.2) (.string b)) (fun _ hk => hk.2) (.slice AK R.length cK)) (fun _ hk => hk.2) (.slice AO os.length cO))).2
   all_goals have HSO := Aside0.mk (Kd.S_reads' (Kd.S_far (p := ⟨gd, 2, none⟩) (Kd.S_far (p := ⟨gd, 1, none⟩) (Kd.S_far (p := ⟨gd, 0, none⟩) (Kd.S_types (J.C rfl).2 (J.A rfl).1 (by decide)) (fun _ hk => hk.2) (.string b)) (fun _ hk => hk.2) (.slice AK R.length cK)) (fun _ hk => hk.2) (.slice AO os.length cO))).2
   all_goals have HBX := Aside0.mk (((J.HB.setCell (J.A rfl).2 (.string b)).setCell (J.A rfl).2 (.slice AK R.length cK)).setCell (J.A rfl).2 (.slice AO os.length cO) : Below w10.heap.size w10 (((wj.setCell ⟨gd, 0, none⟩ (.string b)).setCell ⟨gd, 1, none⟩ (.slice AK R.length cK)).setCell ⟨gd, 2, none⟩ (.slice AO os.length cO)))
   all_goals clear J hHeld
   all_goals generalize ((wj.setCell ⟨gd, 0, none⟩ (.string b)).setCell ⟨gd, 1, none⟩ (.slice AK R.length cK)).setCell ⟨gd, 2, none⟩ (.slice AO os.length cO) = wX at HD1 HRK HSO HBX ⊢
   all_goals have hd0 : wX.cell? ⟨gd, 0, none⟩ = some (.string b) := (blk_cell HD1.out 0).trans rfl
   all_goals have hd1 : wX.cell? ⟨gd, 1, none⟩ = some (.slice AK R.length cK) := (blk_cell HD1.out 1).trans rfl
   all_goals have hd2 : wX.cell? ⟨gd, 2, none⟩ = some (.slice AO os.length cO) := (blk_cell HD1.out 2).trans rfl
   all_goals have hGX := blk_below HG10.out HBX.out
   all_goals have hc0 : wX.cell? ⟨gc, 0, none⟩ = some (.string (st j).sb) := (blk_cell hGX 0).trans rfl
   all_goals have hc1 : wX.cell? ⟨gc, 1, none⟩ = some (.slice (some ad) (st j).sr.length cr) := (blk_cell hGX 1).trans rfl
   all_goals have hc2 : wX.cell? ⟨gc, 2, none⟩ = some (.slice As (st j).sl.length cs) := (blk_cell hGX 2).trans rfl
   all_goals have HSm := Aside0.mk (epitomeref16_Same.calls k (st j).sb (some ad) cr (st j).sr As cs (st j).sl b AK cK R AO cO os true wX (Kd.C_below HR10.out.2 HBX.out) HR10.out.1 (Kd.C_below HS10.out.2 HBX.out) HS10.out.1 HRK.out.2 HRK.out.1 HSO.out.2 HSO.out.1 H.out.sm)
   all_goals go_wp2_with (go_at_call 38; (with_reducible refine HSm.out.mono ?_); rintro e w13 ⟨rfl, hb⟩; have HB13 := Aside0.mk hb; clear hb)
   all_goals go_ret
   all_goals exact ⟨by first | rfl | simp, below_step (below_then HB6.out HB6.out.size T10.out.HB) (below_step HBX.out HB13.out)⟩
end Go.Proofs.YtegjegihcebimaaDoor.P
end
