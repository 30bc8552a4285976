/- Part 15 of the proof of topTwo_holds: out of the texts that this session's programs wrote, what the theorem reaches. -/
import Derived.Test.YtegjegihcebimaaDoorZ14
section
namespace Go.Proofs.YtegjegihcebimaaDoor.P
open Go.RowKit Go.Proofs.YtegjegihcebimaaDoorW.PrintWords Go.Proofs.YtegjegihcebimaaDoorW.PrintLast Go.Proofs.YtegjegihcebimaaDoorW.PrintMore
attribute [local go_sem] max2_int min2_int max_two min_two max_three min_three max_four min_four
set_option linter.unusedVariables false
set_option linter.unusedSimpArgs false
set_option maxHeartbeats 16000000 in
set_option maxRecDepth 100000 in
theorem two_walk (k : Nat) (a0 : ByteArray) (A1 : Option Addr) (c1 : Nat) (l0 : List S25) (A2 : Option Addr) (c2 : Nat) (l1 : List S25) (u : ByteArray) (n : Int) (xa xb ya yb pa pb na nb ua ub : List S25) (za zb qa qb m na' nb' : Int) (la lb ls lt oa ob : List S25) (one two : ByteArray) (w : World)
  (hr1 : Kd.C k25 w A1 l0.length l0) (hc1 : l0.length ≤ c1) (hr2 : Kd.C k25 w A2 l1.length l1) (hc2 : l1.length ≤ c2) (hT : Tabs w) (h : TwoOk k a0 l0 l1 u n xa xb ya yb pa pb na nb ua ub za zb qa qb m na' nb' la lb ls lt oa ob one two) :
  Calls Tryd.prog 6 #[.string a0, .agg #[.slice A1 l0.length c1, .slice A2 l1.length c2]] w fun e w' => e = .returned (.bool true) ∧ Below w.heap.size w w' := by
 have HR1 := Aside0.mk hr1; have HC1 := Aside0.mk hc1; have HR2 := Aside0.mk hr2; have HC2 := Aside0.mk hc2; have HT := Aside0.mk hT; have H := Aside0.mk h
 have HF := Aside0.mk (fun (W : World) => epitomeref01_Fit.calls k _ u W h.ft)
 obtain ⟨j, hj⟩ : ∃ j : Int, mn (a0.size : Int) 20 = j := ⟨_, rfl⟩
 rw [hj] at HF
 have hj0 : 0 ≤ j := by rw [← hj]; unfold mn; split <;> omega
 have hj1 : j ≤ (a0.size : Int) := by rw [← hj]; unfold mn; split <;> omega
 have hj_ : (if 20 < (a0.size : Int) then 20 else (a0.size : Int)) = j := hj
 have b0 := eq_true hj0
 have b1 : decide (0 ≤ j) = true := decide_eq_true hj0
 have b2 := eq_true hj1
 have b3 : decide (j ≤ (a0.size : Int)) = true := decide_eq_true hj1
 clear hr1 hc1 hr2 hc2 hT h hj hj0 hj1
 go_enter Tryd.func6, Tryd.ntmps6
 have BK0 := Aside0.mk (heap_alloc_new w (.cells #[.slice A1 l0.length c1, .slice A2 l1.length c2] 67))
 have HB0 := Aside0.mk (below_alloc (Below.refl w.heap.size w) (.cells #[.slice A1 l0.length c1, .slice A2 l1.length c2] 67))
 go_upto_region 1 with (fail)
 generalize w.alloc (.cells #[.slice A1 l0.length c1, .slice A2 l1.length c2] 67) = w1 at BK0 HB0 ⊢
 go_upto_region 4 with (first | (go_at_call 8; (with_reducible refine (epitometop_shown.calls k true _ (Tabs.below HT.out HB0.out) H.out.sh rfl).mono ?_); rintro e w2 ⟨rfl, hb⟩; have HB2 := Aside0.mk (below_step HB0.out hb); have BK2 := Aside0.mk (blk_below BK0.out hb); clear hb) | (go_at_call 9; (with_reducible refine (HF.out _).mono ?_); rintro e w3 ⟨rfl, hb⟩; have HB3 := Aside0.mk (below_step HB2.out hb); have BK3 := Aside0.mk (blk_below BK2.out hb); clear hb) | (go_at_call 10; (with_reducible refine (points_Count.calls u n _ (Tabs.below HT.out HB3.out) H.out.cn).mono ?_); rintro e w4 ⟨rfl, hb⟩; have HB4 := Aside0.mk (below_step HB3.out hb); have BK4 := Aside0.mk (blk_below BK3.out hb); clear hb))
 have k0 : w4.cell? ⟨w.heap.size, 0, none⟩ = some (.slice A1 l0.length c1) := (blk_cell BK4.out 0).trans rfl
 have k1 : w4.cell? ⟨w.heap.size, 1, none⟩ = some (.slice A2 l1.length c2) := (blk_cell BK4.out 1).trans rfl
 go_upto_region 6 with (first | (go_at_call 28; (with_reducible refine (epitomeref04_Fit.calls k A1 c1 l0 n xa _ (Kd.C_below HR1.out HB4.out) HC1.out H.out.fa).mono ?_); rintro e w5 ⟨v5, rfl, ho, hb⟩; obtain ⟨Aa, ca, rfl⟩ := Kd.R_slice ho; have HB5 := Aside0.mk (below_step HB4.out hb); have HOa := Aside0.mk (Kd.R_reads' ho).2; have k2 : w5.cell? ⟨w.heap.size, 1, none⟩ = some (.slice A2 l1.length c2) := cell_past hb k1; clear hb ho k0 k1) | (go_at_call 28; (with_reducible refine (epitomeref04_Fit.calls k A2 c2 l1 n xb _ (Kd.C_below HR2.out HB5.out) HC2.out H.out.fb).mono ?_); rintro e w6 ⟨v6, rfl, ho, hb⟩; obtain ⟨Ab, cb, rfl⟩ := Kd.R_slice ho; have HB6 := Aside0.mk (below_step HB5.out hb); have HOb := Aside0.mk (Kd.R_reads' ho).2; have HOA := Aside0.mk (And.intro HOa.out.1 (Kd.C_below HOa.out.2 hb)); clear hb ho HOa k2))
 clear HB0 BK0 HB2 BK2 HB3 BK3 HB4 BK4 HB5 HR1 HC1 HR2 HC2
 have HT6 := Aside0.mk (Tabs.below HT.out HB6.out)
 go_upto_region 10 with (first | (go_at_call 30; (with_reducible refine (server_New.calls k u n _ HT6.out H.out.cn H.out.c0 H.out.c1 H.out.sz).mono ?_); rintro e w7 ⟨g1, rfl, hs, hb⟩; have HS7 := Aside0.mk hs; have HB7 := Aside0.mk hb; have HT7 := Aside0.mk (Tabs.below HT6.out hb); clear hb hs HT6) | (go_at_call 30; (with_reducible refine (server_New.calls k u n _ HT7.out H.out.cn H.out.c0 H.out.c1 H.out.sz).mono ?_); rintro e w8 ⟨g2, rfl, hs, hb⟩; have T8 := Aside0.mk (TS.new HB7.out HS7.out hb hs); clear hb hs HT7))
 clear HS7 HB7
 obtain ⟨P1, P2, T8⟩ : ∃ P1 P2, Aside0 (TS w6 w8 P1 P2 g1 g2 u [0] [] [n] [0] [] [n]) := ⟨_, _, T8⟩
 go_upto_region 11 with (go_at_call 31; (with_reducible refine (server_Submit.calls k _ _ g1 u [0] [] [n] 0 Aa ca xa 0 0 n 0 1 ya za (Tabs.below HT.out (below_then HB6.out HB6.out.size T8.out.HB)) T8.out.S1 (Kd.C_below HOA.out.2 T8.out.HB) HOA.out.1 H.out.s1).mono ?_); rintro e w9 ⟨Av1, cv1, rfl, ho, hs, hk⟩; have HV1 := Aside0.mk ho; have HK1 := Aside0.mk hk; have T1 := Aside0.mk (T8.out.sub1 hs hk); clear ho hs hk)
 have hbx := ans_box w9 (.slice Av1 ya.length cv1) 1 0
 have HA1 := Aside0.mk hbx.2
 have HX1 := Aside0.mk hbx.1
 have U1 := Aside0.mk (T1.out.below hbx.1)
 clear hbx T1
 generalize w9.alloc (.cells #[.slice Av1 ya.length cv1, .int .i64 1, .int .i64 0] 72) = wa at HA1 HX1 U1 ⊢
 go_upto_region 12 with (go_at_call 31; (with_reducible refine (server_Submit.calls k _ _ g1 u ([0] ++ [1]) ([] ++ [ya]) ([n] ++ [za]) 0 Ab cb xb 0 0 n 1 2 pb qb (Tabs.below HT.out (below_then HB6.out HB6.out.size U1.out.HB)) U1.out.S1 (Kd.C_below HOb.out.2 U1.out.HB) HOb.out.1 H.out.s2).mono ?_); rintro e w10 ⟨Av2, cv2, rfl, ho, hs, hk⟩; have HV2 := Aside0.mk ho; have HK2 := Aside0.mk hk; have T2 := Aside0.mk (U1.out.sub1 hs hk); clear ho hs hk)
 have hbx := ans_box w10 (.slice Av2 pb.length cv2) 2 0
 have HA2 := Aside0.mk hbx.2
 have HX2 := Aside0.mk hbx.1
 have U2 := Aside0.mk (T2.out.below hbx.1)
 clear hbx T2
 generalize w10.alloc (.cells #[.slice Av2 pb.length cv2, .int .i64 2, .int .i64 0] 72) = wb at HA2 HX2 U2 ⊢
 go_upto_region 13 with (go_at_call 31; (with_reducible refine (server_Submit.calls k _ _ g2 u [0] [] [n] 0 Ab cb xb 0 0 n 0 1 yb zb (Tabs.below HT.out (below_then HB6.out HB6.out.size U2.out.HB)) U2.out.S2 (Kd.C_below HOb.out.2 U2.out.HB) HOb.out.1 H.out.t1).mono ?_); rintro e w11 ⟨Av3, cv3, rfl, ho, hs, hk⟩; have HV3 := Aside0.mk ho; have HK3 := Aside0.mk hk; have T3 := Aside0.mk (U2.out.sub2 hs hk); clear ho hs hk)
 have hbx := ans_box w11 (.slice Av3 yb.length cv3) 1 0
 have HA3 := Aside0.mk hbx.2
 have HX3 := Aside0.mk hbx.1
 have U3 := Aside0.mk (T3.out.below hbx.1)
 clear hbx T3
 generalize w11.alloc (.cells #[.slice Av3 yb.length cv3, .int .i64 1, .int .i64 0] 72) = wc at HA3 HX3 U3 ⊢
 go_upto_region 14 with (go_at_call 31; (with_reducible refine (server_Submit.calls k _ _ g2 u ([0] ++ [1]) ([] ++ [yb]) ([n] ++ [zb]) 0 Aa ca xa 0 0 n 1 2 pa qa (Tabs.below HT.out (below_then HB6.out HB6.out.size U3.out.HB)) U3.out.S2 (Kd.C_below HOA.out.2 U3.out.HB) HOA.out.1 H.out.t2).mono ?_); rintro e w12 ⟨Av4, cv4, rfl, ho, hs, hk⟩; have HV4 := Aside0.mk ho; have HK4 := Aside0.mk hk; have T4 := Aside0.mk (U3.out.sub2 hs hk); clear ho hs hk)
 have hbx := ans_box w12 (.slice Av4 pa.length cv4) 2 0
 have HA4 := Aside0.mk hbx.2
 have HX4 := Aside0.mk hbx.1
 have U4 := Aside0.mk (T4.out.below hbx.1)
 clear hbx T4
 generalize w12.alloc (.cells #[.slice Av4 pa.length cv4, .int .i64 2, .int .i64 0] 72) = wd at HA4 HX4 U4 ⊢
 have s1 := HK1.out.size; have s2 := HX1.out.size; have s3 := HK2.out.size; have s4 := HX2.out.size; have s5 := HK3.out.size; have s6 := HX3.out.size; have s7 := HK4.out.size; have s8 := HX4.out.size
 have q1 := T8.out.S1.2.1; have q2 := T8.out.S2.2.1
 have l1_ := blk_lt HA1.out; have l2_ := blk_lt HA2.out; have l3_ := blk_lt HA3.out
 have HV := Aside0.mk (Kd.R_reads' (Kd.R_below (Kd.R_kept (Kd.R_below (Kd.R_kept (Kd.R_below (Kd.R_mono (ok' := fun k => wa.heap.size ≤ k ∧ k < w10.heap.size) (Kd.R_bound HV2.out) (fun k hk => ⟨hk.2.1, hk.2.2.1⟩)) HX2.out) HK3.out.2 (fun k_ hk e => by have := q2 k_ e; omega)) HX3.out) HK4.out.2 (fun k_ hk e => Or.elim e (fun e => by have := q2 k_ e; omega) (fun e => by omega))) HX4.out))
 have HU := Aside0.mk (Kd.R_reads' (Kd.R_below HV4.out HX4.out))
 have DA1 := Aside0.mk (blk_below (blk_kept (blk_below (blk_kept (blk_below (blk_kept HA1.out HK2.out.2 (fun e => Or.elim e (fun e => by have := q1 _ e; omega) (fun e => by omega))) HX2.out) HK3.out.2 (fun e => by have := q2 _ e; omega)) HX3.out) HK4.out.2 (fun e => Or.elim e (fun e => by have := q2 _ e; omega) (fun e => by omega))) HX4.out)
 have DA2 := Aside0.mk (blk_below (blk_kept (blk_below (blk_kept HA2.out HK3.out.2 (fun e => by have := q2 _ e; omega)) HX3.out) HK4.out.2 (fun e => Or.elim e (fun e => by have := q2 _ e; omega) (fun e => by omega))) HX4.out)
 have DA3 := Aside0.mk (blk_below (blk_kept HA3.out HK4.out.2 (fun e => Or.elim e (fun e => by have := q2 _ e; omega) (fun e => by omega))) HX4.out)
 have DA4 := HA4
 clear s1 s2 s3 s4 s5 s6 s7 s8 q1 q2 l1_ l2_ l3_ HV1 HV2 HV3 HV4 HA1 HA2 HA3 HA4 HX1 HX2 HX3 HX4 HK1 HK2 HK3 HK4 U1 U2 U3 T8
 generalize w9.heap.size = e1 at DA1 ⊢
 generalize w10.heap.size = e2 at DA2 ⊢
 generalize w11.heap.size = e3 at DA3 ⊢
 generalize w12.heap.size = e4 at DA4 ⊢
 have HTD := Aside0.mk (Tabs.below HT.out (below_then HB6.out HB6.out.size U4.out.HB))
 have HBD := Aside0.mk (below_then HB6.out HB6.out.size U4.out.HB)
 have HXA := Aside0.mk (fun (W : World) (hW : Below wd.heap.size wd W) => Kd.C_below HOA.out.2 (below_then U4.out.HB U4.out.HB.size hW))
 have HXB := Aside0.mk (fun (W : World) (hW : Below wd.heap.size wd W) => Kd.C_below HOb.out.2 (below_then U4.out.HB U4.out.HB.size hW))
 have F1 := Aside0.mk (fun (W : World) (hW : Below wd.heap.size wd W) => over_Of.calls k Ab cb xb Aa ca xa pb 0 W (HXB.out W hW) HOb.out.1 (HXA.out W hW) HOA.out.1 (Tabs.below HTD.out hW) H.out.vb)
 have F2 := Aside0.mk (fun (W : World) (hW : Below wd.heap.size wd W) => over_Of.calls k Aa ca xa Ab cb xb pa 0 W (HXA.out W hW) HOA.out.1 (HXB.out W hW) HOb.out.1 (Tabs.below HTD.out hW) H.out.va)
 go_upto_region 15 with (go_at_call 13; (with_reducible refine (F1.out _ (Below.refl _ _)).mono ?_); rintro e w13 ⟨v13, rfl, ho, hb⟩; obtain ⟨Ap, cp, rfl⟩ := Kd.R_slice ho; have HP13 := Aside0.mk (Kd.R_reads' ho).2; have HB13 := Aside0.mk hb; clear ho hb)
 go_upto_region 16 with (go_at_call 13; (with_reducible refine (F2.out _ HB13.out).mono ?_); rintro e w14 ⟨v14, rfl, ho, hb⟩; obtain ⟨Aq, cq, rfl⟩ := Kd.R_slice ho; have HQ14 := Aside0.mk (Kd.R_reads' ho).2; have HB14 := Aside0.mk (below_step HB13.out hb); have HP14 := Aside0.mk (And.intro HP13.out.1 (Kd.C_below HP13.out.2 hb)); clear ho hb HP13 HB13)
 have HDA := H.out.da
 have HDB := H.out.db
 go_upto_region 17 with (first | (go_at_call 33; (with_reducible refine (normal_Of.calls Aa ca xa na _ (HXA.out _ HB14.out) HOA.out.1 H.out.ma).mono ?_); rintro e w15 ⟨v15, rfl, ho, hb⟩; obtain ⟨An, cn, rfl⟩ := Kd.R_slice ho; have HN15 := Aside0.mk (Kd.R_reads' ho).2; have HB15 := Aside0.mk (below_step HB14.out hb); have HX15 := Aside0.mk hb; clear ho hb) | (go_at_call 32; (with_reducible refine (under_Of.calls k An cn na Ab cb xb na' la ls oa ua _ HN15.out.2 HN15.out.1 (HXB.out _ HB15.out) HOb.out.1 (Tabs.below HTD.out HB15.out) HDA.e0 HDA.e1 HDA.n0 HDA.n1 HDA.m0 HDA.m1 HDA.wk HDA.m2).mono ?_); rintro e w16 ⟨v16, rfl, ho, hb⟩; obtain ⟨Au, cu, rfl⟩ := Kd.R_slice ho; have HU16 := Aside0.mk (Kd.R_reads' ho).2; have HB16 := Aside0.mk (below_step HB15.out hb); have hx := below_step HX15.out hb; have HX16 := Aside0.mk (And.intro (Kd.C_below HP14.out.2 hx) (Kd.C_below HQ14.out.2 hx)); clear ho hb hx HN15 HX15))
 go_upto_region 18 with (first | (go_at_call 33; (with_reducible refine (normal_Of.calls Ab cb xb nb _ (HXB.out _ HB16.out) HOb.out.1 H.out.mb).mono ?_); rintro e w17 ⟨v17, rfl, ho, hb⟩; obtain ⟨An, cn, rfl⟩ := Kd.R_slice ho; have HN17 := Aside0.mk (Kd.R_reads' ho).2; have HB17 := Aside0.mk (below_step HB16.out hb); have HX17 := Aside0.mk hb; clear ho hb) | (go_at_call 32; (with_reducible refine (under_Of.calls k An cn nb Aa ca xa nb' lb lt ob ub _ HN17.out.2 HN17.out.1 (HXA.out _ HB17.out) HOA.out.1 (Tabs.below HTD.out HB17.out) HDB.e0 HDB.e1 HDB.n0 HDB.n1 HDB.m0 HDB.m1 HDB.wk HDB.m2).mono ?_); rintro e w18 ⟨v18, rfl, ho, hb⟩; obtain ⟨At_, ct, rfl⟩ := Kd.R_slice ho; have HU18 := Aside0.mk (Kd.R_reads' ho).2; have HB18 := Aside0.mk (below_step HB17.out hb); have hx := below_step HX17.out hb; have HX18 := Aside0.mk (And.intro (Kd.C_below HX16.out.1 hx) (And.intro (Kd.C_below HX16.out.2 hx) (Kd.C_below HU16.out.2 hx))); clear ho hb hx HN17 HX17))
 clear HDA HDB
 have G1 := Aside0.mk (by
  have hb := below_alloc (Below.refl w18.heap.size w18) (.cells #[.slice Ab xb.length cb, .slice Au ua.length cu] 27)
  have h9 := apply_All.calls k u (some ⟨w18.heap.size, 0, none⟩) 2 [xb, ua] one 0 _ (two_reads (heap_alloc_new w18 (.cells #[.slice Ab xb.length cb, .slice Au ua.length cu] 27)) HOb.out.1 (HXB.out _ (below_step HB18.out hb)) HU16.out.1 (Kd.C_below HX18.out.2.2 hb)) (Nat.le_refl 2) (Tabs.below HTD.out (below_step HB18.out hb)) H.out.a1
  rw [show ([xb, ua] : List (List S25)).length = 2 from rfl] at h9
  exact h9)
 have HB18b := Aside0.mk (below_step HB18.out (below_alloc (Below.refl w18.heap.size w18) (.cells #[.slice Ab xb.length cb, .slice Au ua.length cu] 27)))
 have HX18b := Aside0.mk (below_alloc (Below.refl w18.heap.size w18) (.cells #[.slice Ab xb.length cb, .slice Au ua.length cu] 27))
 go_upto_region 19 with (go_at_call 14; (with_reducible refine G1.out.mono ?_); rintro e w19 ⟨rfl, hb⟩; have HB19 := Aside0.mk (below_step HB18b.out hb); have HX19 := Aside0.mk (below_step HX18b.out hb); clear hb)
 have G2 := Aside0.mk (by
  have hb := below_alloc (Below.refl w19.heap.size w19) (.cells #[.slice Aa xa.length ca, .slice At_ ub.length ct] 27)
  have h9 := apply_All.calls k u (some ⟨w19.heap.size, 0, none⟩) 2 [xa, ub] two 0 _ (two_reads (heap_alloc_new w19 (.cells #[.slice Aa xa.length ca, .slice At_ ub.length ct] 27)) HOA.out.1 (HXA.out _ (below_step HB19.out hb)) HU18.out.1 (Kd.C_below HU18.out.2 (below_step HX19.out hb))) (Nat.le_refl 2) (Tabs.below HTD.out (below_step HB19.out hb)) H.out.a2
  rw [show ([xa, ub] : List (List S25)).length = 2 from rfl] at h9
  exact h9)
 have HB19b := Aside0.mk (below_step HB19.out (below_alloc (Below.refl w19.heap.size w19) (.cells #[.slice Aa xa.length ca, .slice At_ ub.length ct] 27)))
 have HX19b := Aside0.mk (below_step HX19.out (below_alloc (Below.refl w19.heap.size w19) (.cells #[.slice Aa xa.length ca, .slice At_ ub.length ct] 27)))
 go_upto_region 20 with (go_at_call 14; (with_reducible refine G2.out.mono ?_); rintro e w20 ⟨rfl, hb⟩; have HB20 := Aside0.mk (below_step HB19b.out hb); have HX20 := Aside0.mk (below_step HX19b.out hb); clear hb)
 have FS1 := Aside0.mk (fun (W : World) (hW : Below w20.heap.size w20 W) => epitomeref04_Same.calls k Av2 cv2 pb Ap cp pb true W (Kd.C_below HV.out.2.2 (below_step HB20.out hW)) HV.out.2.1 (Kd.C_below HX18.out.1 (below_step HX20.out hW)) HP14.out.1 H.out.sb)
 have FS2 := Aside0.mk (fun (W : World) (hW : Below w20.heap.size w20 W) => epitomeref04_Same.calls k Av4 cv4 pa Aq cq pa true W (Kd.C_below HU.out.2.2 (below_step HB20.out hW)) HU.out.2.1 (Kd.C_below HX18.out.2.1 (below_step HX20.out hW)) HQ14.out.1 H.out.sa)
 have FT1 := Aside0.mk (fun (W : World) (hW : Below w20.heap.size w20 W) => server_Text.calls k W _ g1 u _ _ _ one (Tabs.below HTD.out (below_step HB20.out hW)) (U4.out.S1.below (below_step HB20.out hW)) H.out.x1)
 have FT2 := Aside0.mk (fun (W : World) (hW : Below w20.heap.size w20 W) => server_Text.calls k W _ g2 u _ _ _ two (Tabs.below HTD.out (below_step HB20.out hW)) (U4.out.S2.below (below_step HB20.out hW)) H.out.x2)
 have FC1 := Aside0.mk (fun (W : World) (hW : Below w20.heap.size w20 W) => points_Count.calls one m W (Tabs.below HTD.out (below_step HB20.out hW)) H.out.m1)
 have FC2 := Aside0.mk (fun (W : World) (hW : Below w20.heap.size w20 W) => points_Count.calls two m W (Tabs.below HTD.out (below_step HB20.out hW)) H.out.m2)
 have d12 : w20.cell? ⟨e1, 2, none⟩ = some (.int .i64 0) := (blk_cell (blk_below DA1.out HB20.out) 2).trans rfl
 have d22 : w20.cell? ⟨e2, 2, none⟩ = some (.int .i64 0) := (blk_cell (blk_below DA2.out HB20.out) 2).trans rfl
 have d20 : w20.cell? ⟨e2, 0, none⟩ = some (.slice Av2 pb.length cv2) := (blk_cell (blk_below DA2.out HB20.out) 0).trans rfl
 have d32 : w20.cell? ⟨e3, 2, none⟩ = some (.int .i64 0) := (blk_cell (blk_below DA3.out HB20.out) 2).trans rfl
 have d42 : w20.cell? ⟨e4, 2, none⟩ = some (.int .i64 0) := (blk_cell (blk_below DA4.out HB20.out) 2).trans rfl
 have D40 := Aside0.mk ((blk_cell (blk_below DA4.out HB20.out) 0).trans rfl : w20.cell? ⟨e4, 0, none⟩ = some (.slice Av4 pa.length cv4))
 simp only [List.append_eq, List.cons_append, List.nil_append]
 go_wp2_with (first | (go_at_call 15; (with_reducible refine (FS1.out _ (Below.refl _ _)).mono ?_); rintro e w21 ⟨rfl, hb⟩; have HB21 := Aside0.mk hb.below; have d40 := cell_past HB21.out D40.out; clear hb) | (go_at_call 15; (with_reducible refine (FS2.out _ HB21.out).mono ?_); rintro e w22 ⟨rfl, hb⟩; have HB22 := Aside0.mk (below_step HB21.out hb.below); clear hb) | (go_at_call 34; (with_reducible refine (FT1.out _ HB22.out).mono ?_); rintro e w23 ⟨rfl, hb⟩; have HB23 := Aside0.mk (below_step HB22.out hb); clear hb) | (go_at_call 34; (with_reducible refine (FT2.out _ HB23.out).mono ?_); rintro e w24 ⟨rfl, hb⟩; have HB24 := Aside0.mk (below_step HB23.out hb); clear hb) | (go_at_call 10; (with_reducible refine (FC1.out _ HB24.out).mono ?_); rintro e w25 ⟨rfl, hb⟩; have HB25 := Aside0.mk (below_step HB24.out hb); clear hb) | (go_at_call 10; (with_reducible refine (FC2.out _ HB25.out).mono ?_); rintro e w26 ⟨rfl, hb⟩; have HB26 := Aside0.mk (below_step HB25.out hb); clear hb))
 go_ret
 exact ⟨by simp, below_step HBD.out (below_step HB20.out HB26.out)⟩
end Go.Proofs.YtegjegihcebimaaDoor.P
end
