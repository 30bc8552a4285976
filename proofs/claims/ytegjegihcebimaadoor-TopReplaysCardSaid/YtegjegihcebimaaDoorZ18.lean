/- Part 18 of the proof of topReplays_holds: out of the texts that this session's programs wrote, what the theorem reaches. -/
import Derived.Test.YtegjegihcebimaaDoorZ17
section
namespace Go.Proofs.YtegjegihcebimaaDoor.P
open Go.RowKit Go.Proofs.YtegjegihcebimaaDoorW.PrintWords Go.Proofs.YtegjegihcebimaaDoorW.PrintLast Go.Proofs.YtegjegihcebimaaDoorW.PrintMore
attribute [local go_sem] max2_int min2_int max_two min_two max_three min_three max_four min_four
set_option linter.unusedVariables false
set_option linter.unusedSimpArgs false
set_option maxHeartbeats 16000000 in
set_option maxRecDepth 100000 in
theorem replays_walk (k : Nat) (a0 : ByteArray) (A1 : Option Addr) (c1 : Nat) (l1 : List (List S25)) (A2 : Option Addr) (c2 : Nat) (l2 : List Int) (fl : Int) (b b' : ByteArray) (R : List Int) (segs os : List (List S25)) (Z KL set : List Int) (n0 : Int) (w : World)
  (hr1 : Kd.C (Kd.slice 25 k25) w A1 l1.length l1) (hc1 : l1.length ≤ c1) (hr2 : Kd.C (Kd.int .i64) w A2 l2.length l2) (hc2 : l2.length ≤ c2) (hT : Tabs w) (h : RepOk k a0 l1 l2 fl b b' R segs os Z KL set n0) :
  Calls Tryd.prog 5 #[.string a0, .slice A1 l1.length c1, .agg #[.slice A2 l2.length c2, .int .i64 fl]] w fun e w' => e = .returned (.bool true) ∧ Below w.heap.size w w' := by
 have HR1 := Aside0.mk hr1; have HC1 := Aside0.mk hc1; have HR2 := Aside0.mk hr2; have HC2 := Aside0.mk hc2; have HT := Aside0.mk hT; have H := Aside0.mk h
 clear hr1 hc1 hr2 hc2 hT h
 go_enter Tryd.func5, Tryd.ntmps5
 have BK0 := Aside0.mk (heap_alloc_new w (.cells #[.slice A2 l2.length c2, .int .i64 fl] 40))
 have HB0 := Aside0.mk (below_alloc (Below.refl w.heap.size w) (.cells #[.slice A2 l2.length c2, .int .i64 fl] 40))
 go_upto_region 1 with (fail)
 generalize w.alloc (.cells #[.slice A2 l2.length c2, .int .i64 fl] 40) = w1 at BK0 HB0 ⊢
 go_upto_region 3 with (first | (go_at_call 8; (with_reducible refine (epitometop_shown.calls k true _ (Tabs.below HT.out HB0.out) H.out.sh rfl).mono ?_); rintro e w2 ⟨rfl, hb⟩; have HB2 := Aside0.mk (below_then HB0.out HB0.out.size hb); have BK2 := Aside0.mk (blk_below BK0.out hb); clear hb) | (go_at_call 16; (with_reducible refine (epitomeref16_Fit.calls k a0 A1 c1 l1 b R segs _ (Kd.C_below HR1.out HB2.out) HC1.out H.out.ft).mono ?_); rintro e w3 ⟨v1, v2, rfl, ho1, ho2, hb⟩; obtain ⟨Ar, cr, rfl⟩ := Kd.R_slice ho1; obtain ⟨As, cs, rfl⟩ := Kd.S_slice ho2; have HS3 := Aside0.mk (Kd.S_reads' ho2).2; have HB3 := Aside0.mk (below_step HB2.out hb); have BK3 := Aside0.mk (blk_below BK2.out hb); clear hb ho1 ho2 BK2 HB2))
 have BC4 := Aside0.mk (heap_alloc_new w3 (.cells #[.string b, .slice Ar R.length cr, .slice As segs.length cs] 42))
 have HB4 := Aside0.mk (below_alloc HB3.out (.cells #[.string b, .slice Ar R.length cr, .slice As segs.length cs] 42))
 have BK4 := Aside0.mk (blk_alloc BK3.out (.cells #[.string b, .slice Ar R.length cr, .slice As segs.length cs] 42))
 have HS4 := Aside0.mk (Kd.C_alloc HS3.out.2 (.cells #[.string b, .slice Ar R.length cr, .slice As segs.length cs] 42))
 have HCS := Aside0.mk HS3.out.1
 clear HB3 BK3 HS3 HB0 BK0
 generalize w3.alloc (.cells #[.string b, .slice Ar R.length cr, .slice As segs.length cs] 42) = w4 at BC4 HB4 BK4 HS4 ⊢
 generalize w3.heap.size = gc at BC4 ⊢
 have hc0 : w4.cell? ⟨gc, 0, none⟩ = some (.string b) := (blk_cell BC4.out 0).trans rfl
 go_wp2_with (go_at_call 23; (with_reducible refine (history_New.calls b n0 _ (Tabs.below HT.out HB4.out) H.out.cn H.out.c0 H.out.c1).mono ?_); rintro e w5 ⟨g, rfl, hi, hb⟩; have HI5 := Aside0.mk hi; have HB5 := Aside0.mk hb; clear hi hb hc0)
 have HJ : Aside0 (HI w5 w4.heap.size g b (segs.take 0) (Z.take (0 + 1)) ∧ Below w4.heap.size w4 w5) := ⟨by rw [H.out.z0]; exact HI5.out, HB5.out⟩
 clear HI5 HB5
 go_loopw [11] (fun v11 wr => ∃ j : Nat, v11 = .int .i64 j ∧ j ≤ segs.length ∧ Aside0 (HI wr w4.heap.size g b (segs.take j) (Z.take (j + 1)) ∧ Below w4.heap.size w4 wr)) (fun v11 _ => segs.length - (intOf v11).toNat)
 case atStart => exact ⟨0, rfl, Nat.zero_le _, HJ⟩
 case round =>
  obtain ⟨j, rfl, hj, HJ2⟩ := hrel
  clear HJ
  have hc2 : wr.cell? ⟨gc, 2, none⟩ = some (.slice As segs.length cs) := cell_past HJ2.out.2 ((blk_cell BC4.out 2).trans rfl)
  by_cases hlt : j < segs.length
  ·have hltb : decide ((j : Int) < (segs.length : Int)) = true := decide_eq_true (by omega)
   have HLT := Aside0.mk hlt
   have p1 : ((j : Int) < (segs.length : Int)) = True := eq_true (by omega)
   have p2 : (j < segs.length) = True := eq_true hlt
   have EW : Aside0 (wrap64 ((j : Int) + 1) = ((j + 1 : Nat) : Int)) := ⟨by have := H.out.sl; unfold wrap64; omega⟩
   obtain ⟨ad, Ax, cx, eAs, hcx, lx, rx⟩ := at_L3 HS4.out (j : Int) (by omega) (by omega)
   have HLX := Aside0.mk lx; have HRX := Aside0.mk rx
   have hce : wr.cell? (ad.add j) = some (.slice Ax (rd_L3 segs (j : Int)).length cx) := cell_past HJ2.out.2 (by rw [Int.toNat_natCast] at hcx; exact hcx)
   subst eAs
   clear hcx lx rx hlt hj
   go_wp2_with (go_at_call 24; (with_reducible refine (replays_step H.out HLT.out (Tabs.below (Tabs.below HT.out HB4.out) HJ2.out.2) HJ2.out.1 HJ2.out.2 HRX.out HLX.out).mono ?_); rintro e w6 ⟨rfl, hi, hb⟩; have HJ3 := Aside0.mk (And.intro hi hb); clear hi hb)
   go_round
   case measure => exact op_sum.less HLT.out EW.out
   case rel => exact ⟨j + 1, by rw [EW.out], HLT.out, HJ3⟩
  ·have ej : j = segs.length := by omega
   subst ej
   have hltb : decide ((segs.length : Int) < (segs.length : Int)) = false := decide_eq_false (by omega)
   have HI6 : Aside0 (HI wr w4.heap.size g b segs Z) := ⟨by have := HJ2.out.1; rw [List.take_length, ← H.out.zl, List.take_length] at this; exact this⟩
   have HB6 := Aside0.mk HJ2.out.2
   clear HJ2 hlt hj
   have CK0 := Aside0.mk ((blk_cell (blk_below BK4.out (HB6.out.mono (Nat.le_refl _))) 0).trans rfl : wr.cell? ⟨w.heap.size, 0, none⟩ = some (.slice A2 l2.length c2))
   have CK1 := Aside0.mk ((blk_cell (blk_below BK4.out (HB6.out.mono (Nat.le_refl _))) 1).trans rfl : wr.cell? ⟨w.heap.size, 1, none⟩ = some (.int .i64 fl))
   have HBw := Aside0.mk (below_then HB4.out HB4.out.size HB6.out)
   have HLg := Aside0.mk (fun (W : World) (hW : Below wr.heap.size wr W) => history_Log.calls W w4.heap.size g b segs Z (HI6.out.below hW) (by have := H.out.sl; omega) H.out.sx)
   have HFw := Aside0.mk (fun (W : World) (hW : Below wr.heap.size wr W) => epitometop_few.calls (fun k_ => k_ < w.heap.size) A2 c2 l2 set W (Kd.V_mk HC2.out (Kd.F_below (Kd.C_F (Kd.heap_int .i64) HR2.out) (below_then HBw.out HBw.out.size hW))) H.out.fw)
   have HT6 := Aside0.mk (Tabs.below HT.out HBw.out)
   go_wp2
   have J := (RJ.start (R := hrevs segs.length) (segs := segs) (set := set) (K := KL) (os := os) wr).below (below_drew1 (Below.refl _ _))
   refine start_ (n := 14) (S := fun w' => w'.cell? ⟨w.heap.size, 0, none⟩ = some (.slice A2 l2.length c2) ∧ w'.cell? ⟨w.heap.size, 1, none⟩ = some (.int .i64 fl)) (ds := [12]) #[false, false, false, false, false, false, false, false, false, false, false, false, false, false] (by kernel_rfl) rfl rfl ⟨cell_past J.HB CK0.out, cell_past J.HB CK1.out⟩ (fun hHeld => ?_)
   generalize wr.drew = wd at J hHeld ⊢
   refine pure_ (i := 0) (N := some 60) (v := ?_) (a' := ?_) #[true, false, false, false, false, false, false, false, false, false, false, false, false, false] rfl rfl (by kernel_rfl) (fun _ _ _ h => h) (Or.inl ⟨by rfl, ?_⟩) ?_ ?_
   rotate_left
   ·intro w'
    go_simp
    with_reducible rfl
   rotate_left
   ·simp only [Act.put, List.setIfInBounds_toArray, List.set_cons_zero, List.set_cons_succ, i64_w, i32_w]
    rfl
   refine pure_ (i := 2) (N := some 62) (v := ?_) (a' := ?_) #[true, false, true, false, false, false, false, false, false, false, false, false, false, false] rfl rfl (by kernel_rfl) (fun _ _ _ h => h) (Or.inl ⟨by rfl, ?_⟩) ?_ ?_
   rotate_left
   ·intro w'
    go_simp
    with_reducible rfl
   rotate_left
   ·simp only [Act.put, List.setIfInBounds_toArray, List.set_cons_zero, List.set_cons_succ, i64_w, i32_w]
    rfl
   refine pure_ (i := 5) (N := some 65) (v := ?_) (a' := ?_) #[true, false, true, false, false, true, false, false, false, false, false, false, false, false] rfl rfl (by kernel_rfl) (fun _ _ _ h => h) (Or.inl ⟨by rfl, ?_⟩) ?_ ?_
   rotate_left
   ·intro w'
    go_simp
    with_reducible rfl
   rotate_left
   ·simp only [Act.put, List.setIfInBounds_toArray, List.set_cons_zero, List.set_cons_succ, i64_w, i32_w]
    rfl
   refine take_ (i := 3) (N := some 63) (v := ?_) (a' := ?_) #[true, false, true, true, false, true, false, false, false, false, false, false, false, false] rfl rfl (by kernel_rfl) (fun _ _ _ h => h) (Or.inl ⟨by rfl, ?_⟩) hHeld ?_ ?_
   rotate_left
   ·rintro w' ⟨s0, s1⟩
    go_simp
    with_reducible rfl
   rotate_left
   ·simp only [Act.put, List.setIfInBounds_toArray, List.set_cons_zero, List.set_cons_succ, i64_w, i32_w]
    rfl
   refine take_ (i := 6) (N := some 66) (v := ?_) (a' := ?_) #[true, false, true, true, false, true, true, false, false, false, false, false, false, false] rfl rfl (by kernel_rfl) (fun _ _ _ h => h) (Or.inl ⟨by rfl, ?_⟩) hHeld ?_ ?_
   rotate_left
   ·rintro w' ⟨s0, s1⟩
    go_simp
    with_reducible rfl
   rotate_left
   ·simp only [Act.put, List.setIfInBounds_toArray, List.set_cons_zero, List.set_cons_succ, i64_w, i32_w]
    rfl
   refine join_ (σ := Option Addr × Nat × Option Addr × Nat × Option Addr × Nat × Option Addr × Nat × Option Addr × Nat × Nat) 2 #[true, true, true, true, true, true, true, true, true, true, true, true, false, false] (fun s_ => [(61, .agg #[.string b, .slice s_.1 (hrevs segs.length).length s_.2.1, .slice s_.2.2.1 segs.length s_.2.2.2.1]), (64, .slice s_.2.2.2.2.1 set.length s_.2.2.2.2.2.1), (67, .tuple #[.agg #[.string b', .slice s_.2.2.2.2.2.2.1 KL.length s_.2.2.2.2.2.2.2.1, .slice s_.2.2.2.2.2.2.2.2.1 os.length s_.2.2.2.2.2.2.2.2.2.1], .int .i64 0]), (59, .tuple #[.agg #[.string b', .slice s_.2.2.2.2.2.2.1 KL.length s_.2.2.2.2.2.2.2.1, .slice s_.2.2.2.2.2.2.2.2.1 os.length s_.2.2.2.2.2.2.2.2.2.1], .int .i64 0]), (68, .agg #[.string b', .slice s_.2.2.2.2.2.2.1 KL.length s_.2.2.2.2.2.2.2.1, .slice s_.2.2.2.2.2.2.2.2.1 os.length s_.2.2.2.2.2.2.2.2.2.1]), (69, .int .i64 0), (12, .pointer (some ⟨s_.2.2.2.2.2.2.2.2.2.2, 0, none⟩))]) (fun s_ w' => (w'.cell? ⟨w.heap.size, 0, none⟩ = some (.slice A2 l2.length c2) ∧ w'.cell? ⟨w.heap.size, 1, none⟩ = some (.int .i64 fl)) ∧ RJ (hrevs segs.length) segs set KL os wr w' s_.2.2.2.2.2.2.2.2.2.2 true true true true s_.1 s_.2.1 s_.2.2.1 s_.2.2.2.1 s_.2.2.2.2.1 s_.2.2.2.2.2.1 s_.2.2.2.2.2.2.1 s_.2.2.2.2.2.2.2.1 s_.2.2.2.2.2.2.2.2.1 s_.2.2.2.2.2.2.2.2.2.1) ?_ ?_
   rotate_left
   ·intro hCont
    refine two_ (i := 1) (j := 11) (Ni := some 61) (Nj := some 12) #[true, true, true, true, false, true, true, false, false, false, false, false, false, false] #[true, false, true, true, false, true, true, false, false, false, false, true, false, false] rfl rfl rfl rfl (by kernel_rfl) (by decide) (by decide) (fun K hK => ?_) (fun K hK => ?_)
    ·skip
     refine goes_ Tryd.func25 (by kernel_rfl) rfl #[.pointer (some ⟨g, 0, none⟩)] (by rfl) rfl rfl (by simp only [List.map_toArray, List.map_cons, List.map_nil]; rfl) ?_
     with_reducible refine (HLg.out _ J.HB).mono ?_
     rintro e w7 ⟨ArL, crL, AsL, csL, rfl, hcr, hcs, hCr, hCs, hb⟩
     refine ⟨_, rfl, ?_⟩
     have J1 := J.eL hb hcr hcs hCr hCs
     clear J
     have J := J1
     clear J1
     refine hK.out _ _ ⟨cell_past J.HB CK0.out, cell_past J.HB CK1.out⟩ (fun hHeld => ?_)
     clear hK K
     refine norm_ (a' := ?_) ?_ ?_
     rotate_left
     ·show Act.put _ (some 61) _ = _
      simp only [Act.put, List.setIfInBounds_toArray, List.set_cons_zero, List.set_cons_succ, i64_w, i32_w]
      rfl
     refine two_ (i := 4) (j := 11) (Ni := some 64) (Nj := some 12) #[true, true, true, true, true, true, true, false, false, false, false, false, false, false] #[true, true, true, true, false, true, true, false, false, false, false, true, false, false] rfl rfl rfl rfl (by kernel_rfl) (by decide) (by decide) (fun K hK => ?_) (fun K hK => ?_)
     ·skip
      refine goes_ Tryd.func18 (by kernel_rfl) rfl #[.slice A2 l2.length c2] (by rfl) rfl rfl (by simp only [List.map_toArray, List.map_cons, List.map_nil]; rfl) ?_
      with_reducible refine (HFw.out _ J.HB).mono ?_
      rintro e w8 ⟨v8, rfl, hv, hb⟩
      refine ⟨_, rfl, ?_⟩
      obtain ⟨A8, c8, rfl⟩ := Kd.V_slice hv
      have J1 := J.eF hb (Kd.V_reads' hv).2
      clear J
      have J := J1
      clear J1
      refine hK.out _ _ ⟨cell_past J.HB CK0.out, cell_past J.HB CK1.out⟩ (fun hHeld => ?_)
      clear hK K
      refine norm_ (a' := ?_) ?_ ?_
      rotate_left
      ·show Act.put _ (some 64) _ = _
       simp only [Act.put, List.setIfInBounds_toArray, List.set_cons_zero, List.set_cons_succ, i64_w, i32_w]
       rfl
      refine two_ (i := 7) (j := 11) (Ni := some 67) (Nj := some 12) #[true, true, true, true, true, true, true, true, false, false, false, false, false, false] #[true, true, true, true, true, true, true, false, false, false, false, true, false, false] rfl rfl rfl rfl (by kernel_rfl) (by decide) (by decide) (fun K hK => ?_) (fun K hK => ?_)
      ·skip
       refine goes_ Tryd.func17 (by kernel_rfl) rfl #[.agg #[.string b, .slice ArL (hrevs segs.length).length crL, .slice AsL segs.length csL], .slice A8 set.length c8, .int .i64 fl] (by rfl) rfl rfl (by simp only [List.map_toArray, List.map_cons, List.map_nil]; rfl) ?_
       with_reducible refine (compact_Of.calls k b ArL crL (hrevs segs.length) AsL csL segs A8 c8 set fl b' KL os 0 _ (J.L rfl).2.1 (J.L rfl).1 (J.L rfl).2.2.2 (J.L rfl).2.2.1 (J.F rfl).2 (J.F rfl).1 (Tabs.below HT6.out J.HB) H.out.co).mono ?_
       rintro e w9 ⟨v1, v2, rfl, ho1, ho2, hb⟩
       refine ⟨_, rfl, ?_⟩
       obtain ⟨AK, cK, rfl⟩ := Kd.R_slice ho1
       obtain ⟨AO, cO, rfl⟩ := Kd.S_slice ho2
       have J1 := J.eC hb ho1 ho2
       clear J
       have J := J1
       clear J1
       refine hK.out _ _ ⟨cell_past J.HB CK0.out, cell_past J.HB CK1.out⟩ (fun hHeld => ?_)
       clear hK K
       refine norm_ (a' := ?_) ?_ ?_
       rotate_left
       ·show Act.put _ (some 67) _ = _
        simp only [Act.put, List.setIfInBounds_toArray, List.set_cons_zero, List.set_cons_succ, i64_w, i32_w]
        rfl
       refine pure_ (i := 8) (N := some 59) (v := ?_) (a' := ?_) #[true, true, true, true, true, true, true, true, true, false, false, false, false, false] rfl rfl (by kernel_rfl) (fun _ _ _ h => h) (Or.inl ⟨by rfl, ?_⟩) ?_ ?_
       rotate_left
       ·intro w'
        go_simp
        with_reducible rfl
       rotate_left
       ·simp only [Act.put, List.setIfInBounds_toArray, List.set_cons_zero, List.set_cons_succ, i64_w, i32_w]
        rfl
       refine pure_ (i := 9) (N := some 68) (v := ?_) (a' := ?_) #[true, true, true, true, true, true, true, true, true, true, false, false, false, false] rfl rfl (by kernel_rfl) (fun _ _ _ h => h) (Or.inl ⟨by rfl, ?_⟩) ?_ ?_
       rotate_left
       ·intro w'
        go_simp
        with_reducible rfl
       rotate_left
       ·simp only [Act.put, List.setIfInBounds_toArray, List.set_cons_zero, List.set_cons_succ, i64_w, i32_w]
        rfl
       refine pure_ (i := 10) (N := some 69) (v := ?_) (a' := ?_) #[true, true, true, true, true, true, true, true, true, true, true, false, false, false] rfl rfl (by kernel_rfl) (fun _ _ _ h => h) (Or.inl ⟨by rfl, ?_⟩) ?_ ?_
       rotate_left
       ·intro w'
        go_simp
        with_reducible rfl
       rotate_left
       ·simp only [Act.put, List.setIfInBounds_toArray, List.set_cons_zero, List.set_cons_succ, i64_w, i32_w]
        rfl
       refine one_ (i := 11) (N := some 12) #[true, true, true, true, true, true, true, true, true, true, true, true, false, false] rfl rfl (by kernel_rfl) (by decide) (fun K hK => ?_)
       refine value_ (w1 := ?_) (v := ?_) (by rfl) rfl ?_ ?_
       rotate_left 2
       ·go_simp
        constructor
        ·rfl
        ·rfl
       have J1 := J.eA
       try simp only [alloc_heap_size] at J1
       clear J
       have J := J1
       clear J1
       refine hK.out _ _ ⟨cell_past J.HB CK0.out, cell_past J.HB CK1.out⟩ (fun hHeld => ?_)
       clear hK K
       refine norm_ (a' := ?_) ?_ ?_
       rotate_left
       ·show Act.put _ (some 12) _ = _
        simp only [Act.put, List.setIfInBounds_toArray, List.set_cons_zero, List.set_cons_succ, i64_w, i32_w]
        rfl
       refine norm_ ?_ (hCont (_, _, _, _, _, _, _, _, _, _, _) _ ⟨⟨cell_past J.HB CK0.out, cell_past J.HB CK1.out⟩, J⟩)
       first | (simp only [putAll, Act.put, List.setIfInBounds_toArray, List.set_cons_zero, List.set_cons_succ]; done) | (simp only [putAll, Act.put, List.setIfInBounds_toArray, List.set_cons_zero, List.set_cons_succ]; rfl)
      ·skip
       refine value_ (w1 := ?_) (v := ?_) (by rfl) rfl ?_ ?_
       rotate_left 2
       ·go_simp
        constructor
        ·rfl
        ·rfl
       have J1 := J.eA
       try simp only [alloc_heap_size] at J1
       clear J
       have J := J1
       clear J1
       refine hK.out _ _ ⟨cell_past J.HB CK0.out, cell_past J.HB CK1.out⟩ (fun hHeld => ?_)
       clear hK K
       refine norm_ (a' := ?_) ?_ ?_
       rotate_left
       ·show Act.put _ (some 12) _ = _
        simp only [Act.put, List.setIfInBounds_toArray, List.set_cons_zero, List.set_cons_succ, i64_w, i32_w]
        rfl
       refine one_ (i := 7) (N := some 67) #[true, true, true, true, true, true, true, true, false, false, false, true, false, false] rfl rfl (by kernel_rfl) (by decide) (fun K hK => ?_)
       refine goes_ Tryd.func17 (by kernel_rfl) rfl #[.agg #[.string b, .slice ArL (hrevs segs.length).length crL, .slice AsL segs.length csL], .slice A8 set.length c8, .int .i64 fl] (by rfl) rfl rfl (by simp only [List.map_toArray, List.map_cons, List.map_nil]; rfl) ?_
       with_reducible refine (compact_Of.calls k b ArL crL (hrevs segs.length) AsL csL segs A8 c8 set fl b' KL os 0 _ (J.L rfl).2.1 (J.L rfl).1 (J.L rfl).2.2.2 (J.L rfl).2.2.1 (J.F rfl).2 (J.F rfl).1 (Tabs.below HT6.out J.HB) H.out.co).mono ?_
       rintro e w9 ⟨v1, v2, rfl, ho1, ho2, hb⟩
       refine ⟨_, rfl, ?_⟩
       obtain ⟨AK, cK, rfl⟩ := Kd.R_slice ho1
       obtain ⟨AO, cO, rfl⟩ := Kd.S_slice ho2
       have J1 := J.eC hb ho1 ho2
       clear J
       have J := J1
       clear J1
       refine hK.out _ _ ⟨cell_past J.HB CK0.out, cell_past J.HB CK1.out⟩ (fun hHeld => ?_)
       clear hK K
       refine norm_ (a' := ?_) ?_ ?_
       rotate_left
       ·show Act.put _ (some 67) _ = _
        simp only [Act.put, List.setIfInBounds_toArray, List.set_cons_zero, List.set_cons_succ, i64_w, i32_w]
        rfl
       refine pure_ (i := 8) (N := some 59) (v := ?_) (a' := ?_) #[true, true, true, true, true, true, true, true, true, false, false, true, false, false] rfl rfl (by kernel_rfl) (fun _ _ _ h => h) (Or.inl ⟨by rfl, ?_⟩) ?_ ?_
       rotate_left
       ·intro w'
        go_simp
        with_reducible rfl
       rotate_left
       ·simp only [Act.put, List.setIfInBounds_toArray, List.set_cons_zero, List.set_cons_succ, i64_w, i32_w]
        rfl
       refine pure_ (i := 9) (N := some 68) (v := ?_) (a' := ?_) #[true, true, true, true, true, true, true, true, true, true, false, true, false, false] rfl rfl (by kernel_rfl) (fun _ _ _ h => h) (Or.inl ⟨by rfl, ?_⟩) ?_ ?_
       rotate_left
       ·intro w'
        go_simp
        with_reducible rfl
       rotate_left
       ·simp only [Act.put, List.setIfInBounds_toArray, List.set_cons_zero, List.set_cons_succ, i64_w, i32_w]
        rfl
       refine pure_ (i := 10) (N := some 69) (v := ?_) (a' := ?_) #[true, true, true, true, true, true, true, true, true, true, true, true, false, false] rfl rfl (by kernel_rfl) (fun _ _ _ h => h) (Or.inl ⟨by rfl, ?_⟩) ?_ ?_
       rotate_left
       ·intro w'
        go_simp
        with_reducible rfl
       rotate_left
       ·simp only [Act.put, List.setIfInBounds_toArray, List.set_cons_zero, List.set_cons_succ, i64_w, i32_w]
        rfl
       refine norm_ ?_ (hCont (_, _, _, _, _, _, _, _, _, _, _) _ ⟨⟨cell_past J.HB CK0.out, cell_past J.HB CK1.out⟩, J⟩)
       first | (simp only [putAll, Act.put, List.setIfInBounds_toArray, List.set_cons_zero, List.set_cons_succ]; done) | (simp only [putAll, Act.put, List.setIfInBounds_toArray, List.set_cons_zero, List.set_cons_succ]; rfl)
     ·skip
      refine value_ (w1 := ?_) (v := ?_) (by rfl) rfl ?_ ?_
      rotate_left 2
      ·go_simp
       constructor
       ·rfl
       ·rfl
      have J1 := J.eA
      try simp only [alloc_heap_size] at J1
      clear J
      have J := J1
      clear J1
      refine hK.out _ _ ⟨cell_past J.HB CK0.out, cell_past J.HB CK1.out⟩ (fun hHeld => ?_)
      clear hK K
      refine norm_ (a' := ?_) ?_ ?_
      rotate_left
      ·show Act.put _ (some 12) _ = _
       simp only [Act.put, List.setIfInBounds_toArray, List.set_cons_zero, List.set_cons_succ, i64_w, i32_w]
       rfl
      refine one_ (i := 4) (N := some 64) #[true, true, true, true, true, true, true, false, false, false, false, true, false, false] rfl rfl (by kernel_rfl) (by decide) (fun K hK => ?_)
      refine goes_ Tryd.func18 (by kernel_rfl) rfl #[.slice A2 l2.length c2] (by rfl) rfl rfl (by simp only [List.map_toArray, List.map_cons, List.map_nil]; rfl) ?_
      with_reducible refine (HFw.out _ J.HB).mono ?_
      rintro e w8 ⟨v8, rfl, hv, hb⟩
      refine ⟨_, rfl, ?_⟩
      obtain ⟨A8, c8, rfl⟩ := Kd.V_slice hv
      have J1 := J.eF hb (Kd.V_reads' hv).2
      clear J
      have J := J1
      clear J1
      refine hK.out _ _ ⟨cell_past J.HB CK0.out, cell_past J.HB CK1.out⟩ (fun hHeld => ?_)
      clear hK K
      refine norm_ (a' := ?_) ?_ ?_
      rotate_left
      ·show Act.put _ (some 64) _ = _
       simp only [Act.put, List.setIfInBounds_toArray, List.set_cons_zero, List.set_cons_succ, i64_w, i32_w]
       rfl
      refine one_ (i := 7) (N := some 67) #[true, true, true, true, true, true, true, true, false, false, false, true, false, false] rfl rfl (by kernel_rfl) (by decide) (fun K hK => ?_)
      refine goes_ Tryd.func17 (by kernel_rfl) rfl #[.agg #[.string b, .slice ArL (hrevs segs.length).length crL, .slice AsL segs.length csL], .slice A8 set.length c8, .int .i64 fl] (by rfl) rfl rfl (by simp only [List.map_toArray, List.map_cons, List.map_nil]; rfl) ?_
      with_reducible refine (compact_Of.calls k b ArL crL (hrevs segs.length) AsL csL segs A8 c8 set fl b' KL os 0 _ (J.L rfl).2.1 (J.L rfl).1 (J.L rfl).2.2.2 (J.L rfl).2.2.1 (J.F rfl).2 (J.F rfl).1 (Tabs.below HT6.out J.HB) H.out.co).mono ?_
      rintro e w9 ⟨v1, v2, rfl, ho1, ho2, hb⟩
      refine ⟨_, rfl, ?_⟩
      obtain ⟨AK, cK, rfl⟩ := Kd.R_slice ho1
      obtain ⟨AO, cO, rfl⟩ := Kd.S_slice ho2
      have J1 := J.eC hb ho1 ho2
      clear J
      have J := J1
      clear J1
      refine hK.out _ _ ⟨cell_past J.HB CK0.out, cell_past J.HB CK1.out⟩ (fun hHeld => ?_)
      clear hK K
      refine norm_ (a' := ?_) ?_ ?_
      rotate_left
      ·show Act.put _ (some 67) _ = _
       simp only [Act.put, List.setIfInBounds_toArray, List.set_cons_zero, List.set_cons_succ, i64_w, i32_w]
       rfl
      refine pure_ (i := 8) (N := some 59) (v := ?_) (a' := ?_) #[true, true, true, true, true, true, true, true, true, false, false, true, false, false] rfl rfl (by kernel_rfl) (fun _ _ _ h => h) (Or.inl ⟨by rfl, ?_⟩) ?_ ?_
      rotate_left
      ·intro w'
       go_simp
       with_reducible rfl
      rotate_left
      ·simp only [Act.put, List.setIfInBounds_toArray, List.set_cons_zero, List.set_cons_succ, i64_w, i32_w]
       rfl
      refine pure_ (i := 9) (N := some 68) (v := ?_) (a' := ?_) #[true, true, true, true, true, true, true, true, true, true, false, true, false, false] rfl rfl (by kernel_rfl) (fun _ _ _ h => h) (Or.inl ⟨by rfl, ?_⟩) ?_ ?_
      rotate_left
      ·intro w'
       go_simp
       with_reducible rfl
      rotate_left
      ·simp only [Act.put, List.setIfInBounds_toArray, List.set_cons_zero, List.set_cons_succ, i64_w, i32_w]
       rfl
      refine pure_ (i := 10) (N := some 69) (v := ?_) (a' := ?_) #[true, true, true, true, true, true, true, true, true, true, true, true, false, false] rfl rfl (by kernel_rfl) (fun _ _ _ h => h) (Or.inl ⟨by rfl, ?_⟩) ?_ ?_
      rotate_left
      ·intro w'
       go_simp
       with_reducible rfl
      rotate_left
      ·simp only [Act.put, List.setIfInBounds_toArray, List.set_cons_zero, List.set_cons_succ, i64_w, i32_w]
       rfl
      refine norm_ ?_ (hCont (_, _, _, _, _, _, _, _, _, _, _) _ ⟨⟨cell_past J.HB CK0.out, cell_past J.HB CK1.out⟩, J⟩)
      first | (simp only [putAll, Act.put, List.setIfInBounds_toArray, List.set_cons_zero, List.set_cons_succ]; done) | (simp only [putAll, Act.put, List.setIfInBounds_toArray, List.set_cons_zero, List.set_cons_succ]; rfl)
    ·skip
     refine value_ (w1 := ?_) (v := ?_) (by rfl) rfl ?_ ?_
     rotate_left 2
     ·go_simp
      constructor
      ·rfl
      ·rfl
     have J1 := J.eA
     try simp only [alloc_heap_size] at J1
     clear J
     have J := J1
     clear J1
     refine hK.out _ _ ⟨cell_past J.HB CK0.out, cell_past J.HB CK1.out⟩ (fun hHeld => ?_)
     clear hK K
     refine norm_ (a' := ?_) ?_ ?_
     rotate_left
     ·show Act.put _ (some 12) _ = _
      simp only [Act.put, List.setIfInBounds_toArray, List.set_cons_zero, List.set_cons_succ, i64_w, i32_w]
      rfl
     refine one_ (i := 1) (N := some 61) #[true, true, true, true, false, true, true, false, false, false, false, true, false, false] rfl rfl (by kernel_rfl) (by decide) (fun K hK => ?_)
     refine goes_ Tryd.func25 (by kernel_rfl) rfl #[.pointer (some ⟨g, 0, none⟩)] (by rfl) rfl rfl (by simp only [List.map_toArray, List.map_cons, List.map_nil]; rfl) ?_
     with_reducible refine (HLg.out _ J.HB).mono ?_
     rintro e w7 ⟨ArL, crL, AsL, csL, rfl, hcr, hcs, hCr, hCs, hb⟩
     refine ⟨_, rfl, ?_⟩
     have J1 := J.eL hb hcr hcs hCr hCs
     clear J
     have J := J1
     clear J1
     refine hK.out _ _ ⟨cell_past J.HB CK0.out, cell_past J.HB CK1.out⟩ (fun hHeld => ?_)
     clear hK K
     refine norm_ (a' := ?_) ?_ ?_
     rotate_left
     ·show Act.put _ (some 61) _ = _
      simp only [Act.put, List.setIfInBounds_toArray, List.set_cons_zero, List.set_cons_succ, i64_w, i32_w]
      rfl
     refine one_ (i := 4) (N := some 64) #[true, true, true, true, true, true, true, false, false, false, false, true, false, false] rfl rfl (by kernel_rfl) (by decide) (fun K hK => ?_)
     refine goes_ Tryd.func18 (by kernel_rfl) rfl #[.slice A2 l2.length c2] (by rfl) rfl rfl (by simp only [List.map_toArray, List.map_cons, List.map_nil]; rfl) ?_
     with_reducible refine (HFw.out _ J.HB).mono ?_
     rintro e w8 ⟨v8, rfl, hv, hb⟩
     refine ⟨_, rfl, ?_⟩
     obtain ⟨A8, c8, rfl⟩ := Kd.V_slice hv
     have J1 := J.eF hb (Kd.V_reads' hv).2
     clear J
     have J := J1
     clear J1
     refine hK.out _ _ ⟨cell_past J.HB CK0.out, cell_past J.HB CK1.out⟩ (fun hHeld => ?_)
     clear hK K
     refine norm_ (a' := ?_) ?_ ?_
     rotate_left
     ·show Act.put _ (some 64) _ = _
      simp only [Act.put, List.setIfInBounds_toArray, List.set_cons_zero, List.set_cons_succ, i64_w, i32_w]
      rfl
     refine one_ (i := 7) (N := some 67) #[true, true, true, true, true, true, true, true, false, false, false, true, false, false] rfl rfl (by kernel_rfl) (by decide) (fun K hK => ?_)
     refine goes_ Tryd.func17 (by kernel_rfl) rfl #[.agg #[.string b, .slice ArL (hrevs segs.length).length crL, .slice AsL segs.length csL], .slice A8 set.length c8, .int .i64 fl] (by rfl) rfl rfl (by simp only [List.map_toArray, List.map_cons, List.map_nil]; rfl) ?_
     with_reducible refine (compact_Of.calls k b ArL crL (hrevs segs.length) AsL csL segs A8 c8 set fl b' KL os 0 _ (J.L rfl).2.1 (J.L rfl).1 (J.L rfl).2.2.2 (J.L rfl).2.2.1 (J.F rfl).2 (J.F rfl).1 (Tabs.below HT6.out J.HB) H.out.co).mono ?_
     rintro e w9 ⟨v1, v2, rfl, ho1, ho2, hb⟩
     refine ⟨_, rfl, ?_⟩
     obtain ⟨AK, cK, rfl⟩ := Kd.R_slice ho1
     obtain ⟨AO, cO, rfl⟩ := Kd.S_slice ho2
     have J1 := J.eC hb ho1 ho2
     clear J
     have J := J1
     clear J1
     refine hK.out _ _ ⟨cell_past J.HB CK0.out, cell_past J.HB CK1.out⟩ (fun hHeld => ?_)
     clear hK K
     refine norm_ (a' := ?_) ?_ ?_
     rotate_left
     ·show Act.put _ (some 67) _ = _
      simp only [Act.put, List.setIfInBounds_toArray, List.set_cons_zero, List.set_cons_succ, i64_w, i32_w]
      rfl
     refine pure_ (i := 8) (N := some 59) (v := ?_) (a' := ?_) #[true, true, true, true, true, true, true, true, true, false, false, true, false, false] rfl rfl (by kernel_rfl) (fun _ _ _ h => h) (Or.inl ⟨by rfl, ?_⟩) ?_ ?_
     rotate_left
     ·intro w'
      go_simp
      with_reducible rfl
     rotate_left
     ·simp only [Act.put, List.setIfInBounds_toArray, List.set_cons_zero, List.set_cons_succ, i64_w, i32_w]
      rfl
     refine pure_ (i := 9) (N := some 68) (v := ?_) (a' := ?_) #[true, true, true, true, true, true, true, true, true, true, false, true, false, false] rfl rfl (by kernel_rfl) (fun _ _ _ h => h) (Or.inl ⟨by rfl, ?_⟩) ?_ ?_
     rotate_left
     ·intro w'
      go_simp
      with_reducible rfl
     rotate_left
     ·simp only [Act.put, List.setIfInBounds_toArray, List.set_cons_zero, List.set_cons_succ, i64_w, i32_w]
      rfl
     refine pure_ (i := 10) (N := some 69) (v := ?_) (a' := ?_) #[true, true, true, true, true, true, true, true, true, true, true, true, false, false] rfl rfl (by kernel_rfl) (fun _ _ _ h => h) (Or.inl ⟨by rfl, ?_⟩) ?_ ?_
     rotate_left
     ·intro w'
      go_simp
      with_reducible rfl
     rotate_left
     ·simp only [Act.put, List.setIfInBounds_toArray, List.set_cons_zero, List.set_cons_succ, i64_w, i32_w]
      rfl
     refine norm_ ?_ (hCont (_, _, _, _, _, _, _, _, _, _, _) _ ⟨⟨cell_past J.HB CK0.out, cell_past J.HB CK1.out⟩, J⟩)
     first | (simp only [putAll, Act.put, List.setIfInBounds_toArray, List.set_cons_zero, List.set_cons_succ]; done) | (simp only [putAll, Act.put, List.setIfInBounds_toArray, List.set_cons_zero, List.set_cons_succ]; rfl)
   rintro ⟨ArL, crL, AsL, csL, A8, c8, AK, cK, AO, cO, gd⟩ w10 ⟨hHeld, J⟩
   refine norm_ (a' := ?_) ?_ ?_
   rotate_left
   ·simp only [putAll, Act.put, List.setIfInBounds_toArray, List.set_cons_zero, List.set_cons_succ]
    rfl
   refine last_ (i := 12) (N := none) #[true, true, true, true, true, true, true, true, true, true, true, true, true, false] rfl rfl (by kernel_rfl) (by decide) (fun K hK => ?_)
   have hz0 : w10.cell? ⟨gd, 0, none⟩ = some (.string ⟨#[]⟩) := (blk_cell (J.A rfl).1 0).trans rfl
   have hz1 : w10.cell? ⟨gd, 1, none⟩ = some (.slice none 0 0) := (blk_cell (J.A rfl).1 1).trans rfl
   have hz2 : w10.cell? ⟨gd, 2, none⟩ = some (.slice none 0 0) := (blk_cell (J.A rfl).1 2).trans rfl
   have hy0 := blk_frozen (J.A rfl).1 0
   have hy1 := blk_frozen (J.A rfl).1 1
   have hy2 := blk_frozen (J.A rfl).1 2
   refine skip_ (w1 := ?_) (by rfl) rfl ?_ ?_
   rotate_left
   ·go_simp
    rfl
   clear hz0 hz1 hz2 hy0 hy1 hy2
   refine hK.out _ _ ?_
   clear hK K
   refine pure_ (i := 13) (N := some 13) (v := ?_) (a' := ?_) #[true, true, true, true, true, true, true, true, true, true, true, true, true, true] rfl rfl (by kernel_rfl) (fun _ _ _ h => h) (Or.inl ⟨by rfl, ?_⟩) ?_ ?_
   rotate_left
   ·intro w'
    go_simp
    with_reducible rfl
   rotate_left
   ·simp only [Act.put, List.setIfInBounds_toArray, List.set_cons_zero, List.set_cons_succ, i64_w, i32_w]
    rfl
   refine done_ (by kernel_rfl) ?_
   have HD1 := Aside0.mk (blk_put (blk_put (blk_put (J.A rfl).1 0 (.string b') rfl) 1 (.slice AK KL.length cK) rfl) 2 (.slice AO os.length cO) rfl)
   have HRK := Aside0.mk (Kd.R_reads' (Kd.R_far (p := ⟨gd, 2, none⟩) (Kd.R_far (p := ⟨gd, 1, none⟩) (Kd.R_far (p := ⟨gd, 0, none⟩) (Kd.R_types (J.C rfl).1 (J.A rfl).1 (by decide)) (fun _ hk => hk.2) (.string b')) (fun _ hk => hk.2) (.slice AK KL.length cK)) (fun _ hk => hk.2) (.slice AO os.length cO))).2
   have HSO := Aside0.mk (Kd.S_reads' (Kd.S_far (p := ⟨gd, 2, none⟩) (Kd.S_far (p := ⟨gd, 1, none⟩) (Kd.S_far (p := ⟨gd, 0, none⟩) (Kd.S_types (J.C rfl).2 (J.A rfl).1 (by decide)) (fun _ hk => hk.2) (.string b')) (fun _ hk => hk.2) (.slice AK KL.length cK)) (fun _ hk => hk.2) (.slice AO os.length cO))).2
   have HBX := Aside0.mk (((J.HB.setCell (J.A rfl).2 (.string b')).setCell (J.A rfl).2 (.slice AK KL.length cK)).setCell (J.A rfl).2 (.slice AO os.length cO) : Below wr.heap.size wr (((w10.setCell ⟨gd, 0, none⟩ (.string b')).setCell ⟨gd, 1, none⟩ (.slice AK KL.length cK)).setCell ⟨gd, 2, none⟩ (.slice AO os.length cO)))
   clear J hHeld
   generalize ((w10.setCell ⟨gd, 0, none⟩ (.string b')).setCell ⟨gd, 1, none⟩ (.slice AK KL.length cK)).setCell ⟨gd, 2, none⟩ (.slice AO os.length cO) = wX at HD1 HRK HSO HBX ⊢
   have hd0 : wX.cell? ⟨gd, 0, none⟩ = some (.string b') := (blk_cell HD1.out 0).trans rfl
   have hd1 : wX.cell? ⟨gd, 1, none⟩ = some (.slice AK KL.length cK) := (blk_cell HD1.out 1).trans rfl
   have hd2 : wX.cell? ⟨gd, 2, none⟩ = some (.slice AO os.length cO) := (blk_cell HD1.out 2).trans rfl
   have hne : ((KL.length : Int) != wrap64 ((os.length : Int) + 1)) = false := by
    have h1 := H.out.kl
    have h2 := H.out.ks
    rw [show wrap64 ((os.length : Int) + 1) = (KL.length : Int) by unfold wrap64; omega]
    exact bne_self_eq_false _
   go_wp2
   clear hne hd0 hd1 hd2
   have HTX := Aside0.mk (Tabs.below HT6.out HBX.out)
   have HIX := Aside0.mk (HI6.out.below HBX.out)
   have HRL := Aside0.mk (Kd.C_below HR1.out (below_then HBw.out HBw.out.size HBX.out))
   clear HLg HFw CK0 CK1 HR2 HC2 HS4 HCS BC4 BK4 HB6 HB4
   go_loopw [14] (fun v14 W => ∃ i : Nat, v14 = .int .i64 i ∧ i ≤ KL.length ∧ Aside0 (Below wX.heap.size wX W)) (fun v14 _ => KL.length - (intOf v14).toNat)
   case atStart => exact ⟨0, rfl, Nat.zero_le _, ⟨Below.refl _ _⟩⟩
   case round =>
    rename World => wy
    obtain ⟨i, rfl, hi, HW⟩ := hrel
    have hd0 : wy.cell? ⟨gd, 0, none⟩ = some (.string b') := cell_past HW.out ((blk_cell HD1.out 0).trans rfl)
    have hd1 : wy.cell? ⟨gd, 1, none⟩ = some (.slice AK KL.length cK) := cell_past HW.out ((blk_cell HD1.out 1).trans rfl)
    have hd2 : wy.cell? ⟨gd, 2, none⟩ = some (.slice AO os.length cO) := cell_past HW.out ((blk_cell HD1.out 2).trans rfl)
    by_cases hlt : i < KL.length
    ·have hltb : decide ((i : Int) < (KL.length : Int)) = true := decide_eq_true (by omega)
     have HLT := Aside0.mk hlt
     obtain ⟨r, t, n, x0, x, q, q', hr⟩ := H.out.at_ i hlt
     have HA := Aside0.mk hr
     have p1 : ((i : Int) < (KL.length : Int)) = True := eq_true (by omega)
     have p2 : (i < KL.length) = True := eq_true hlt
     have EW : Aside0 (wrap64 ((i : Int) + 1) = ((i + 1 : Nat) : Int)) := ⟨by have := H.out.ks; unfold wrap64; omega⟩
     obtain ⟨ad, eAK, hcx⟩ := Kd.at_int HRK.out.2 (i : Int) (by omega) (by omega)
     subst eAK
     rw [Int.toNat_natCast, HA.out.kr] at hcx
     have hce : wy.cell? (ad.add i) = some (.int .i64 (r : Int)) := cell_past HW.out hcx
     have HCE := Aside0.mk hcx
     clear hcx hlt hi hr
     have FAt := Aside0.mk (fun (W : World) (hW : Below wX.heap.size wX W) => history_At.calls k W w4.heap.size g b segs Z r t (Tabs.below HTX.out hW) (HIX.out.below hW) HA.out.rs (by have := H.out.sl; omega) HA.out.at1)
     have FCh := Aside0.mk (fun (W : World) (hW : Below wX.heap.size wX W) => chain_At.calls k b' (some ad) cK KL AO cO os (i : Int) t 0 W (Kd.C_below HRK.out.2 hW) HRK.out.1 (Kd.C_below HSO.out.2 hW) HSO.out.1 (Tabs.below HTX.out hW) HA.out.at2)
     have FCn := Aside0.mk (fun (W : World) (hW : Below wX.heap.size wX W) => points_Count.calls t n W (Tabs.below HTX.out hW) HA.out.cn)
     have F0 := Aside0.mk (fun (W : World) => by have h9 := epitomeref04_Fit.calls k none 0 [] n x0 W (Kd.C_nil _ _) (Nat.le_refl _) HA.out.f0; rw [List.length_nil] at h9; exact h9)
     go_upto_region 22 with (first | (go_at_call 26; (with_reducible refine (FAt.out _ HW.out).mono ?_); rintro e w11 ⟨rfl, hb⟩; have HW1 := Aside0.mk (below_step HW.out hb); clear hb; have hc0 := cell_past HW1.out ((blk_cell HD1.out 0).trans rfl : wX.cell? ⟨gd, 0, none⟩ = some (.string b')); have hc1 := cell_past HW1.out ((blk_cell HD1.out 1).trans rfl : wX.cell? ⟨gd, 1, none⟩ = some (.slice (some ad) KL.length cK)); have hc2 := cell_past HW1.out ((blk_cell HD1.out 2).trans rfl : wX.cell? ⟨gd, 2, none⟩ = some (.slice AO os.length cO)); have hblk := blk_below HD1.out HW1.out) | (go_at_call 27; (with_reducible refine (FCh.out _ HW1.out).mono ?_); rintro e w12 ⟨rfl, hb⟩; have HW2 := Aside0.mk (below_step HW1.out hb); clear hb) | (go_at_call 10; (with_reducible refine (FCn.out _ HW2.out).mono ?_); rintro e w13 ⟨rfl, hb⟩; have HW3 := Aside0.mk (below_step HW2.out hb); clear hb) | (go_at_call 28; (with_reducible refine (F0.out _).mono ?_); rintro e w14 ⟨v14, rfl, ho, hb⟩; have HW4 := Aside0.mk (below_step HW3.out hb); have HO4 := Aside0.mk ho; clear hb ho))
     obtain ⟨Aa0, ca0, rfl⟩ := Kd.R_slice HO4.out
     have HRA0 := Aside0.mk (Kd.R_reads' HO4.out).2
     clear HO4 HW HW1 HW2 hc0 hc1 hc2 hblk hce
     by_cases hl : 0 < l1.length
     ·have q1 : ((l1.length : Int) > 0) = True := eq_true (by omega)
      have q2 : ((0 : Int) < (l1.length : Int)) = True := eq_true (by omega)
      have q3 : (0 < l1.length) = True := eq_true hl
      obtain ⟨a1, Ax, cx, eA1, hcx1, lx, rx⟩ := at_L3 HRL.out 0 (by omega) (by omega)
      have HCX1 : Aside0 (wX.cell? a1 = some (.slice Ax (rd_L3 l1 0).length cx)) := ⟨hcx1⟩
      have hce1 : w14.cell? a1 = some (.slice Ax (rd_L3 l1 0).length cx) := cell_past HW4.out HCX1.out
      have FCn1 := Aside0.mk (fun (W : World) (hW : Below wX.heap.size wX W) => FCn.out W hW)
      have F1 := Aside0.mk (fun (W : World) (hW : Below wX.heap.size wX W) => epitomeref04_Fit.calls k Ax cx (rd_L3 l1 0) n x W (Kd.C_below rx hW) lx (HA.out.f1 hl))
      subst eA1
      clear lx rx hcx1 hl
      go_wp2
      go_region_held3 (fun w' => w'.cell? a1 = some (.slice Ax (rd_L3 l1 0).length cx)) (first | go_keep | exact cell_past HW5.out HCX1.out | exact cell_past HW6.out HCX1.out) ((first | (go_at_call 10; (with_reducible refine (FCn.out _ (below_drew1 HW4.out)).mono ?_); rintro e w15 ⟨rfl, hb⟩; have HW5 := Aside0.mk (below_step (below_drew1 HW4.out) hb); clear hb) | (go_at_call 28; (with_reducible refine (F1.out _ HW5.out).mono ?_); rintro e w16 ⟨v16, rfl, ho, hb⟩; have HW6 := Aside0.mk (below_step HW5.out hb); have HO6 := Aside0.mk ho; clear hb ho)))
      obtain ⟨Aa, ca, rfl⟩ := Kd.R_slice HO6.out
      have HRA := Aside0.mk (Kd.R_reads' HO6.out).2
      have hcd1 : w16.cell? ⟨gd, 1, none⟩ = some (.slice (some ad) KL.length cK) := cell_past HW6.out ((blk_cell HD1.out 1).trans rfl)
      have hcd2 : w16.cell? ⟨gd, 2, none⟩ = some (.slice AO os.length cO) := cell_past HW6.out ((blk_cell HD1.out 2).trans rfl)
      have hce2 : w16.cell? (ad.add i) = some (.int .i64 (r : Int)) := cell_past HW6.out HCE.out
      have FOv := Aside0.mk (fun (W : World) (hW : Below wX.heap.size wX W) (hV : Below w16.heap.size w16 W) => history_Over.calls k W w4.heap.size g b segs Z r Aa ca x q _ (Tabs.below HTX.out hW) (HIX.out.below hW) HA.out.rs H.out.zl (by have := H.out.sl; omega) (Kd.C_below HRA.out.2 hV) HRA.out.1 HA.out.ma HA.out.ia rfl HA.out.t1)
      have hir : i ≤ os.length := by have h1 := H.out.kl; have h2 := HLT.out; omega
      have p3 : (i : Int) ≤ (os.length : Int) := by omega
      have p4 : (i : Int) ≤ (cO : Int) := by have := HSO.out.1; omega
      obtain ⟨AQ, eAQ⟩ : ∃ AQ, AQ = (if cO = i then AO else AO.map (·.add (i * 1))) := ⟨_, rfl⟩
      have hcut : ∀ W : World, _ := fun W => by have h9 := history_cut AO os.length cO i hir HSO.out.1 W; rw [← eAQ] at h9; exact h9
      have FTh := Aside0.mk (fun (W : World) (hW : Below wX.heap.size wX W) (hV : Below w16.heap.size w16 W) => by
       have h9 := through_Of.calls k Aa ca x (if cO = i then AO else AO.map (·.add (i * 1))) (cO - i) (os.drop i) q' 0 W (Kd.C_below HRA.out.2 hV) HRA.out.1 (Kd.C_drop (Kd.C_below HSO.out.2 hW) hir HSO.out.1) (by rw [List.length_drop]; have := HSO.out.1; omega) (Tabs.below HTX.out hW) HA.out.t2
       rw [List.length_drop, ← eAQ] at h9
       exact h9)
      clear eAQ hir
      go_upto_region 26 with (first | (go_at_call 29; (with_reducible refine (FOv.out _ HW6.out (Below.refl _ _)).mono ?_); rintro e w17 ⟨v20, rfl, ho, hb⟩; have HV7 := Aside0.mk hb; have HW7 := Aside0.mk (below_step HW6.out hb); have HO7 := Aside0.mk ho; clear hb ho; have hcd2 := cell_past HW7.out ((blk_cell HD1.out 2).trans rfl : wX.cell? ⟨gd, 2, none⟩ = some (.slice AO os.length cO))) | (go_at_call 12; (with_reducible refine (FTh.out _ HW7.out HV7.out).mono ?_); rintro e w18 ⟨v22, rfl, ho, hb⟩; have HW8 := Aside0.mk (below_step HW7.out hb); have HV8 := Aside0.mk hb; have HO8 := Aside0.mk ho; clear hb ho))
      obtain ⟨A20, c20, rfl⟩ := Kd.R_slice HO7.out
      obtain ⟨A22, c22, rfl⟩ := Kd.R_slice HO8.out
      have FSm := Aside0.mk (epitomeref04_Same.calls k A20 c20 q A22 c22 q' true w18 (Kd.C_below (Kd.R_reads' HO7.out).2.2 HV8.out) (Kd.R_reads' HO7.out).2.1 (Kd.R_reads' HO8.out).2.2 (Kd.R_reads' HO8.out).2.1 HA.out.sm)
      go_wp2_with (go_at_call 15; (with_reducible refine FSm.out.mono ?_); rintro e w19 ⟨rfl, hb⟩; have HW9 := Aside0.mk (below_step HW8.out hb.below); clear hb)
      go_round
      case measure => exact op_sum.less HLT.out EW.out
      case rel => exact ⟨i + 1, by rw [EW.out], HLT.out, HW9⟩
     ·have hlb : ((l1.length : Int) > 0) = False := eq_false (by omega)
      have hlb2 : ((0 : Int) < (l1.length : Int)) = False := eq_false (by omega)
      have hlb3 : (0 < l1.length) = False := eq_false hl
      have hlb4 : decide ((l1.length : Int) > 0) = false := decide_eq_false (by omega)
      have ex := HA.out.f2 (by omega)
      subst ex
      clear hl
      have hcd1 : w14.cell? ⟨gd, 1, none⟩ = some (.slice (some ad) KL.length cK) := cell_past HW4.out ((blk_cell HD1.out 1).trans rfl)
      have hcd2 : w14.cell? ⟨gd, 2, none⟩ = some (.slice AO os.length cO) := cell_past HW4.out ((blk_cell HD1.out 2).trans rfl)
      have hce2 : w14.cell? (ad.add i) = some (.int .i64 (r : Int)) := cell_past HW4.out HCE.out
      have FOv := Aside0.mk (fun (W : World) (hW : Below wX.heap.size wX W) (hV : Below w14.heap.size w14 W) => history_Over.calls k W w4.heap.size g b segs Z r Aa0 ca0 x q _ (Tabs.below HTX.out hW) (HIX.out.below hW) HA.out.rs H.out.zl (by have := H.out.sl; omega) (Kd.C_below HRA0.out.2 hV) HRA0.out.1 HA.out.ma HA.out.ia rfl HA.out.t1)
      have hir : i ≤ os.length := by have h1 := H.out.kl; have h2 := HLT.out; omega
      have p3 : (i : Int) ≤ (os.length : Int) := by omega
      have p4 : (i : Int) ≤ (cO : Int) := by have := HSO.out.1; omega
      obtain ⟨AQ, eAQ⟩ : ∃ AQ, AQ = (if cO = i then AO else AO.map (·.add (i * 1))) := ⟨_, rfl⟩
      have hcut : ∀ W : World, _ := fun W => by have h9 := history_cut AO os.length cO i hir HSO.out.1 W; rw [← eAQ] at h9; exact h9
      have FTh := Aside0.mk (fun (W : World) (hW : Below wX.heap.size wX W) (hV : Below w14.heap.size w14 W) => by
       have h9 := through_Of.calls k Aa0 ca0 x (if cO = i then AO else AO.map (·.add (i * 1))) (cO - i) (os.drop i) q' 0 W (Kd.C_below HRA0.out.2 hV) HRA0.out.1 (Kd.C_drop (Kd.C_below HSO.out.2 hW) hir HSO.out.1) (by rw [List.length_drop]; have := HSO.out.1; omega) (Tabs.below HTX.out hW) HA.out.t2
       rw [List.length_drop, ← eAQ] at h9
       exact h9)
      clear eAQ hir
      go_upto_region 26 with (first | (go_at_call 29; (with_reducible refine (FOv.out _ HW4.out (Below.refl _ _)).mono ?_); rintro e w17 ⟨v20, rfl, ho, hb⟩; have HV7 := Aside0.mk hb; have HW7 := Aside0.mk (below_step HW4.out hb); have HO7 := Aside0.mk ho; clear hb ho; have hcd2 := cell_past HW7.out ((blk_cell HD1.out 2).trans rfl : wX.cell? ⟨gd, 2, none⟩ = some (.slice AO os.length cO))) | (go_at_call 12; (with_reducible refine (FTh.out _ HW7.out HV7.out).mono ?_); rintro e w18 ⟨v22, rfl, ho, hb⟩; have HW8 := Aside0.mk (below_step HW7.out hb); have HV8 := Aside0.mk hb; have HO8 := Aside0.mk ho; clear hb ho))
      obtain ⟨A20, c20, rfl⟩ := Kd.R_slice HO7.out
      obtain ⟨A22, c22, rfl⟩ := Kd.R_slice HO8.out
      have FSm := Aside0.mk (epitomeref04_Same.calls k A20 c20 q A22 c22 q' true w18 (Kd.C_below (Kd.R_reads' HO7.out).2.2 HV8.out) (Kd.R_reads' HO7.out).2.1 (Kd.R_reads' HO8.out).2.2 (Kd.R_reads' HO8.out).2.1 HA.out.sm)
      go_wp2_with (go_at_call 15; (with_reducible refine FSm.out.mono ?_); rintro e w19 ⟨rfl, hb⟩; have HW9 := Aside0.mk (below_step HW8.out hb.below); clear hb)
      go_round
      case measure => exact op_sum.less HLT.out EW.out
      case rel => exact ⟨i + 1, by rw [EW.out], HLT.out, HW9⟩
    ·have ei : i = KL.length := by omega
     subst ei
     have hltb : decide ((KL.length : Int) < (KL.length : Int)) = false := decide_eq_false (by omega)
     have HBY := Aside0.mk HW.out
     clear hlt hi
     go_wp2
     go_ret
     exact ⟨rfl, below_then HBw.out HBw.out.size (below_then HBX.out HBX.out.size HBY.out)⟩
end Go.Proofs.YtegjegihcebimaaDoor.P
end
