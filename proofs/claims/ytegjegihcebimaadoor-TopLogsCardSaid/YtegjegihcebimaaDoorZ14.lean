/- Part 14 of the proof of topLogs_holds: out of the texts that this session's programs wrote, what the theorem reaches. -/
import Derived.Test.YtegjegihcebimaaDoorZ10
import Derived.Test.YtegjegihcebimaaDoorZ13
section
namespace Go.Proofs.YtegjegihcebimaaDoor.P
open Go.RowKit Go.Proofs.YtegjegihcebimaaDoorW.PrintWords Go.Proofs.YtegjegihcebimaaDoorW.PrintLast Go.Proofs.YtegjegihcebimaaDoorW.PrintMore
attribute [local go_sem] max2_int min2_int max_two min_two max_three min_three max_four min_four
set_option linter.unusedVariables false
set_option linter.unusedSimpArgs false
structure OpV where
 kind : Int
 rev : Int
 floor : Int
 who : Int
 l : List S25
 set : List Int
structure FitOk (k : Nat) (b : ByteArray) (r : List Int) (l : List (List S25)) (o : OpV) (kd q0 : Int) (q : Nat) (st : List Int) (rv : Int) (x : List S25) (t : ByteArray) (nt : Int) : Prop where
 hk : Int.tmod (wrap64 (Int.tmod o.kind 5 + 5)) 5 = kd
 fw : epitometop_few.f o.set = some st
 h0 : Int.tmod (wrap64 (Int.tmod o.rev (r.length : Int) + (r.length : Int))) (r.length : Int) = q0
 hq : (q : Int) = if kd = 2 then (r.length : Int) - 1 else q0
 ql : q < r.length
 hr : rd r (q : Int) = rv
 at_ : chain_At.f k b r l (q : Int) = some (t, 0)
 cn : points_Count.f t = some nt
 ft : epitomeref04_Fit.f k o.l nt = some x
 rl : r.length < 1000000
 ll : l.length < 100000
 xl : ∀ x ∈ l, x.length < 1000000
set_option maxHeartbeats 16000000 in
set_option maxRecDepth 100000 in
theorem fit_walk (k : Nat) (w : World) (P : Nat → Prop) (g : Nat) (b : ByteArray) (r : List Int) (l : List (List S25)) (z : List Int) (o : OpV) (AL : Option Addr) (cL : Nat) (AS : Option Addr) (cS : Nat) (kd q0 : Int) (q : Nat) (st : List Int) (rv : Int) (x : List S25) (t : ByteArray) (nt : Int) (hT : Tabs w) (h : SI w P g b r l z)
  (rL : Kd.C k25 w AL o.l.length o.l) (lL : o.l.length ≤ cL) (rS : Kd.C (Kd.int .i64) w AS o.set.length o.set) (lS : o.set.length ≤ cS) (H : FitOk k b r l o kd q0 q st rv x t nt) :
  Calls Tryd.prog 35 #[.agg #[.int .i64 o.kind, .int .i64 o.rev, .int .i64 o.floor, .int .i64 o.who, .slice AL o.l.length cL, .slice AS o.set.length cS], .pointer (some ⟨g, 0, none⟩)] w fun e w' => ∃ A1 c1 A2 c2, e = .returned (.tuple #[.agg #[.int .i64 kd, .int .i64 rv, .int .i64 o.floor, .int .i64 o.who, .slice A1 x.length c1, .slice A2 st.length c2], .bool true]) ∧ Kd.R k25 25 w' w.heap.size (fun _ => True) (.slice A1 x.length c1) x ∧ st.length ≤ c2 ∧ Kd.C (Kd.int .i64) w' A2 st.length st ∧ Below w.heap.size w w' := by
 have HT := Aside0.mk hT; have HS := Aside0.mk h; have H0 := Aside0.mk H
 have HL := Aside0.mk (fun (W : World) (hW : Below w.heap.size w W) => server_Log.calls W P g b r l z (h.below hW) H.rl H.ll H.xl)
 have HFw := Aside0.mk (fun (W : World) (hW : Below w.heap.size w W) => epitometop_few.calls (fun k_ => k_ < w.heap.size) AS cS o.set st W (Kd.V_mk lS (Kd.F_below (Kd.C_F (Kd.heap_int .i64) rS) hW)) H.fw)
 have HFt := Aside0.mk (fun (W : World) (hW : Below w.heap.size w W) => epitomeref04_Fit.calls k AL cL o.l nt x W (Kd.C_below rL hW) lL H.ft)
 have HCn := Aside0.mk (fun (W : World) (hW : Below w.heap.size w W) => points_Count.calls t nt W (Tabs.below hT hW) H.cn)
 have hk := H.hk
 have h0 := H.h0
 have rn : ((r.length : Int) == 0) = false := beq_eq_false_iff_ne.2 (by have := H.ql; omega)
 have rn3 : (r = []) = False := eq_false (fun e => by have := H.ql; rw [e] at this; simp at this)
 have rn2 : ((r.length : Int) = 0) = False := eq_false (by have := H.ql; omega)
 have HA0 := Aside0.mk (blk_alloc (heap_alloc_new w (.cells #[.int .i64 o.kind, .int .i64 o.rev, .int .i64 o.floor, .int .i64 o.who, .slice AL o.l.length cL, .slice AS o.set.length cS] 79)) (.cells #[.int .i64 0, .int .i64 0, .int .i64 0, .int .i64 0, .slice none 0 0, .slice none 0 0] 79))
 have HB0 := Aside0.mk (below_alloc (below_alloc (Below.refl w.heap.size w) (.cells #[.int .i64 o.kind, .int .i64 o.rev, .int .i64 o.floor, .int .i64 o.who, .slice AL o.l.length cL, .slice AS o.set.length cS] 79)) (.cells #[.int .i64 0, .int .i64 0, .int .i64 0, .int .i64 0, .slice none 0 0, .slice none 0 0] 79))
 have hr0 := heap_alloc_new (w.alloc (.cells #[.int .i64 o.kind, .int .i64 o.rev, .int .i64 o.floor, .int .i64 o.who, .slice AL o.l.length cL, .slice AS o.set.length cS] 79)) (.cells #[.int .i64 0, .int .i64 0, .int .i64 0, .int .i64 0, .slice none 0 0, .slice none 0 0] 79)
 rw [alloc_heap_size] at hr0
 have HR0 := Aside0.mk hr0
 clear hT h rL lL rS lS H hr0
 go_enter Tryd.func35, Tryd.ntmps35
 go_upto_region 1 with (fail)
 generalize (w.alloc (.cells #[.int .i64 o.kind, .int .i64 o.rev, .int .i64 o.floor, .int .i64 o.who, .slice AL o.l.length cL, .slice AS o.set.length cS] 79)).alloc (.cells #[.int .i64 0, .int .i64 0, .int .i64 0, .int .i64 0, .slice none 0 0, .slice none 0 0] 79) = w1 at HA0 HB0 HR0 ⊢
 go_upto_region 2 with (go_at_call 37; (with_reducible refine (HL.out _ HB0.out).mono ?_); rintro e w2 ⟨Ar, cr, As, cs, rfl, hr, hs, hb⟩; have HRr := Aside0.mk (Kd.R_mono (ok' := fun k => w1.heap.size ≤ k ∧ k < w2.heap.size) (Kd.R_bound hr) (fun k hk => ⟨hk.2.1, hk.2.2.1⟩)); have HRs := Aside0.mk (Kd.S_mono (ok' := fun k => w1.heap.size ≤ k ∧ k < w2.heap.size) (Kd.S_bound hs) (fun k hk => ⟨hk.2.1, hk.2.2.1⟩)); have HX2 := Aside0.mk hb; clear hr hs hb)
 have HN1 : Aside0 (w.heap.size < w1.heap.size ∧ w.heap.size + 1 < w1.heap.size ∧ w1.heap.size ≤ w2.heap.size) := ⟨blk_lt HA0.out, blk_lt HR0.out, HX2.out.size⟩
 have HB2 := Aside0.mk (below_step HB0.out HX2.out)
 have HX3 := Aside0.mk (below_alloc (Below.refl w2.heap.size w2) (.cells #[.string b, .slice Ar r.length cr, .slice As l.length cs] 42))
 have HG3 := Aside0.mk (heap_alloc_new w2 (.cells #[.string b, .slice Ar r.length cr, .slice As l.length cs] 42))
 have HA3 := Aside0.mk (blk_below HA0.out (below_step HX2.out HX3.out))
 have HR3 := Aside0.mk (blk_below HR0.out (below_step HX2.out HX3.out))
 have HB3 := Aside0.mk (below_step HB2.out HX3.out)
 have HRr3 := Aside0.mk (Kd.R_below HRr.out HX3.out)
 have HRs3 := Aside0.mk (Kd.S_below HRs.out HX3.out)
 clear HA0 HR0 HRr HRs HX2 HX3 HB0 HB2
 generalize w2.alloc (.cells #[.string b, .slice Ar r.length cr, .slice As l.length cs] 42) = w3 at HG3 HA3 HR3 HB3 HRr3 HRs3 ⊢
 generalize w2.heap.size = g6 at HG3 HN1 ⊢
 have c1 : w3.cell? ⟨g6, 1, none⟩ = some (.slice Ar r.length cr) := (blk_cell HG3.out 1).trans rfl
 have d0 : w3.cell? ⟨w.heap.size, 0, none⟩ = some (.int .i64 o.kind) := (blk_cell HA3.out 0).trans rfl
 have f0 := blk_frozen HA3.out 0
 go_upto_region 6 with (fail)
 have HK4 : Aside0 (Kf w3 (w3.setCell ⟨w.heap.size, 0, none⟩ (.int .i64 kd)) (fun k => k = w.heap.size)) := ⟨(Kf.refl w3 (fun k => k = w.heap.size)).set (p := ⟨w.heap.size, 0, none⟩) (.inl rfl) _⟩
 have HA4 : Aside0 ((w3.setCell ⟨w.heap.size, 0, none⟩ (.int .i64 kd)).heap[w.heap.size]? = some (.cells #[.int .i64 kd, .int .i64 o.rev, .int .i64 o.floor, .int .i64 o.who, .slice AL o.l.length cL, .slice AS o.set.length cS] 79 (0, 0))) := ⟨blk_put HA3.out 0 (.int .i64 kd) rfl⟩
 have HB4 := Aside0.mk (HB3.out.setCell (p := ⟨w.heap.size, 0, none⟩) (Nat.le_refl _) (.int .i64 kd))
 clear c1 d0 f0 HA3
 generalize w3.setCell ⟨w.heap.size, 0, none⟩ (.int .i64 kd) = w4 at HK4 HA4 HB4 ⊢
 have d5 : w4.cell? ⟨w.heap.size, 5, none⟩ = some (.slice AS o.set.length cS) := (blk_cell HA4.out 5).trans rfl
 go_upto_region 7 with (go_at_call 18; (with_reducible refine (HFw.out _ HB4.out).mono ?_); rintro e w5 ⟨v5, rfl, hv, hb⟩; obtain ⟨AF, cF, rfl⟩ := Kd.V_slice hv; have HV5 := Aside0.mk hv; have HX5 := Aside0.mk hb; have HA5 := Aside0.mk (blk_below HA4.out hb); have d5' : w5.cell? ⟨w.heap.size, 5, none⟩ = some (.slice AS o.set.length cS) := (blk_cell HA5.out 5).trans rfl; have f5 := blk_frozen HA5.out 5; clear hv hb d5)
 have HK6 : Aside0 (Kf w3 (w5.setCell ⟨w.heap.size, 5, none⟩ (.slice AF st.length cF)) (fun k => k = w.heap.size)) := ⟨(HK4.out.step HX5.out).set (p := ⟨w.heap.size, 5, none⟩) (.inl rfl) _⟩
 have HV6 := Aside0.mk (Kd.V_kept HV5.out ((Kf.refl w5 (fun k => k = w.heap.size)).set (p := ⟨w.heap.size, 5, none⟩) (.inl rfl) (.slice AF st.length cF)).2 (fun k hk (e : k = w.heap.size) => by have := HB4.out.size; have := blk_lt HA4.out; omega))
 have HA6 : Aside0 ((w5.setCell ⟨w.heap.size, 5, none⟩ (.slice AF st.length cF)).heap[w.heap.size]? = some (.cells #[.int .i64 kd, .int .i64 o.rev, .int .i64 o.floor, .int .i64 o.who, .slice AL o.l.length cL, .slice AF st.length cF] 79 (0, 0))) := ⟨blk_put HA5.out 5 (.slice AF st.length cF) rfl⟩
 have HB6 := Aside0.mk ((below_step HB4.out HX5.out).setCell (p := ⟨w.heap.size, 5, none⟩) (Nat.le_refl _) (.slice AF st.length cF))
 have HN4 : Aside0 (w.heap.size < w4.heap.size ∧ w.heap.size + 1 < w4.heap.size) := ⟨blk_lt HA4.out, Nat.lt_of_lt_of_le (blk_lt HR3.out) HK4.out.size⟩
 clear d5' f5 HA4 HA5 HV5 HX5 HB4 HK4
 generalize w5.setCell ⟨w.heap.size, 5, none⟩ (.slice AF st.length cF) = w6 at HK6 HV6 HA6 HB6 ⊢
 have d1 : w6.cell? ⟨w.heap.size, 1, none⟩ = some (.int .i64 o.rev) := (blk_cell HA6.out 1).trans rfl
 have d0 : w6.cell? ⟨w.heap.size, 0, none⟩ = some (.int .i64 kd) := (blk_cell HA6.out 0).trans rfl
 have hq := H0.out.hq
 have EW : wrap64 ((r.length : Int) - 1) = (r.length : Int) - 1 := by have := H0.out.ql; have := H0.out.rl; unfold wrap64; omega
 have HD : ((kd == 2) = true ∧ wrap64 ((r.length : Int) - 1) = (q : Int)) ∨ ((kd == 2) = false ∧ q0 = (q : Int)) := by
  by_cases ck : kd = 2
  ·rw [if_pos ck] at hq; exact .inl ⟨beq_iff_eq.2 ck, EW.trans hq.symm⟩
  ·rw [if_neg ck] at hq; exact .inr ⟨beq_eq_false_iff_ne.2 ck, hq.symm⟩
 have HG6 := Aside0.mk (blk_kept HG3.out HK6.out.2 (fun (e : g6 = w.heap.size) => by have := HN1.out; omega))
 have HRr6 := Aside0.mk (Kd.R_kept HRr3.out HK6.out.2 (fun k hk (e : k = w.heap.size) => by have := HN1.out; omega))
 have HRs6 := Aside0.mk (Kd.S_kept HRs3.out HK6.out.2 (fun k hk (e : k = w.heap.size) => by have := HN1.out; omega))
 have HR6 := Aside0.mk (blk_kept HR3.out HK6.out.2 (fun (e : w.heap.size + 1 = w.heap.size) => by omega))
 obtain ⟨ad, hA, hc⟩ := Kd.at_int (Kd.R_reads' HRr6.out).2.2 (q : Int) (by omega) (by have := H0.out.ql; omega)
 subst hA
 rw [Int.toNat_natCast, H0.out.hr] at hc
 have hc1 : w6.cell? ⟨g6, 1, none⟩ = some (.slice (some ad) r.length cr) := (blk_cell HG6.out 1).trans rfl
 have f1 := blk_frozen HA6.out 1
 have p1 : (0 : Int) ≤ (q : Int) := by omega
 have p2 : (q : Int) < (r.length : Int) := by have := H0.out.ql; omega
 have p3 : q < r.length := H0.out.ql
 clear hq EW HG3 HRr3 HRs3 HR3 HK6
 rcases HD with ⟨ckb, e⟩ | ⟨ckb, e⟩
 all_goals go_upto_region 10 with (fail)
 all_goals try rw [e]
 all_goals clear e ckb
 all_goals go_upto_region 11 with (fail)
 all_goals have HK7 : Aside0 (Kf w6 (w6.setCell ⟨w.heap.size, 1, none⟩ (.int .i64 rv)) (fun k => k = w.heap.size)) := ⟨(Kf.refl w6 (fun k => k = w.heap.size)).set (p := ⟨w.heap.size, 1, none⟩) (.inl rfl) _⟩
 all_goals have HV7 := Aside0.mk (Kd.V_kept HV6.out HK7.out.2 (fun k hk (e : k = w.heap.size) => by have := HN4.out; omega))
 all_goals have HA7 : Aside0 ((w6.setCell ⟨w.heap.size, 1, none⟩ (.int .i64 rv)).heap[w.heap.size]? = some (.cells #[.int .i64 kd, .int .i64 rv, .int .i64 o.floor, .int .i64 o.who, .slice AL o.l.length cL, .slice AF st.length cF] 79 (0, 0))) := ⟨blk_put HA6.out 1 (.int .i64 rv) rfl⟩
 all_goals have HB7 := Aside0.mk (HB6.out.setCell (p := ⟨w.heap.size, 1, none⟩) (Nat.le_refl _) (.int .i64 rv))
 all_goals have HG7 := Aside0.mk (blk_kept HG6.out HK7.out.2 (fun (e : g6 = w.heap.size) => by have := HN1.out; omega))
 all_goals have HRr7 := Aside0.mk (Kd.R_kept HRr6.out HK7.out.2 (fun k hk (e : k = w.heap.size) => by have := HN1.out; omega))
 all_goals have HRs7 := Aside0.mk (Kd.S_kept HRs6.out HK7.out.2 (fun k hk (e : k = w.heap.size) => by have := HN1.out; omega))
 all_goals have HR7 := Aside0.mk (blk_kept HR6.out HK7.out.2 (fun (e : w.heap.size + 1 = w.heap.size) => by omega))
 all_goals clear HV6 HA6 HB6 HG6 HRr6 HRs6 HR6 HK7 hc1 f1 hc d0 d1
 all_goals generalize w6.setCell ⟨w.heap.size, 1, none⟩ (.int .i64 rv) = w7 at HV7 HA7 HB7 HG7 HRr7 HRs7 HR7 ⊢
 all_goals have x0 : w7.cell? ⟨g6, 0, none⟩ = some (.string b) := (blk_cell HG7.out 0).trans rfl
 all_goals have x1 : w7.cell? ⟨g6, 1, none⟩ = some (.slice (some ad) r.length cr) := (blk_cell HG7.out 1).trans rfl
 all_goals have x2 : w7.cell? ⟨g6, 2, none⟩ = some (.slice As l.length cs) := (blk_cell HG7.out 2).trans rfl
 all_goals have HCh := Aside0.mk (chain_At.calls k b (some ad) cr r As cs l (q : Int) t 0 w7 (Kd.R_reads' HRr7.out).2.2 (Kd.R_reads' HRr7.out).2.1 (Kd.S_reads' HRs7.out).2.2 (Kd.S_reads' HRs7.out).2.1 (Tabs.below HT.out HB7.out) H0.out.at_)
 all_goals go_upto_region 12 with (go_at_call 27; (with_reducible refine HCh.out.mono ?_); rintro e w8 ⟨rfl, hb⟩; have HV8 := Aside0.mk (Kd.V_below HV7.out hb); have HA8 := Aside0.mk (blk_below HA7.out hb); have HB8 := Aside0.mk (below_step HB7.out hb); have HR8 := Aside0.mk (blk_below HR7.out hb); clear hb x0 x1 x2 HV7 HA7 HB7 HR7)
 all_goals have J := below_drew1 (Below.refl w8.heap.size w8)
 all_goals
  refine start_ (n := 7) (S := fun w' => w'.cell? ⟨w.heap.size, 4, none⟩ = some (.slice AL o.l.length cL)) (ds := [6]) #[false, false, false, false, false, false, false] (by kernel_rfl) rfl rfl ((blk_cell (blk_below HA8.out J) 4).trans rfl) (fun hHeld => ?_)
  generalize w8.drew = wd at J hHeld ⊢
  refine pure_ (i := 0) (N := some 54) (v := ?_) (a' := ?_) #[true, false, false, false, false, false, false] rfl rfl (by kernel_rfl) (fun _ _ _ h => h) (Or.inl ⟨by rfl, ?_⟩) ?_ ?_
  rotate_left
  ·intro w'
   go_simp
   with_reducible rfl
  rotate_left
  ·simp only [Act.put, List.setIfInBounds_toArray, List.set_cons_zero, List.set_cons_succ, i64_w, i32_w]
   rfl
  refine pure_ (i := 2) (N := some 56) (v := ?_) (a' := ?_) #[true, false, true, false, false, false, false] rfl rfl (by kernel_rfl) (fun _ _ _ h => h) (Or.inl ⟨by rfl, ?_⟩) ?_ ?_
  rotate_left
  ·intro w'
   go_simp
   with_reducible rfl
  rotate_left
  ·simp only [Act.put, List.setIfInBounds_toArray, List.set_cons_zero, List.set_cons_succ, i64_w, i32_w]
   rfl
  refine take_ (i := 1) (N := some 55) (v := ?_) (a' := ?_) #[true, true, true, false, false, false, false] rfl rfl (by kernel_rfl) (fun _ _ _ h => h) (Or.inl ⟨by rfl, ?_⟩) hHeld ?_ ?_
  rotate_left
  ·intro w' s0
   go_simp
   with_reducible rfl
  rotate_left
  ·simp only [Act.put, List.setIfInBounds_toArray, List.set_cons_zero, List.set_cons_succ, i64_w, i32_w]
   rfl
  refine one_ (i := 3) (N := some 57) #[true, true, true, true, false, false, false] rfl rfl (by kernel_rfl) (by decide) (fun K hK => ?_)
  refine goes_ Tryd.func10 (by kernel_rfl) rfl #[.string t] (by rfl) rfl rfl (by simp only [List.map_toArray, List.map_cons, List.map_nil]; rfl) ?_
  with_reducible refine (HCn.out _ (below_step HB8.out J)).mono ?_
  rintro e w9 ⟨rfl, hb⟩
  refine ⟨_, rfl, ?_⟩
  have J1 := below_step J hb
  clear J
  have J := J1
  clear J1
  refine hK.out _ _ ((blk_cell (blk_below HA8.out J) 4).trans rfl) (fun hHeld => ?_)
  clear hK K
  refine norm_ (a' := ?_) ?_ ?_
  rotate_left
  ·show Act.put _ (some 57) _ = _
   simp only [Act.put, List.setIfInBounds_toArray, List.set_cons_zero, List.set_cons_succ, i64_w, i32_w]
   rfl
  refine one_ (i := 4) (N := some 58) #[true, true, true, true, true, false, false] rfl rfl (by kernel_rfl) (by decide) (fun K hK => ?_)
  refine goes_ Tryd.func28 (by kernel_rfl) rfl #[.slice AL o.l.length cL, .int .i64 nt] (by rfl) rfl rfl (by simp only [List.map_toArray, List.map_cons, List.map_nil]; rfl) ?_
  with_reducible refine (HFt.out _ (below_step HB8.out J)).mono ?_
  rintro e w10 ⟨v10, rfl, ho, hb⟩
  refine ⟨_, rfl, ?_⟩
  obtain ⟨AX, cX, rfl⟩ := Kd.R_slice ho
  have HO10 := Aside0.mk ho
  have HJ9 := Aside0.mk J
  have J1 := below_step J hb
  clear J
  have J := J1
  clear J1
  refine hK.out _ _ ((blk_cell (blk_below HA8.out J) 4).trans rfl) (fun hHeld => ?_)
  clear hK K
  refine norm_ (a' := ?_) ?_ ?_
  rotate_left
  ·show Act.put _ (some 58) _ = _
   simp only [Act.put, List.setIfInBounds_toArray, List.set_cons_zero, List.set_cons_succ, i64_w, i32_w]
   rfl
  refine pure_ (i := 5) (N := some 59) (v := ?_) (a' := ?_) #[true, true, true, true, true, true, false] rfl rfl (by kernel_rfl) (fun _ _ _ h => h) (Or.inl ⟨by rfl, ?_⟩) ?_ ?_
  rotate_left
  ·intro w'
   go_simp
   with_reducible rfl
  rotate_left
  ·simp only [Act.put, List.setIfInBounds_toArray, List.set_cons_zero, List.set_cons_succ, i64_w, i32_w]
   rfl
  refine last_ (i := 6) (N := none) #[true, true, true, true, true, true, true] rfl rfl (by kernel_rfl) (by decide) (fun K hK => ?_)
  have hc6 : w10.cell? ⟨w.heap.size, 4, none⟩ = some (.slice AL o.l.length cL) := (blk_cell (blk_below HA8.out J) 4).trans rfl
  have hf6 := blk_frozen (blk_below HA8.out J) 4
  refine skip_ (w1 := ?_) (by rfl) rfl ?_ ?_
  rotate_left
  ·go_simp
   rfl
  clear hc6 hf6
  refine hK.out _ _ ?_
  clear hK K
  refine done_ (by kernel_rfl) ?_
 all_goals have HN9 : Aside0 (w.heap.size < w9.heap.size ∧ w.heap.size + 1 < w9.heap.size) := ⟨Nat.lt_of_lt_of_le (blk_lt HA8.out) HJ9.out.size, Nat.lt_of_lt_of_le (blk_lt HR8.out) HJ9.out.size⟩
 all_goals have HK11 : Aside0 (Kf w10 (w10.setCell ⟨w.heap.size, 4, none⟩ (.slice AX x.length cX)) (fun k => k = w.heap.size)) := ⟨(Kf.refl w10 (fun k => k = w.heap.size)).set (p := ⟨w.heap.size, 4, none⟩) (.inl rfl) _⟩
 all_goals have HV11 := Aside0.mk (Kd.V_kept (Kd.V_below HV8.out J) HK11.out.2 (fun k hk (e : k = w.heap.size) => by have := HN4.out; omega))
 all_goals have HA11 : Aside0 ((w10.setCell ⟨w.heap.size, 4, none⟩ (.slice AX x.length cX)).heap[w.heap.size]? = some (.cells #[.int .i64 kd, .int .i64 rv, .int .i64 o.floor, .int .i64 o.who, .slice AX x.length cX, .slice AF st.length cF] 79 (0, 0))) := ⟨blk_put (blk_below HA8.out J) 4 (.slice AX x.length cX) rfl⟩
 all_goals have HB11 := Aside0.mk ((below_step HB8.out J).setCell (p := ⟨w.heap.size, 4, none⟩) (Nat.le_refl _) (.slice AX x.length cX))
 all_goals have HO11 := Aside0.mk (Kd.R_kept (Kd.R_mono (ok' := fun k => w9.heap.size ≤ k) (Kd.R_bound HO10.out) (fun k hk => hk.2.1)) HK11.out.2 (fun k hk (e : k = w.heap.size) => by have := HN9.out; omega))
 all_goals have HR11 := Aside0.mk (blk_kept (blk_below HR8.out J) HK11.out.2 (fun (e : w.heap.size + 1 = w.heap.size) => by omega))
 all_goals clear HV8 HA8 HB8 HR8 HO10 HK11 HJ9 J hHeld ho hb
 all_goals generalize w10.setCell ⟨w.heap.size, 4, none⟩ (.slice AX x.length cX) = w11 at HV11 HA11 HB11 HO11 HR11 ⊢
 all_goals have e0 := (blk_cell HA11.out 0).trans rfl
 all_goals have e1 := (blk_cell HA11.out 1).trans rfl
 all_goals have e2 := (blk_cell HA11.out 2).trans rfl
 all_goals have e3 := (blk_cell HA11.out 3).trans rfl
 all_goals have e4 := (blk_cell HA11.out 4).trans rfl
 all_goals have e5 := (blk_cell HA11.out 5).trans rfl
 all_goals have y0 := (blk_cell HR11.out 0).trans rfl
 all_goals have y1 := (blk_cell HR11.out 1).trans rfl
 all_goals have y2 := (blk_cell HR11.out 2).trans rfl
 all_goals have y3 := (blk_cell HR11.out 3).trans rfl
 all_goals have y4 := (blk_cell HR11.out 4).trans rfl
 all_goals have y5 := (blk_cell HR11.out 5).trans rfl
 all_goals have z0 := blk_frozen HR11.out 0
 all_goals have z1 := blk_frozen HR11.out 1
 all_goals have z2 := blk_frozen HR11.out 2
 all_goals have z3 := blk_frozen HR11.out 3
 all_goals have z4 := blk_frozen HR11.out 4
 all_goals have z5 := blk_frozen HR11.out 5
 all_goals go_wp2
 all_goals have HE := Aside0.mk (blk_put (blk_put (blk_put (blk_put (blk_put (blk_put HR11.out 0 (.int .i64 kd) rfl) 1 (.int .i64 rv) rfl) 2 (.int .i64 o.floor) rfl) 3 (.int .i64 o.who) rfl) 4 (.slice AX x.length cX) rfl) 5 (.slice AF st.length cF) rfl)
 all_goals refine bodyPost_ret (results_ct rfl _ _ (w.heap.size + 1) 79 #[.int .i64 kd, .int .i64 rv, .int .i64 o.floor, .int .i64 o.who, .slice AX x.length cX, .slice AF st.length cF] (0, 0) _ rfl HE.out Tryd.underlying79 rfl (by kernel_rfl)) rfl ?_
 all_goals have hK := ((((((Kf.refl w11 (fun k => k = w.heap.size + 1)).set (p := ⟨w.heap.size + 1, 0, none⟩) (.inl rfl) (.int .i64 kd)).set (p := ⟨w.heap.size + 1, 1, none⟩) (.inl rfl) (.int .i64 rv)).set (p := ⟨w.heap.size + 1, 2, none⟩) (.inl rfl) (.int .i64 o.floor)).set (p := ⟨w.heap.size + 1, 3, none⟩) (.inl rfl) (.int .i64 o.who)).set (p := ⟨w.heap.size + 1, 4, none⟩) (.inl rfl) (.slice AX x.length cX)).set (p := ⟨w.heap.size + 1, 5, none⟩) (.inl rfl) (.slice AF st.length cF)
 all_goals have hv := Kd.V_reads' (Kd.V_kept HV11.out hK.2 (fun k hk (e : k = w.heap.size + 1) => by have := HN4.out; omega))
 all_goals have ho := Kd.R_kept HO11.out hK.2 (fun k hk (e : k = w.heap.size + 1) => by have := HN9.out; omega)
 all_goals exact ⟨AX, cX, AF, cF, rfl, Kd.R_lower (Kd.R_mono ho (fun _ _ => trivial)) (Nat.le_of_lt HN9.out.1), hv.2.1, hv.2.2, HB11.out.trans (hK.below HB11.out.size (fun k (e : k = w.heap.size + 1) => by omega))⟩
end Go.Proofs.YtegjegihcebimaaDoor.P
end
