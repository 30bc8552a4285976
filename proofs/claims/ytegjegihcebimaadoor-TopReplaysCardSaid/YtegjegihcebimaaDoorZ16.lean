/- Part 16 of the proof of topReplays_holds: out of the texts that this session's programs wrote, what the theorem reaches. -/
import Derived.Test.YtegjegihcebimaaDoorZ15
section
namespace Go.Proofs.YtegjegihcebimaaDoor.P
open Go.RowKit Go.Proofs.YtegjegihcebimaaDoorW.PrintWords Go.Proofs.YtegjegihcebimaaDoorW.PrintLast Go.Proofs.YtegjegihcebimaaDoorW.PrintMore
attribute [local go_sem] max2_int min2_int max_two min_two max_three min_three max_four min_four
set_option linter.unusedVariables false
set_option linter.unusedSimpArgs false
set_option maxHeartbeats 16000000 in
set_option maxRecDepth 100000 in
theorem history_Log.calls (w : World) (B g : Nat) (s : ByteArray) (l : List (List S25)) (z : List Int) (h : HI w B g s l z) (hl : l.length < 100000) (hx : ∀ x ∈ l, x.length < 1000000) :
  Calls Tryd.prog 25 #[.pointer (some ⟨g, 0, none⟩)] w fun e w' => ∃ Ar cr As cs, e = .returned (.agg #[.string s, .slice Ar (hrevs l.length).length cr, .slice As l.length cs]) ∧ (hrevs l.length).length ≤ cr ∧ l.length ≤ cs ∧ Kd.C (Kd.int .i64) w' Ar (hrevs l.length).length (hrevs l.length) ∧ Kd.C (Kd.slice 25 k25) w' As l.length l ∧ Below w.heap.size w w' := by
 obtain ⟨Al, cl, Az, cz, c0, c1, c2, l0, l1, r0, r1⟩ := h.reads
 have HX := Aside0.mk hx; have HR0 := Aside0.mk r0; have HL := Aside0.mk hl
 clear h r0 r1 c1 l1 hx l0 hl
 have C0 := Aside0.mk c0
 have q2 : (w.alloc (.cells #[.string ⟨#[]⟩, .slice none 0 0, .slice none 0 0] 42)).cell? ⟨g, 2, none⟩ = some (.string s) := cell_past (below_alloc (Below.refl _ _) _) c2
 clear c0 c2
 go_enter Tryd.func25, Tryd.ntmps25
 go_upto_region 2 with (fail)
 have J := LP.start w s
 generalize (((w.alloc (.cells #[.string ⟨#[]⟩, .slice none 0 0, .slice none 0 0] 42)).alloc (.cells #[.int .i64 0] 3)).alloc (.cells #[.string s, .slice (some ⟨w.heap.size + 1, 0, none⟩) 1 1, .slice none 0 0] 42)) = W2 at J ⊢
 have HJ : Aside0 (∃ (Ar : Option Addr) (cr : Nat) (As : Option Addr) (cs : Nat), LP w W2 (w.heap.size + 1 + 1) s (.slice Ar (0 + 1) cr) (.slice As 0 cs) (.slice Ar (0 + 1) cr) (.slice As 0 cs) (hrevs 0) (l.take 0)) := ⟨⟨_, _, _, _, J⟩⟩
 have c0 := cell_past J.HB C0.out
 clear J q2
 generalize w.heap.size + 1 + 1 = gc at HJ ⊢
 go_wp2
 go_loopw [4, 5, 18] (fun _ _ v18 wr => ∃ (j : Nat), v18 = .int .i64 j ∧ j ≤ l.length ∧ Aside0 (∃ (Ar : Option Addr) (cr : Nat) (As : Option Addr) (cs : Nat), LP w wr gc s (.slice Ar (j + 1) cr) (.slice As j cs) (.slice Ar (j + 1) cr) (.slice As j cs) (hrevs j) (l.take j))) (fun _ _ v18 _ => l.length - (intOf v18).toNat)
 case atStart => exact ⟨0, rfl, Nat.zero_le _, HJ⟩
 case round =>
  obtain ⟨j, rfl, hj, HJ2⟩ := hrel
  clear HJ c0
  by_cases hlt : j < l.length
  ·have hltb : decide ((j : Int) < (l.length : Int)) = true := decide_eq_true (by omega)
   have HLT := Aside0.mk hlt
   have p1 : ((j : Int) < (l.length : Int)) = True := eq_true (by omega)
   have p2 : (j < l.length) = True := eq_true hlt
   obtain ⟨xj, exj⟩ : ∃ xj, xj = rd_L3 l (j : Int) := ⟨_, rfl⟩
   have EXJ := Aside0.mk exj
   have EW : Aside0 (wrap64 ((j : Int) + 1) = ((j + 1 : Nat) : Int)) := ⟨by have := HL.out; unfold wrap64; omega⟩
   have HTL : Aside0 ((l.take j).length = j) := ⟨by rw [List.length_take]; omega⟩
   obtain ⟨Ar, cr, As, cs, J⟩ := HJ2.out
   have HJB := Aside0.mk J.HB
   have HRL := Aside0.mk (hrevs_len j)
   obtain ⟨ad, Ax, cx, eAl, hcx, lx, rx⟩ := at_L3 HR0.out (j : Int) (by omega) (by omega)
   rw [← exj] at hcx lx rx
   have hxl : xj.length < 1000000 := HX.out xj (by rw [exj]; unfold rd_L3; rw [Int.toNat_natCast, List.getD_eq_getElem?_getD, List.getElem?_eq_getElem hlt]; exact List.getElem_mem _)
   have HCl := Aside0.mk (fun (W : World) (hW : Below w.heap.size w W) => slices_Clone.calls Ax cx xj W (Kd.C_below rx hW) lx hxl)
   subst eAl
   have hce : wr.cell? (ad.add j) = some (.slice Ax xj.length cx) := cell_past J.HB (by rw [Int.toNat_natCast] at hcx; exact hcx)
   have hc1 : wr.cell? ⟨gc, 1, none⟩ = some (.slice Ar (j + 1) cr) := (blk_cell J.HG 1).trans rfl
   have JA := Aside0.mk J
   clear J hcx lx rx hxl exj hlt hj HJ2
   go_wp2_with ((with_reducible refine gate_builtin (b := .append) (xs := #[.tmp 24, .tmp 27]) rfl ?_); at_builtin; refine LP.e5 JA.out (wrap64 ((j : Int) + 1)) ?hl rfl (.tmp 24) (.tmp 27) rfl rfl rfl ?_; (case hl => rw [HRL.out]; have := HL.out; have := HLT.out; omega); rw [HRL.out]; intro A5 c5 w5 J5; have JB := Aside0.mk J5; clear J5 hc1; have hc5 : w5.cell? ⟨gc, 1, none⟩ = some (.slice Ar (j + 1) cr) := (blk_cell JB.out.HG 1).trans rfl; have hf5 := blk_frozen JB.out.HG 1)
   have J := (LP.set1 JB.out).q (y := xj)
   clear hc5 hf5 JA JB
   generalize w5.setCell ⟨gc, 1, none⟩ (.slice A5 (j + 1 + 1) c5) = wq at J ⊢
   replace J := J.below (below_drew1 (Below.refl _ _))
   refine start_ (n := 8) (S := fun w' => w'.cell? ⟨gc, 2, none⟩ = some (.slice As j cs)) (ds := [7]) #[false, false, false, false, false, false, false, false] (by kernel_rfl) rfl rfl ((blk_cell J.HG 2).trans rfl) (fun hHeld => ?_)
   generalize wq.drew = wd at J hHeld ⊢
   refine pure_ (i := 0) (N := some 30) (v := ?_) (a' := ?_) #[true, false, false, false, false, false, false, false] rfl rfl (by kernel_rfl) (fun _ _ _ h => h) (Or.inl ⟨by rfl, ?_⟩) ?_ ?_
   rotate_left
   ·intro w'
    go_simp
    with_reducible rfl
   rotate_left
   ·simp only [Act.put, List.setIfInBounds_toArray, List.set_cons_zero, List.set_cons_succ, i64_w, i32_w]
    rfl
   refine pure_ (i := 2) (N := some 32) (v := ?_) (a' := ?_) #[true, false, true, false, false, false, false, false] rfl rfl (by kernel_rfl) (fun _ _ _ h => h) (Or.inl ⟨by rfl, ?_⟩) ?_ ?_
   rotate_left
   ·intro w'
    go_simp
    with_reducible rfl
   rotate_left
   ·simp only [Act.put, List.setIfInBounds_toArray, List.set_cons_zero, List.set_cons_succ, i64_w, i32_w]
    rfl
   refine take_ (i := 1) (N := some 31) (v := ?_) (a' := ?_) #[true, true, true, false, false, false, false, false] rfl rfl (by kernel_rfl) (fun _ _ _ h => h) (Or.inl ⟨by rfl, ?_⟩) hHeld ?_ ?_
   rotate_left
   ·intro w' s0
    go_simp
    with_reducible rfl
   rotate_left
   ·simp only [Act.put, List.setIfInBounds_toArray, List.set_cons_zero, List.set_cons_succ, i64_w, i32_w]
    rfl
   refine one_ (i := 3) (N := some 33) #[true, true, true, true, false, false, false, false] rfl rfl (by kernel_rfl) (by decide) (fun K hK => ?_)
   refine goes_ Tryd.func64 (by kernel_rfl) rfl #[.slice Ax xj.length cx] (by rfl) rfl rfl (by simp only [List.map_toArray, List.map_cons, List.map_nil]; rfl) ?_
   with_reducible refine (HCl.out _ J.HB).mono ?_
   rintro e w4 ⟨v8, rfl, ho, hb⟩
   refine ⟨_, rfl, ?_⟩
   obtain ⟨A8, c8, rfl⟩ := Kd.R_slice ho
   have J1 := J.e8 hb ho
   clear J
   have J := J1
   clear J1
   refine hK.out _ _ ((blk_cell J.HG 2).trans rfl) (fun hHeld => ?_)
   clear hK K
   refine norm_ (a' := ?_) ?_ ?_
   rotate_left
   ·show Act.put _ (some 33) _ = _
    simp only [Act.put, List.setIfInBounds_toArray, List.set_cons_zero, List.set_cons_succ, i64_w, i32_w]
    rfl
   refine one_ (i := 4) (N := some 34) #[true, true, true, true, true, false, false, false] rfl rfl (by kernel_rfl) (by decide) (fun K hK => ?_)
   refine value_ (w1 := ?_) (v := ?_) (by rfl) rfl ?_ ?_
   rotate_left 2
   ·go_simp
    constructor
    ·rfl
    ·rfl
   have J1 := J.e9
   try simp only [alloc_heap_size] at J1
   clear J
   have J := J1
   clear J1
   refine hK.out _ _ ((blk_cell J.HG 2).trans rfl) (fun hHeld => ?_)
   clear hK K
   refine norm_ (a' := ?_) ?_ ?_
   rotate_left
   ·show Act.put _ (some 34) _ = _
    simp only [Act.put, List.setIfInBounds_toArray, List.set_cons_zero, List.set_cons_succ, i64_w, i32_w]
    rfl
   refine one_ (i := 5) (N := some 35) #[true, true, true, true, true, true, false, false] rfl rfl (by kernel_rfl) (by decide) (fun K hK => ?_)
   refine LQ.e10 J ?hl (by rfl) (.tmp 31) (.tmp 34) rfl rfl rfl ?_
   (case hl => rw [HTL.out]; have := HLT.out; have := HL.out; omega)
   rw [HTL.out]
   intro A42 c42 w5 J1
   clear J
   have J := Aside0.mk J1
   clear J1
   refine hK.out _ _ ((blk_cell J.out.HG 2).trans rfl) (fun hHeld => ?_)
   clear hK K
   refine norm_ (a' := ?_) ?_ ?_
   rotate_left
   ·show Act.put _ (some 35) _ = _
    simp only [Act.put, List.setIfInBounds_toArray, List.set_cons_zero, List.set_cons_succ, i64_w, i32_w]
    rfl
   refine pure_ (i := 6) (N := some 36) (v := ?_) (a' := ?_) #[true, true, true, true, true, true, true, false] rfl rfl (by kernel_rfl) (fun _ _ _ h => h) (Or.inl ⟨by rfl, ?_⟩) ?_ ?_
   rotate_left
   ·intro w'
    go_simp
    with_reducible rfl
   rotate_left
   ·simp only [Act.put, List.setIfInBounds_toArray, List.set_cons_zero, List.set_cons_succ, i64_w, i32_w]
    rfl
   refine last_ (i := 7) (N := none) #[true, true, true, true, true, true, true, true] rfl rfl (by kernel_rfl) (by decide) (fun K hK => ?_)
   have hc22 : w5.cell? ⟨gc, 2, none⟩ = some (.slice As j cs) := (blk_cell J.out.HG 2).trans rfl
   have hf22 := blk_frozen J.out.HG 2
   refine skip_ (w1 := ?_) (by rfl) rfl ?_ ?_
   rotate_left
   ·go_simp
    rfl
   have J1 := Aside0.mk J.out.set2
   clear J hc22 hf22
   have J := J1
   clear J1
   refine hK.out _ _ ?_
   clear hK K
   refine done_ (by kernel_rfl) ?_
   go_wp2
   go_round
   case measure => exact op_sum.less HLT.out EW.out
   case rel =>
    refine ⟨j + 1, by rw [EW.out], HLT.out, ⟨⟨A5, c5, A42, c42, ?_⟩⟩⟩
    have h1 := J.out
    have e2 : l.take j ++ [xj] = l.take (j + 1) := by rw [List.take_succ_eq_append_getElem HLT.out, EXJ.out]; unfold rd_L3; rw [Int.toNat_natCast, List.getD_eq_getElem?_getD, List.getElem?_eq_getElem HLT.out]; rfl
    rw [EW.out, ← hrevs_succ, e2] at h1
    exact h1
  ·have ej : j = l.length := by omega
   subst ej
   have hltb : decide ((l.length : Int) < (l.length : Int)) = false := decide_eq_false (by omega)
   obtain ⟨Ar, cr, As, cs, J⟩ := HJ2.out
   have hc0 : wr.cell? ⟨gc, 0, none⟩ = some (.string s) := (blk_cell J.HG 0).trans rfl
   have hc1 : wr.cell? ⟨gc, 1, none⟩ = some (.slice Ar (l.length + 1) cr) := (blk_cell J.HG 1).trans rfl
   have hc2 : wr.cell? ⟨gc, 2, none⟩ = some (.slice As l.length cs) := (blk_cell J.HG 2).trans rfl
   have hd0 : wr.cell? ⟨w.heap.size, 0, none⟩ = some (.string ⟨#[]⟩) := (blk_cell J.H2 0).trans rfl
   have hd1 : wr.cell? ⟨w.heap.size, 1, none⟩ = some (.slice none 0 0) := (blk_cell J.H2 1).trans rfl
   have hd2 : wr.cell? ⟨w.heap.size, 2, none⟩ = some (.slice none 0 0) := (blk_cell J.H2 2).trans rfl
   have hf0 := blk_frozen J.H2 0
   have hf1 := blk_frozen J.H2 1
   have hf2 := blk_frozen J.H2 2
   have JA := Aside0.mk J
   clear J HJ2 hlt hj
   go_wp2
   have HE := Aside0.mk (blk_put (blk_put (blk_put JA.out.H2 0 (.string s) rfl) 1 (.slice Ar (l.length + 1) cr) rfl) 2 (.slice As l.length cs) rfl)
   refine bodyPost_ret (results_cell_row rfl _ _ w.heap.size 42 #[.string s, .slice Ar (l.length + 1) cr, .slice As l.length cs] (0, 0) _ rfl HE.out Tryd.underlying42 rfl (by kernel_rfl)) rfl ?_
   have J := JA.out
   rw [List.take_length] at J
   have hb : Below w.heap.size w (((wr.setCell ⟨w.heap.size, 0, none⟩ (.string s)).setCell ⟨w.heap.size, 1, none⟩ (.slice Ar (l.length + 1) cr)).setCell ⟨w.heap.size, 2, none⟩ (.slice As l.length cs)) := ((J.HB.setCell (Nat.le_refl _) _).setCell (Nat.le_refl _) _).setCell (Nat.le_refl _) _
   have r1 := Kd.R_far (p := ⟨w.heap.size, 2, none⟩) (Kd.R_far (p := ⟨w.heap.size, 1, none⟩) (Kd.R_far (p := ⟨w.heap.size, 0, none⟩) (Kd.R_types J.HR J.H2 (by decide)) (fun _ hk => hk.2) (.string s)) (fun _ hk => hk.2) (.slice Ar (l.length + 1) cr)) (fun _ hk => hk.2) (.slice As l.length cs)
   have r2 := Kd.S_far (p := ⟨w.heap.size, 2, none⟩) (Kd.S_far (p := ⟨w.heap.size, 1, none⟩) (Kd.S_far (p := ⟨w.heap.size, 0, none⟩) (Kd.S_types J.HS J.H2 (by decide)) (fun _ hk => hk.2) (.string s)) (fun _ hk => hk.2) (.slice Ar (l.length + 1) cr)) (fun _ hk => hk.2) (.slice As l.length cs)
   have q1 := Kd.R_reads' r1
   have q2 := Kd.S_reads' r2
   refine ⟨Ar, cr, As, cs, ?_, ?_, q2.2.1, ?_, q2.2.2, hb⟩
   ·rw [hrevs_len]
   ·rw [hrevs_len]; exact q1.2.1
   ·exact q1.2.2
end Go.Proofs.YtegjegihcebimaaDoor.P
end
