/- Part 14 of the proof of topReplays_holds: out of the texts that this session's programs wrote, what the theorem reaches. -/
import Derived.Test.YtegjegihcebimaaDoorZ13
import Derived.Test.YtegjegihcebimaaDoorZ6
section
namespace Go.Proofs.YtegjegihcebimaaDoor.P
open Go.RowKit Go.Proofs.YtegjegihcebimaaDoorW.PrintWords Go.Proofs.YtegjegihcebimaaDoorW.PrintLast Go.Proofs.YtegjegihcebimaaDoorW.PrintMore
attribute [local go_sem] max2_int min2_int max_two min_two max_three min_three max_four min_four
set_option linter.unusedVariables false
set_option linter.unusedSimpArgs false
set_option maxHeartbeats 16000000 in
set_option maxRecDepth 100000 in
theorem history_Append.calls (k : Nat) (w : World) (B g : Nat) (s : ByteArray) (l : List (List S25)) (z : List Int) (Ax : Option Addr) (cx : Nat) (x y : List S25) (m q : Int) (hT : Tabs w) (h : HI w B g s l z) (hB : B ≤ w.heap.size) (hz : z.length = l.length + 1) (hl : l.length < 900000)
  (rx : Kd.C k25 w Ax x.length x) (lx : x.length ≤ cx) (h1 : op_May.f k x = some 0) (h2 : op_In.f x = some m) (h3 : op_Out.f x = some q) (h4 : rd z (l.length : Int) = m) (h5 : q ≤ 1048576) (h6 : normal_Of.f x = some y) :
  Calls Tryd.prog 24 #[.pointer (some ⟨g, 0, none⟩), .slice Ax x.length cx] w fun e w' => e = .returned (.int .i64 0) ∧ HI w' B g s (l ++ [y]) (z ++ [q]) ∧ Below B w w' := by
 obtain ⟨Al, cl, Az, cz, c0, c1, c2, l0, l1, r0, r1⟩ := h.reads
 have HH := Aside0.mk h
 have p1 : (0 : Int) ≤ (l.length : Int) := by omega
 have p4 : (l.length : Int) < (z.length : Int) := by omega
 have d1 : decide (1048576 < q) = false := decide_eq_false (by omega)
 have C1 := Aside0.mk c1
 have HL : Aside0 (l.length < 1000000) := ⟨by omega⟩
 have HZL : Aside0 (z.length < 1000000) := ⟨by omega⟩
 have HBw := Aside0.mk hB
 have HM := Aside0.mk (fun (W : World) (hW : Below w.heap.size w W) => op_May.calls k Ax cx x 0 W (Kd.C_below rx hW) lx (Tabs.below hT hW) h1)
 have HIn := Aside0.mk (fun (W : World) (hW : Below w.heap.size w W) => op_In.calls Ax cx x m W (Kd.C_below rx hW) lx (Tabs.below hT hW) h2)
 have HOut := Aside0.mk (fun (W : World) (hW : Below w.heap.size w W) => op_Out.calls Ax cx x q W (Kd.C_below rx hW) lx (Tabs.below hT hW) h3)
 have HNm := Aside0.mk (fun (W : World) (hW : Below w.heap.size w W) => normal_Of.calls Ax cx x y W (Kd.C_below rx hW) lx h6)
 have HLen := Aside0.mk (fun (W : World) (hW : Below w.heap.size w W) => history_Len.calls W B g s l z (h.below hW))
 obtain ⟨ad, hAz, hcz⟩ := Kd.at_int r1 (l.length : Int) p1 p4
 subst hAz
 rw [Int.toNat_natCast, h4] at hcz
 have C3 := Aside0.mk hcz
 clear h hT r1 r0 c0 c1 c2 l0 l1 rx lx h1 h2 h3 h4 h5 h6 hcz hz hl hB
 go_enter Tryd.func24, Tryd.ntmps24
 go_wp2_with (first | (go_at_call 46; (with_reducible refine (HM.out _ (Below.refl _ _)).mono ?_); rintro e w1 ⟨rfl, hb⟩; have HB1 := Aside0.mk hb; clear hb) | (go_at_call 62; (with_reducible refine (HOut.out _ HB1.out).mono ?_); rintro e w2 ⟨rfl, hb⟩; have HBc := Aside0.mk (below_step HB1.out hb); clear hb HB1))
 have c1 : w2.cell? ⟨g, 1, none⟩ = some (.slice (some ad) z.length cz) := cell_past HBc.out C1.out
 have c3 := cell_past HBc.out C3.out
 go_region_held3 (fun w' => w'.cell? ⟨g, 1, none⟩ = some (.slice (some ad) z.length cz) ∧ w'.cell? (ad.add l.length) = some (.int .i64 m)) (first | go_keep | exact ⟨cell_past HBc.out C1.out, cell_past HBc.out C3.out⟩) ((first | (go_at_call 20; (with_reducible refine (HIn.out _ (by first | exact HBc.out | exact below_drew1 HBc.out)).mono ?_); rintro e w3 ⟨rfl, hb⟩; have HBd := Aside0.mk (below_step (by first | exact HBc.out | exact below_drew1 HBc.out) hb); clear hb HBc; have HBc := HBd; clear HBd) | (go_at_call 63; (with_reducible refine (HLen.out _ (by first | exact HBc.out | exact below_drew1 HBc.out)).mono ?_); rintro e w3 ⟨rfl, hb⟩; have HBd := Aside0.mk (below_step (by first | exact HBc.out | exact below_drew1 HBc.out) hb); clear hb HBc; have HBc := HBd; clear HBd)))
 go_wp2
 obtain ⟨vl, vz, J0⟩ := AJ.start (y := y) (q := q) (HH.out.below HBc.out) (Nat.le_trans HBw.out HBc.out.size)
 have HBg := Aside0.mk J0.Bg
 have J := J0.below (below_drew1 (Below.refl _ _))
 clear J0 c1 c3
 refine start_ (n := 27) (S := fun w' => w'.cell? ⟨g, 0, none⟩ = some vl ∧ w'.cell? ⟨g, 1, none⟩ = some vz) (ds := [22, 26]) #[false, false, false, false, false, false, false, false, false, false, false, false, false, false, false, false, false, false, false, false, false, false, false, false, false, false, false] (by kernel_rfl) rfl rfl ⟨(blk_cell J.HG 0).trans rfl, (blk_cell J.HG 1).trans rfl⟩ (fun hHeld => ?_)
 generalize w3.drew = wd at J hHeld ⊢
 refine pure_ (i := 0) (N := some 32) (v := ?_) (a' := ?_) #[true, false, false, false, false, false, false, false, false, false, false, false, false, false, false, false, false, false, false, false, false, false, false, false, false, false, false] rfl rfl (by kernel_rfl) (fun _ _ _ h => h) (Or.inl ⟨by rfl, ?_⟩) ?_ ?_
 rotate_left
 ·intro w'
  go_simp
  with_reducible rfl
 rotate_left
 ·simp only [Act.put, List.setIfInBounds_toArray, List.set_cons_zero, List.set_cons_succ, i64_w, i32_w]
  rfl
 refine pure_ (i := 1) (N := some 33) (v := ?_) (a' := ?_) #[true, true, false, false, false, false, false, false, false, false, false, false, false, false, false, false, false, false, false, false, false, false, false, false, false, false, false] rfl rfl (by kernel_rfl) (fun _ _ _ h => h) (Or.inl ⟨by rfl, ?_⟩) ?_ ?_
 rotate_left
 ·intro w'
  go_simp
  with_reducible rfl
 rotate_left
 ·simp only [Act.put, List.setIfInBounds_toArray, List.set_cons_zero, List.set_cons_succ, i64_w, i32_w]
  rfl
 refine pure_ (i := 2) (N := some 34) (v := ?_) (a' := ?_) #[true, true, true, false, false, false, false, false, false, false, false, false, false, false, false, false, false, false, false, false, false, false, false, false, false, false, false] rfl rfl (by kernel_rfl) (fun _ _ _ h => h) (Or.inl ⟨by rfl, ?_⟩) ?_ ?_
 rotate_left
 ·intro w'
  go_simp
  with_reducible rfl
 rotate_left
 ·simp only [Act.put, List.setIfInBounds_toArray, List.set_cons_zero, List.set_cons_succ, i64_w, i32_w]
  rfl
 refine pure_ (i := 3) (N := some 35) (v := ?_) (a' := ?_) #[true, true, true, true, false, false, false, false, false, false, false, false, false, false, false, false, false, false, false, false, false, false, false, false, false, false, false] rfl rfl (by kernel_rfl) (fun _ _ _ h => h) (Or.inl ⟨by rfl, ?_⟩) ?_ ?_
 rotate_left
 ·intro w'
  go_simp
  with_reducible rfl
 rotate_left
 ·simp only [Act.put, List.setIfInBounds_toArray, List.set_cons_zero, List.set_cons_succ, i64_w, i32_w]
  rfl
 refine pure_ (i := 4) (N := some 36) (v := ?_) (a' := ?_) #[true, true, true, true, true, false, false, false, false, false, false, false, false, false, false, false, false, false, false, false, false, false, false, false, false, false, false] rfl rfl (by kernel_rfl) (fun _ _ _ h => h) (Or.inl ⟨by rfl, ?_⟩) ?_ ?_
 rotate_left
 ·intro w'
  go_simp
  with_reducible rfl
 rotate_left
 ·simp only [Act.put, List.setIfInBounds_toArray, List.set_cons_zero, List.set_cons_succ, i64_w, i32_w]
  rfl
 refine pure_ (i := 5) (N := some 37) (v := ?_) (a' := ?_) #[true, true, true, true, true, true, false, false, false, false, false, false, false, false, false, false, false, false, false, false, false, false, false, false, false, false, false] rfl rfl (by kernel_rfl) (fun _ _ _ h => h) (Or.inl ⟨by rfl, ?_⟩) ?_ ?_
 rotate_left
 ·intro w'
  go_simp
  with_reducible rfl
 rotate_left
 ·simp only [Act.put, List.setIfInBounds_toArray, List.set_cons_zero, List.set_cons_succ, i64_w, i32_w]
  rfl
 refine pure_ (i := 7) (N := some 39) (v := ?_) (a' := ?_) #[true, true, true, true, true, true, false, true, false, false, false, false, false, false, false, false, false, false, false, false, false, false, false, false, false, false, false] rfl rfl (by kernel_rfl) (fun _ _ _ h => h) (Or.inl ⟨by rfl, ?_⟩) ?_ ?_
 rotate_left
 ·intro w'
  go_simp
  with_reducible rfl
 rotate_left
 ·simp only [Act.put, List.setIfInBounds_toArray, List.set_cons_zero, List.set_cons_succ, i64_w, i32_w]
  rfl
 refine pure_ (i := 11) (N := some 43) (v := ?_) (a' := ?_) #[true, true, true, true, true, true, false, true, false, false, false, true, false, false, false, false, false, false, false, false, false, false, false, false, false, false, false] rfl rfl (by kernel_rfl) (fun _ _ _ h => h) (Or.inl ⟨by rfl, ?_⟩) ?_ ?_
 rotate_left
 ·intro w'
  go_simp
  with_reducible rfl
 rotate_left
 ·simp only [Act.put, List.setIfInBounds_toArray, List.set_cons_zero, List.set_cons_succ, i64_w, i32_w]
  rfl
 refine pure_ (i := 12) (N := some 44) (v := ?_) (a' := ?_) #[true, true, true, true, true, true, false, true, false, false, false, true, true, false, false, false, false, false, false, false, false, false, false, false, false, false, false] rfl rfl (by kernel_rfl) (fun _ _ _ h => h) (Or.inl ⟨by rfl, ?_⟩) ?_ ?_
 rotate_left
 ·intro w'
  go_simp
  with_reducible rfl
 rotate_left
 ·simp only [Act.put, List.setIfInBounds_toArray, List.set_cons_zero, List.set_cons_succ, i64_w, i32_w]
  rfl
 refine pure_ (i := 13) (N := some 45) (v := ?_) (a' := ?_) #[true, true, true, true, true, true, false, true, false, false, false, true, true, true, false, false, false, false, false, false, false, false, false, false, false, false, false] rfl rfl (by kernel_rfl) (fun _ _ _ h => h) (Or.inl ⟨by rfl, ?_⟩) ?_ ?_
 rotate_left
 ·intro w'
  go_simp
  with_reducible rfl
 rotate_left
 ·simp only [Act.put, List.setIfInBounds_toArray, List.set_cons_zero, List.set_cons_succ, i64_w, i32_w]
  rfl
 refine pure_ (i := 14) (N := some 46) (v := ?_) (a' := ?_) #[true, true, true, true, true, true, false, true, false, false, false, true, true, true, true, false, false, false, false, false, false, false, false, false, false, false, false] rfl rfl (by kernel_rfl) (fun _ _ _ h => h) (Or.inl ⟨by rfl, ?_⟩) ?_ ?_
 rotate_left
 ·intro w'
  go_simp
  with_reducible rfl
 rotate_left
 ·simp only [Act.put, List.setIfInBounds_toArray, List.set_cons_zero, List.set_cons_succ, i64_w, i32_w]
  rfl
 refine pure_ (i := 16) (N := some 48) (v := ?_) (a' := ?_) #[true, true, true, true, true, true, false, true, false, false, false, true, true, true, true, false, true, false, false, false, false, false, false, false, false, false, false] rfl rfl (by kernel_rfl) (fun _ _ _ h => h) (Or.inl ⟨by rfl, ?_⟩) ?_ ?_
 rotate_left
 ·intro w'
  go_simp
  with_reducible rfl
 rotate_left
 ·simp only [Act.put, List.setIfInBounds_toArray, List.set_cons_zero, List.set_cons_succ, i64_w, i32_w]
  rfl
 refine take_ (i := 6) (N := some 38) (v := ?_) (a' := ?_) #[true, true, true, true, true, true, true, true, false, false, false, true, true, true, true, false, true, false, false, false, false, false, false, false, false, false, false] rfl rfl (by kernel_rfl) (fun _ _ _ h => h) (Or.inl ⟨by rfl, ?_⟩) hHeld ?_ ?_
 rotate_left
 ·rintro w' ⟨s0, s1⟩
  go_simp
  with_reducible rfl
 rotate_left
 ·simp only [Act.put, List.setIfInBounds_toArray, List.set_cons_zero, List.set_cons_succ, i64_w, i32_w]
  rfl
 refine take_ (i := 15) (N := some 47) (v := ?_) (a' := ?_) #[true, true, true, true, true, true, true, true, false, false, false, true, true, true, true, true, true, false, false, false, false, false, false, false, false, false, false] rfl rfl (by kernel_rfl) (fun _ _ _ h => h) (Or.inl ⟨by rfl, ?_⟩) hHeld ?_ ?_
 rotate_left
 ·rintro w' ⟨s0, s1⟩
  go_simp
  with_reducible rfl
 rotate_left
 ·simp only [Act.put, List.setIfInBounds_toArray, List.set_cons_zero, List.set_cons_succ, i64_w, i32_w]
  rfl
 refine join_ (σ := Option Addr × Nat × Option Addr × Nat × Nat × Nat × Nat) 9 #[true, true, true, true, true, true, true, true, true, true, true, true, true, true, true, true, true, true, false, false, false, false, false, false, false, false, false] (fun s_ => [(40, .slice s_.1 y.length s_.2.1), (41, .slice (some ⟨s_.2.2.2.2.1, 0, none⟩) 1 1), (42, .slice s_.2.2.1 (l.length + 1) s_.2.2.2.1), (49, .slice (some ⟨s_.2.2.2.2.2.1, 0, none⟩) 1 1)]) (fun s_ w' => (w'.cell? ⟨g, 0, none⟩ = some vl ∧ w'.cell? ⟨g, 1, none⟩ = some vz) ∧ AJ w3 w' B g s l z y q vl vz (.slice s_.1 y.length s_.2.1) (.slice s_.2.2.1 (l.length + 1) s_.2.2.2.1) s_.2.2.2.2.1 s_.2.2.2.2.2.1 true true true true) ?_ ?_
 rotate_left
 ·intro hCont
  refine two_ (i := 8) (j := 17) (Ni := some 40) (Nj := some 49) #[true, true, true, true, true, true, true, true, true, false, false, true, true, true, true, true, true, false, false, false, false, false, false, false, false, false, false] #[true, true, true, true, true, true, true, true, false, false, false, true, true, true, true, true, true, true, false, false, false, false, false, false, false, false, false] rfl rfl rfl rfl (by kernel_rfl) (by decide) (by decide) (fun K hK => ?_) (fun K hK => ?_)
  ·skip
   refine goes_ Tryd.func33 (by kernel_rfl) rfl #[.slice Ax x.length cx] (by rfl) rfl rfl (by simp only [List.map_toArray, List.map_cons, List.map_nil]; rfl) ?_
   with_reducible refine (HNm.out _ (below_step HBc.out (J.HF rfl))).mono ?_
   rintro e w4 ⟨v8, rfl, ho, hb⟩
   refine ⟨_, rfl, ?_⟩
   obtain ⟨A8, c8, rfl⟩ := Kd.R_slice ho
   have J1 := J.e8 hb ho
   clear J
   have J := J1
   clear J1
   refine hK.out _ _ ⟨(blk_cell J.HG 0).trans rfl, (blk_cell J.HG 1).trans rfl⟩ (fun hHeld => ?_)
   clear hK K
   refine norm_ (a' := ?_) ?_ ?_
   rotate_left
   ·show Act.put _ (some 40) _ = _
    simp only [Act.put, List.setIfInBounds_toArray, List.set_cons_zero, List.set_cons_succ, i64_w, i32_w]
    rfl
   refine two_ (i := 9) (j := 17) (Ni := some 41) (Nj := some 49) #[true, true, true, true, true, true, true, true, true, true, false, true, true, true, true, true, true, false, false, false, false, false, false, false, false, false, false] #[true, true, true, true, true, true, true, true, true, false, false, true, true, true, true, true, true, true, false, false, false, false, false, false, false, false, false] rfl rfl rfl rfl (by kernel_rfl) (by decide) (by decide) (fun K hK => ?_) (fun K hK => ?_)
   ·skip
    refine value_ (w1 := ?_) (v := ?_) (by rfl) rfl ?_ ?_
    rotate_left 2
    ·go_simp
     constructor
     ·rfl
     ·rfl
    have J1 := J.e9
    try simp only [alloc_heap_size] at J1
    clear J
    have J := J1
    clear J1
    refine hK.out _ _ ⟨(blk_cell J.HG 0).trans rfl, (blk_cell J.HG 1).trans rfl⟩ (fun hHeld => ?_)
    clear hK K
    refine norm_ (a' := ?_) ?_ ?_
    rotate_left
    ·show Act.put _ (some 41) _ = _
     simp only [Act.put, List.setIfInBounds_toArray, List.set_cons_zero, List.set_cons_succ, i64_w, i32_w]
     rfl
    refine two_ (i := 10) (j := 17) (Ni := some 42) (Nj := some 49) #[true, true, true, true, true, true, true, true, true, true, true, true, true, true, true, true, true, false, false, false, false, false, false, false, false, false, false] #[true, true, true, true, true, true, true, true, true, true, false, true, true, true, true, true, true, true, false, false, false, false, false, false, false, false, false] rfl rfl rfl rfl (by kernel_rfl) (by decide) (by decide) (fun K hK => ?_) (fun K hK => ?_)
    ·skip
     refine AJ.e10 J HL.out (by rfl) (.tmp 38) (.tmp 41) rfl rfl rfl ?_
     intro A42 c42 w5 J1
     clear J
     have J := J1
     clear J1
     refine hK.out _ _ ⟨(blk_cell J.HG 0).trans rfl, (blk_cell J.HG 1).trans rfl⟩ (fun hHeld => ?_)
     clear hK K
     refine norm_ (a' := ?_) ?_ ?_
     rotate_left
     ·show Act.put _ (some 42) _ = _
      simp only [Act.put, List.setIfInBounds_toArray, List.set_cons_zero, List.set_cons_succ, i64_w, i32_w]
      rfl
     refine one_ (i := 17) (N := some 49) #[true, true, true, true, true, true, true, true, true, true, true, true, true, true, true, true, true, true, false, false, false, false, false, false, false, false, false] rfl rfl (by kernel_rfl) (by decide) (fun K hK => ?_)
     refine value_ (w1 := ?_) (v := ?_) (by rfl) rfl ?_ ?_
     rotate_left 2
     ·go_simp
      constructor
      ·rfl
      ·rfl
     have J1 := J.e17
     try simp only [alloc_heap_size] at J1
     clear J
     have J := J1
     clear J1
     refine hK.out _ _ ⟨(blk_cell J.HG 0).trans rfl, (blk_cell J.HG 1).trans rfl⟩ (fun hHeld => ?_)
     clear hK K
     refine norm_ (a' := ?_) ?_ ?_
     rotate_left
     ·show Act.put _ (some 49) _ = _
      simp only [Act.put, List.setIfInBounds_toArray, List.set_cons_zero, List.set_cons_succ, i64_w, i32_w]
      rfl
     refine norm_ ?_ (hCont (_, _, _, _, _, _, 0) _ ⟨⟨(blk_cell J.HG 0).trans rfl, (blk_cell J.HG 1).trans rfl⟩, J⟩)
     first | (simp only [putAll, Act.put, List.setIfInBounds_toArray, List.set_cons_zero, List.set_cons_succ]; done) | (simp only [putAll, Act.put, List.setIfInBounds_toArray, List.set_cons_zero, List.set_cons_succ]; rfl)
    ·skip
     refine value_ (w1 := ?_) (v := ?_) (by rfl) rfl ?_ ?_
     rotate_left 2
     ·go_simp
      constructor
      ·rfl
      ·rfl
     have J1 := J.e17
     try simp only [alloc_heap_size] at J1
     clear J
     have J := J1
     clear J1
     refine hK.out _ _ ⟨(blk_cell J.HG 0).trans rfl, (blk_cell J.HG 1).trans rfl⟩ (fun hHeld => ?_)
     clear hK K
     refine norm_ (a' := ?_) ?_ ?_
     rotate_left
     ·show Act.put _ (some 49) _ = _
      simp only [Act.put, List.setIfInBounds_toArray, List.set_cons_zero, List.set_cons_succ, i64_w, i32_w]
      rfl
     refine one_ (i := 10) (N := some 42) #[true, true, true, true, true, true, true, true, true, true, true, true, true, true, true, true, true, true, false, false, false, false, false, false, false, false, false] rfl rfl (by kernel_rfl) (by decide) (fun K hK => ?_)
     refine AJ.e10 J HL.out (by rfl) (.tmp 38) (.tmp 41) rfl rfl rfl ?_
     intro A42 c42 w5 J1
     clear J
     have J := J1
     clear J1
     refine hK.out _ _ ⟨(blk_cell J.HG 0).trans rfl, (blk_cell J.HG 1).trans rfl⟩ (fun hHeld => ?_)
     clear hK K
     refine norm_ (a' := ?_) ?_ ?_
     rotate_left
     ·show Act.put _ (some 42) _ = _
      simp only [Act.put, List.setIfInBounds_toArray, List.set_cons_zero, List.set_cons_succ, i64_w, i32_w]
      rfl
     refine norm_ ?_ (hCont (_, _, _, _, _, _, 0) _ ⟨⟨(blk_cell J.HG 0).trans rfl, (blk_cell J.HG 1).trans rfl⟩, J⟩)
     first | (simp only [putAll, Act.put, List.setIfInBounds_toArray, List.set_cons_zero, List.set_cons_succ]; done) | (simp only [putAll, Act.put, List.setIfInBounds_toArray, List.set_cons_zero, List.set_cons_succ]; rfl)
   ·skip
    refine value_ (w1 := ?_) (v := ?_) (by rfl) rfl ?_ ?_
    rotate_left 2
    ·go_simp
     constructor
     ·rfl
     ·rfl
    have J1 := J.e17
    try simp only [alloc_heap_size] at J1
    clear J
    have J := J1
    clear J1
    refine hK.out _ _ ⟨(blk_cell J.HG 0).trans rfl, (blk_cell J.HG 1).trans rfl⟩ (fun hHeld => ?_)
    clear hK K
    refine norm_ (a' := ?_) ?_ ?_
    rotate_left
    ·show Act.put _ (some 49) _ = _
     simp only [Act.put, List.setIfInBounds_toArray, List.set_cons_zero, List.set_cons_succ, i64_w, i32_w]
     rfl
    refine one_ (i := 9) (N := some 41) #[true, true, true, true, true, true, true, true, true, true, false, true, true, true, true, true, true, true, false, false, false, false, false, false, false, false, false] rfl rfl (by kernel_rfl) (by decide) (fun K hK => ?_)
    refine value_ (w1 := ?_) (v := ?_) (by rfl) rfl ?_ ?_
    rotate_left 2
    ·go_simp
     constructor
     ·rfl
     ·rfl
    have J1 := J.e9
    try simp only [alloc_heap_size] at J1
    clear J
    have J := J1
    clear J1
    refine hK.out _ _ ⟨(blk_cell J.HG 0).trans rfl, (blk_cell J.HG 1).trans rfl⟩ (fun hHeld => ?_)
    clear hK K
    refine norm_ (a' := ?_) ?_ ?_
    rotate_left
    ·show Act.put _ (some 41) _ = _
     simp only [Act.put, List.setIfInBounds_toArray, List.set_cons_zero, List.set_cons_succ, i64_w, i32_w]
     rfl
    refine one_ (i := 10) (N := some 42) #[true, true, true, true, true, true, true, true, true, true, true, true, true, true, true, true, true, true, false, false, false, false, false, false, false, false, false] rfl rfl (by kernel_rfl) (by decide) (fun K hK => ?_)
    refine AJ.e10 J HL.out (by rfl) (.tmp 38) (.tmp 41) rfl rfl rfl ?_
    intro A42 c42 w5 J1
    clear J
    have J := J1
    clear J1
    refine hK.out _ _ ⟨(blk_cell J.HG 0).trans rfl, (blk_cell J.HG 1).trans rfl⟩ (fun hHeld => ?_)
    clear hK K
    refine norm_ (a' := ?_) ?_ ?_
    rotate_left
    ·show Act.put _ (some 42) _ = _
     simp only [Act.put, List.setIfInBounds_toArray, List.set_cons_zero, List.set_cons_succ, i64_w, i32_w]
     rfl
    refine norm_ ?_ (hCont (_, _, _, _, _, _, 0) _ ⟨⟨(blk_cell J.HG 0).trans rfl, (blk_cell J.HG 1).trans rfl⟩, J⟩)
    first | (simp only [putAll, Act.put, List.setIfInBounds_toArray, List.set_cons_zero, List.set_cons_succ]; done) | (simp only [putAll, Act.put, List.setIfInBounds_toArray, List.set_cons_zero, List.set_cons_succ]; rfl)
  ·skip
   refine value_ (w1 := ?_) (v := ?_) (by rfl) rfl ?_ ?_
   rotate_left 2
   ·go_simp
    constructor
    ·rfl
    ·rfl
   have J1 := J.e17
   try simp only [alloc_heap_size] at J1
   clear J
   have J := J1
   clear J1
   refine hK.out _ _ ⟨(blk_cell J.HG 0).trans rfl, (blk_cell J.HG 1).trans rfl⟩ (fun hHeld => ?_)
   clear hK K
   refine norm_ (a' := ?_) ?_ ?_
   rotate_left
   ·show Act.put _ (some 49) _ = _
    simp only [Act.put, List.setIfInBounds_toArray, List.set_cons_zero, List.set_cons_succ, i64_w, i32_w]
    rfl
   refine one_ (i := 8) (N := some 40) #[true, true, true, true, true, true, true, true, true, false, false, true, true, true, true, true, true, true, false, false, false, false, false, false, false, false, false] rfl rfl (by kernel_rfl) (by decide) (fun K hK => ?_)
   refine goes_ Tryd.func33 (by kernel_rfl) rfl #[.slice Ax x.length cx] (by rfl) rfl rfl (by simp only [List.map_toArray, List.map_cons, List.map_nil]; rfl) ?_
   with_reducible refine (HNm.out _ (below_step HBc.out (J.HF rfl))).mono ?_
   rintro e w4 ⟨v8, rfl, ho, hb⟩
   refine ⟨_, rfl, ?_⟩
   obtain ⟨A8, c8, rfl⟩ := Kd.R_slice ho
   have J1 := J.e8 hb ho
   clear J
   have J := J1
   clear J1
   refine hK.out _ _ ⟨(blk_cell J.HG 0).trans rfl, (blk_cell J.HG 1).trans rfl⟩ (fun hHeld => ?_)
   clear hK K
   refine norm_ (a' := ?_) ?_ ?_
   rotate_left
   ·show Act.put _ (some 40) _ = _
    simp only [Act.put, List.setIfInBounds_toArray, List.set_cons_zero, List.set_cons_succ, i64_w, i32_w]
    rfl
   refine one_ (i := 9) (N := some 41) #[true, true, true, true, true, true, true, true, true, true, false, true, true, true, true, true, true, true, false, false, false, false, false, false, false, false, false] rfl rfl (by kernel_rfl) (by decide) (fun K hK => ?_)
   refine value_ (w1 := ?_) (v := ?_) (by rfl) rfl ?_ ?_
   rotate_left 2
   ·go_simp
    constructor
    ·rfl
    ·rfl
   have J1 := J.e9
   try simp only [alloc_heap_size] at J1
   clear J
   have J := J1
   clear J1
   refine hK.out _ _ ⟨(blk_cell J.HG 0).trans rfl, (blk_cell J.HG 1).trans rfl⟩ (fun hHeld => ?_)
   clear hK K
   refine norm_ (a' := ?_) ?_ ?_
   rotate_left
   ·show Act.put _ (some 41) _ = _
    simp only [Act.put, List.setIfInBounds_toArray, List.set_cons_zero, List.set_cons_succ, i64_w, i32_w]
    rfl
   refine one_ (i := 10) (N := some 42) #[true, true, true, true, true, true, true, true, true, true, true, true, true, true, true, true, true, true, false, false, false, false, false, false, false, false, false] rfl rfl (by kernel_rfl) (by decide) (fun K hK => ?_)
   refine AJ.e10 J HL.out (by rfl) (.tmp 38) (.tmp 41) rfl rfl rfl ?_
   intro A42 c42 w5 J1
   clear J
   have J := J1
   clear J1
   refine hK.out _ _ ⟨(blk_cell J.HG 0).trans rfl, (blk_cell J.HG 1).trans rfl⟩ (fun hHeld => ?_)
   clear hK K
   refine norm_ (a' := ?_) ?_ ?_
   rotate_left
   ·show Act.put _ (some 42) _ = _
    simp only [Act.put, List.setIfInBounds_toArray, List.set_cons_zero, List.set_cons_succ, i64_w, i32_w]
    rfl
   refine norm_ ?_ (hCont (_, _, _, _, _, _, 0) _ ⟨⟨(blk_cell J.HG 0).trans rfl, (blk_cell J.HG 1).trans rfl⟩, J⟩)
   first | (simp only [putAll, Act.put, List.setIfInBounds_toArray, List.set_cons_zero, List.set_cons_succ]; done) | (simp only [putAll, Act.put, List.setIfInBounds_toArray, List.set_cons_zero, List.set_cons_succ]; rfl)
 rintro ⟨A8, c8, A42, c42, bx, bz, u0⟩ w6 ⟨hHeld, J⟩
 refine norm_ (a' := ?_) ?_ ?_
 rotate_left
 ·simp only [putAll, Act.put, List.setIfInBounds_toArray, List.set_cons_zero, List.set_cons_succ]
  rfl
 refine one_ (i := 18) (N := some 50) #[true, true, true, true, true, true, true, true, true, true, true, true, true, true, true, true, true, true, true, false, false, false, false, false, false, false, false] rfl rfl (by kernel_rfl) (by decide) (fun K hK => ?_)
 refine AJ.e18 J HZL.out (by rfl) (.tmp 47) (.tmp 49) rfl rfl rfl ?_
 intro A50 c50 w7 hB7 hG7 hS7 hR7
 clear J
 have HB7 := Aside0.mk hB7; have HG7 := Aside0.mk hG7; have HS7 := Aside0.mk hS7; have HR7 := Aside0.mk hR7
 clear hB7 hG7 hS7 hR7
 refine hK.out _ _ ⟨(blk_cell HG7.out 0).trans rfl, (blk_cell HG7.out 1).trans rfl⟩ (fun hHeld => ?_)
 clear hK K
 refine norm_ (a' := ?_) ?_ ?_
 rotate_left
 ·show Act.put _ (some 50) _ = _
  simp only [Act.put, List.setIfInBounds_toArray, List.set_cons_zero, List.set_cons_succ, i64_w, i32_w]
  rfl
 refine pure_ (i := 19) (N := some 51) (v := ?_) (a' := ?_) #[true, true, true, true, true, true, true, true, true, true, true, true, true, true, true, true, true, true, true, true, false, false, false, false, false, false, false] rfl rfl (by kernel_rfl) (fun _ _ _ h => h) (Or.inl ⟨by rfl, ?_⟩) ?_ ?_
 rotate_left
 ·intro w'
  go_simp
  with_reducible rfl
 rotate_left
 ·simp only [Act.put, List.setIfInBounds_toArray, List.set_cons_zero, List.set_cons_succ, i64_w, i32_w]
  rfl
 refine pure_ (i := 20) (N := some 52) (v := ?_) (a' := ?_) #[true, true, true, true, true, true, true, true, true, true, true, true, true, true, true, true, true, true, true, true, true, false, false, false, false, false, false] rfl rfl (by kernel_rfl) (fun _ _ _ h => h) (Or.inl ⟨by rfl, ?_⟩) ?_ ?_
 rotate_left
 ·intro w'
  go_simp
  with_reducible rfl
 rotate_left
 ·simp only [Act.put, List.setIfInBounds_toArray, List.set_cons_zero, List.set_cons_succ, i64_w, i32_w]
  rfl
 refine pure_ (i := 21) (N := some 53) (v := ?_) (a' := ?_) #[true, true, true, true, true, true, true, true, true, true, true, true, true, true, true, true, true, true, true, true, true, true, false, false, false, false, false] rfl rfl (by kernel_rfl) (fun _ _ _ h => h) (Or.inl ⟨by rfl, ?_⟩) ?_ ?_
 rotate_left
 ·intro w'
  go_simp
  with_reducible rfl
 rotate_left
 ·simp only [Act.put, List.setIfInBounds_toArray, List.set_cons_zero, List.set_cons_succ, i64_w, i32_w]
  rfl
 refine last_ (i := 22) (N := none) #[true, true, true, true, true, true, true, true, true, true, true, true, true, true, true, true, true, true, true, true, true, true, true, false, false, false, false] rfl rfl (by kernel_rfl) (by decide) (fun K hK => ?_)
 have hc22 : w7.cell? ⟨g, 0, none⟩ = some vl := (blk_cell HG7.out 0).trans rfl
 have hf22 := blk_frozen HG7.out 0
 refine skip_ (w1 := ?_) (by rfl) rfl ?_ ?_
 rotate_left
 ·go_simp
  rfl
 have HG8 := Aside0.mk (blk_put HG7.out 0 (.slice A42 (l.length + 1) c42) rfl)
 clear hc22 hf22
 refine hK.out _ _ ?_
 clear hK K
 refine pure_ (i := 23) (N := some 54) (v := ?_) (a' := ?_) #[true, true, true, true, true, true, true, true, true, true, true, true, true, true, true, true, true, true, true, true, true, true, true, true, false, false, false] rfl rfl (by kernel_rfl) (fun _ _ _ h => h) (Or.inl ⟨by rfl, ?_⟩) ?_ ?_
 rotate_left
 ·intro w'
  go_simp
  with_reducible rfl
 rotate_left
 ·simp only [Act.put, List.setIfInBounds_toArray, List.set_cons_zero, List.set_cons_succ, i64_w, i32_w]
  rfl
 refine pure_ (i := 24) (N := some 55) (v := ?_) (a' := ?_) #[true, true, true, true, true, true, true, true, true, true, true, true, true, true, true, true, true, true, true, true, true, true, true, true, true, false, false] rfl rfl (by kernel_rfl) (fun _ _ _ h => h) (Or.inl ⟨by rfl, ?_⟩) ?_ ?_
 rotate_left
 ·intro w'
  go_simp
  with_reducible rfl
 rotate_left
 ·simp only [Act.put, List.setIfInBounds_toArray, List.set_cons_zero, List.set_cons_succ, i64_w, i32_w]
  rfl
 refine pure_ (i := 25) (N := some 56) (v := ?_) (a' := ?_) #[true, true, true, true, true, true, true, true, true, true, true, true, true, true, true, true, true, true, true, true, true, true, true, true, true, true, false] rfl rfl (by kernel_rfl) (fun _ _ _ h => h) (Or.inl ⟨by rfl, ?_⟩) ?_ ?_
 rotate_left
 ·intro w'
  go_simp
  with_reducible rfl
 rotate_left
 ·simp only [Act.put, List.setIfInBounds_toArray, List.set_cons_zero, List.set_cons_succ, i64_w, i32_w]
  rfl
 refine last_ (i := 26) (N := none) #[true, true, true, true, true, true, true, true, true, true, true, true, true, true, true, true, true, true, true, true, true, true, true, true, true, true, true] rfl rfl (by kernel_rfl) (by decide) (fun K hK => ?_)
 have hc26 : (w7.setCell ⟨g, 0, none⟩ (.slice A42 (l.length + 1) c42)).cell? ⟨g, 1, none⟩ = some vz := (blk_cell HG8.out 1).trans rfl
 have hf26 := blk_frozen HG8.out 1
 refine skip_ (w1 := ?_) (by rfl) rfl ?_ ?_
 rotate_left
 ·go_simp
  rfl
 have HG9 := Aside0.mk (blk_put HG8.out 1 (.slice A50 (z.length + 1) c50) rfl)
 clear hc26 hf26
 refine hK.out _ _ ?_
 clear hK K
 refine done_ (by kernel_rfl) ?_
 go_wp2
 go_ret
 refine ⟨rfl, ⟨.slice A42 (l.length + 1) c42, .slice A50 (z.length + 1) c50, HG9.out, Kd.S_mono (Kd.S_far (p := ⟨g, 1, none⟩) (Kd.S_far (p := ⟨g, 0, none⟩) HS7.out (fun _ hk => hk.1) _) (fun _ hk => hk.1) _) (fun _ hk => hk), Kd.R_far (p := ⟨g, 1, none⟩) (Kd.R_far (p := ⟨g, 0, none⟩) HR7.out (fun _ hk => hk) _) (fun _ hk => hk) _, HBg.out⟩, ?_⟩
 exact Below.trans (HBc.out.mono HBw.out) ((HB7.out.setCell HBg.out _).setCell HBg.out _)
end Go.Proofs.YtegjegihcebimaaDoor.P
end
