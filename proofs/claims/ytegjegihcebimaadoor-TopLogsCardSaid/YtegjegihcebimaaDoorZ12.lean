/- Part 12 of the proof of topLogs_holds: out of the texts that this session's programs wrote, what the theorem reaches. -/
import Derived.Test.YtegjegihcebimaaDoorZ11
section
namespace Go.Proofs.YtegjegihcebimaaDoor.P
open Go.RowKit Go.Proofs.YtegjegihcebimaaDoorW.PrintWords Go.Proofs.YtegjegihcebimaaDoorW.PrintLast Go.Proofs.YtegjegihcebimaaDoorW.PrintMore
attribute [local go_sem] max2_int min2_int max_two min_two max_three min_three max_four min_four
set_option linter.unusedVariables false
set_option linter.unusedSimpArgs false
structure SubOk (k : Nat) (r : List Int) (l : List (List S25)) (z : List Int) (rq : Int) (x : List S25) (i : Nat) (near m hd rv : Int) (y : List S25) (q : Int) : Prop where
 ma : op_May.f k x = some 0
 fi : seek_Find.f r rq = some ((i : Int), near, 0)
 il : i ≤ l.length
 ia : op_In.f x = some m
 zm : rd z (i : Int) = m
 rh : rd r (l.length : Int) = hd
 af : server_after.f hd = some (rv, 0)
 th : through_Of.f k x (l.drop i) = some (y, 0)
 oy : op_Out.f y = some q
 qb : q ≤ 1048576
 rl : r.length = l.length + 1
 zl : z.length = l.length + 1
 ll : l.length < 900000
 yl : y.length < 1000000
set_option maxHeartbeats 16000000 in
set_option maxRecDepth 100000 in
theorem server_Submit.calls (k : Nat) (w : World) (P : Nat → Prop) (g : Nat) (s : ByteArray) (r : List Int) (l : List (List S25)) (z : List Int) (rq : Int) (Ax : Option Addr) (cx : Nat) (x : List S25) (i : Nat) (near m hd rv : Int) (y : List S25) (q : Int) (hT : Tabs w) (h : SI w P g s r l z)
  (rx : Kd.C k25 w Ax x.length x) (lx : x.length ≤ cx) (H : SubOk k r l z rq x i near m hd rv y q) :
  Calls Tryd.prog 31 #[.pointer (some ⟨g, 0, none⟩), .int .i64 rq, .slice Ax x.length cx] w fun e w' => ∃ Av cv, e = .returned (.agg #[.slice Av y.length cv, .int .i64 rv, .int .i64 0]) ∧ Kd.R k25 25 w' w.heap.size (fun _ => True) (.slice Av y.length cv) y ∧ SI w' (fun k => P k ∨ (w.heap.size ≤ k ∧ k < w'.heap.size)) g s (r ++ [rv]) (l ++ [y]) (z ++ [q]) ∧ Kf w w' P := by
 obtain ⟨Ar, cr, Al, cl, Az, cz, hg, l1, l2, l3, r1, r2, r3⟩ := h.reads
 have HH := Aside0.mk h
 have HL : Aside0 (l.length < 1000000) := ⟨by have := H.ll; omega⟩
 have HRL : Aside0 (r.length < 1000000) := ⟨by have := H.ll; have := H.rl; omega⟩
 have HZL : Aside0 (z.length < 1000000) := ⟨by have := H.ll; have := H.zl; omega⟩
 have d1 : decide (1048576 < q) = false := decide_eq_false (by have := H.qb; omega)
 have p0 : (0 : Int) ≤ (i : Int) := by omega
 have p2 : (i : Int) ≤ (cl : Int) := by have := H.il; omega
 have p3 : (i : Int) ≤ (l.length : Int) := by have := H.il; omega
 have p4 : (i : Int) < (z.length : Int) := by have := H.il; have := H.zl; omega
 have HGN : Aside0 (w.heap.size ≠ g) := ⟨fun e => Nat.lt_irrefl _ (h.2.1 _ (e ▸ h.1))⟩
 have HPg := Aside0.mk h.1; have HPB := Aside0.mk h.2.1
 have HM := Aside0.mk (fun (W : World) (hW : Below w.heap.size w W) => op_May.calls k Ax cx x 0 W (Kd.C_below rx hW) lx (Tabs.below hT hW) H.ma)
 have HF := Aside0.mk (fun (W : World) (hW : Below w.heap.size w W) => seek_Find.calls Ar cr r rq (i : Int) near 0 W (Kd.C_below r1 hW) l1 H.fi)
 have HIn := Aside0.mk (fun (W : World) (hW : Below w.heap.size w W) => op_In.calls Ax cx x m W (Kd.C_below rx hW) lx (Tabs.below hT hW) H.ia)
 have HHd := Aside0.mk (fun (W : World) (hW : Below w.heap.size w W) => server_Head.calls W P g s r l z l.length hd (h.below hW) H.rl (by have := H.ll; omega) H.rh)
 have HAf := Aside0.mk (fun (W : World) => server_after.calls hd rv 0 W H.af)
 obtain ⟨AQ, eAQ⟩ : ∃ AQ, AQ = (if cl = i then Al else Al.map (·.add (i * 1))) := ⟨_, rfl⟩
 have HK := Aside0.mk (fun (W : World) => by have := history_cut Al l.length cl i H.il l2 W; rw [← eAQ] at this; exact this)
 have HC := Aside0.mk (fun (W : World) (hW : Below w.heap.size w W) => by
  have := through_Of.calls k Ax cx x (if cl = i then Al else Al.map (·.add (i * 1))) (cl - i) (l.drop i) y 0 W (Kd.C_below rx hW) lx (Kd.C_drop (Kd.C_below r2 hW) H.il l2) (by rw [List.length_drop]; omega) (Tabs.below hT hW) H.th
  rw [List.length_drop, ← eAQ] at this
  exact this)
 clear eAQ
 have HOu := Aside0.mk (fun (A : Option Addr) (c : Nat) (W W' : World) (hW : Below w.heap.size w W) (ho : Kd.R k25 25 W W'.heap.size (fun _ => True) (.slice A y.length c) y) => op_Out.calls A c y q W (Kd.R_reads' ho).2.2 (Kd.R_reads' ho).2.1 (Tabs.below hT hW) H.oy)
 have HCl := Aside0.mk (fun (A : Option Addr) (c : Nat) (W : World) (h1 : Kd.C k25 W A y.length y) (h2 : y.length ≤ c) => slices_Clone.calls A c y W h1 h2 H.yl)
 obtain ⟨ad, hAz, hcz⟩ := Kd.at_int r3 (i : Int) p0 p4
 subst hAz
 rw [Int.toNat_natCast, H.zm] at hcz
 have CZ := Aside0.mk hcz
 have HG0 := Aside0.mk hg
 have HB0 := Aside0.mk (below_alloc (Below.refl w.heap.size w) (.cells #[.slice none 0 0, .int .i64 0, .int .i64 0] 72))
 have HGA0 := Aside0.mk (heap_alloc_new w (.cells #[.slice none 0 0, .int .i64 0, .int .i64 0] 72))
 clear h hT r1 r2 r3 l1 l2 l3 hg hcz rx lx H
 go_enter Tryd.func31, Tryd.ntmps31
 go_upto_region 1 with (fail)
 generalize w.alloc (.cells #[.slice none 0 0, .int .i64 0, .int .i64 0] 72) = w1 at HB0 HGA0 ⊢
 go_wp2_with (first | (go_at_call 46; (with_reducible refine (HM.out _ HB0.out).mono ?_); rintro e w2 ⟨rfl, hb⟩; have HB2 := Aside0.mk (below_step HB0.out hb); have HGA2 := Aside0.mk (blk_below HGA0.out hb); have c1 : w2.cell? ⟨g, 1, none⟩ = some (.slice Ar r.length cr) := (blk_cell (blk_below HG0.out HB2.out) 1).trans rfl; clear hb HB0 HGA0) | (go_at_call 19; (with_reducible refine (HF.out _ HB2.out).mono ?_); rintro e w3 ⟨rfl, hb⟩; have HB3 := Aside0.mk (below_step HB2.out hb); have HGA3 := Aside0.mk (blk_below HGA2.out hb); clear hb HB2 HGA2 c1))
 have c3 : w3.cell? ⟨g, 3, none⟩ = some (.slice (some ad) z.length cz) := (blk_cell (blk_below HG0.out HB3.out) 3).trans rfl
 have cz3 := cell_past HB3.out CZ.out
 go_region_held3 (fun w' => w'.cell? ⟨g, 3, none⟩ = some (.slice (some ad) z.length cz) ∧ w'.cell? (ad.add i) = some (.int .i64 m)) (first | go_keep | exact ⟨(blk_cell (blk_below HG0.out HB4.out) 3).trans rfl, cell_past HB4.out CZ.out⟩) ((go_at_call 20; (with_reducible refine (HIn.out _ (below_drew1 HB3.out)).mono ?_); rintro e w4 ⟨rfl, hb⟩; have HB4 := Aside0.mk (below_step (below_drew1 HB3.out) hb); have HGA4 := Aside0.mk (blk_below HGA3.out (below_step (below_drew1 (Below.refl _ _)) hb)); clear hb))
 go_wp2
 have c4 : w4.cell? ⟨g, 4, none⟩ = some (.func (.func 89) #[] #[]) := (blk_cell (blk_below HG0.out HB4.out) 4).trans rfl
 go_region_held3 (fun w' => w'.cell? ⟨g, 4, none⟩ = some (.func (.func 89) #[] #[])) (first | go_keep | exact (blk_cell (blk_below HG0.out HB5.out) 4).trans rfl | exact (blk_cell (blk_below HG0.out HB6.out) 4).trans rfl) ((first | (go_at_call 68; (with_reducible refine (HHd.out _ (below_drew1 HB4.out)).mono ?_); rintro e w5 ⟨rfl, hb⟩; have HB5 := Aside0.mk (below_step (below_drew1 HB4.out) hb); have HGA5 := Aside0.mk (blk_below HGA4.out (below_step (below_drew1 (Below.refl _ _)) hb)); clear hb) | (go_at_call 89; (with_reducible refine (HAf.out _).mono ?_); rintro e w6 ⟨rfl, hb⟩; have HB6 := Aside0.mk (below_step HB5.out hb.below); have HGA6 := Aside0.mk (blk_below HGA5.out hb.below); clear hb)))
 have c2 : w6.cell? ⟨g, 2, none⟩ = some (.slice Al l.length cl) := (blk_cell (blk_below HG0.out HB6.out) 2).trans rfl
 have hcut := HK.out
 go_wp2_with (first | (go_at_call 12; (with_reducible refine (HC.out _ HB6.out).mono ?_); rintro e w7 ⟨vy, rfl, ho, hb⟩; obtain ⟨Ay, cy, rfl⟩ := Kd.R_slice ho; have HO7 := Aside0.mk ho; have HB7 := Aside0.mk hb; clear hb ho) | (go_at_call 62; (with_reducible refine (HOu.out Ay cy w7 w6 (below_step HB6.out HB7.out) HO7.out).mono ?_); rintro e w8 ⟨rfl, hb⟩; have HB8 := Aside0.mk hb; clear hb))
 obtain ⟨vr, vl, vz, J0⟩ := SJ.start (rv := rv) (q := q) (HH.out.below HB6.out) HB7.out HO7.out
 have J := (J0.below HB8.out).below (below_drew1 (Below.refl _ _))
 clear J0 c2
 refine start_ (n := 37) (S := fun w' => w'.cell? ⟨g, 2, none⟩ = some vl ∧ w'.cell? ⟨g, 1, none⟩ = some vr ∧ w'.cell? ⟨g, 3, none⟩ = some vz) (ds := [29, 33, 36]) #[false, false, false, false, false, false, false, false, false, false, false, false, false, false, false, false, false, false, false, false, false, false, false, false, false, false, false, false, false, false, false, false, false, false, false, false, false] (by kernel_rfl) rfl rfl ⟨(blk_cell J.HG 2).trans rfl, (blk_cell J.HG 1).trans rfl, (blk_cell J.HG 3).trans rfl⟩ (fun hHeld => ?_)
 generalize w8.drew = wd at J hHeld ⊢
 refine pure_ (i := 0) (N := some 82) (v := ?_) (a' := ?_) #[true, false, false, false, false, false, false, false, false, false, false, false, false, false, false, false, false, false, false, false, false, false, false, false, false, false, false, false, false, false, false, false, false, false, false, false, false] rfl rfl (by kernel_rfl) (fun _ _ _ h => h) (Or.inl ⟨by rfl, ?_⟩) ?_ ?_
 rotate_left
 ·intro w'
  go_simp
  with_reducible rfl
 rotate_left
 ·simp only [Act.put, List.setIfInBounds_toArray, List.set_cons_zero, List.set_cons_succ, i64_w, i32_w]
  rfl
 refine pure_ (i := 1) (N := some 83) (v := ?_) (a' := ?_) #[true, true, false, false, false, false, false, false, false, false, false, false, false, false, false, false, false, false, false, false, false, false, false, false, false, false, false, false, false, false, false, false, false, false, false, false, false] rfl rfl (by kernel_rfl) (fun _ _ _ h => h) (Or.inl ⟨by rfl, ?_⟩) ?_ ?_
 rotate_left
 ·intro w'
  go_simp
  with_reducible rfl
 rotate_left
 ·simp only [Act.put, List.setIfInBounds_toArray, List.set_cons_zero, List.set_cons_succ, i64_w, i32_w]
  rfl
 refine pure_ (i := 2) (N := some 84) (v := ?_) (a' := ?_) #[true, true, true, false, false, false, false, false, false, false, false, false, false, false, false, false, false, false, false, false, false, false, false, false, false, false, false, false, false, false, false, false, false, false, false, false, false] rfl rfl (by kernel_rfl) (fun _ _ _ h => h) (Or.inl ⟨by rfl, ?_⟩) ?_ ?_
 rotate_left
 ·intro w'
  go_simp
  with_reducible rfl
 rotate_left
 ·simp only [Act.put, List.setIfInBounds_toArray, List.set_cons_zero, List.set_cons_succ, i64_w, i32_w]
  rfl
 refine pure_ (i := 3) (N := some 85) (v := ?_) (a' := ?_) #[true, true, true, true, false, false, false, false, false, false, false, false, false, false, false, false, false, false, false, false, false, false, false, false, false, false, false, false, false, false, false, false, false, false, false, false, false] rfl rfl (by kernel_rfl) (fun _ _ _ h => h) (Or.inl ⟨by rfl, ?_⟩) ?_ ?_
 rotate_left
 ·intro w'
  go_simp
  with_reducible rfl
 rotate_left
 ·simp only [Act.put, List.setIfInBounds_toArray, List.set_cons_zero, List.set_cons_succ, i64_w, i32_w]
  rfl
 refine pure_ (i := 4) (N := some 86) (v := ?_) (a' := ?_) #[true, true, true, true, true, false, false, false, false, false, false, false, false, false, false, false, false, false, false, false, false, false, false, false, false, false, false, false, false, false, false, false, false, false, false, false, false] rfl rfl (by kernel_rfl) (fun _ _ _ h => h) (Or.inl ⟨by rfl, ?_⟩) ?_ ?_
 rotate_left
 ·intro w'
  go_simp
  with_reducible rfl
 rotate_left
 ·simp only [Act.put, List.setIfInBounds_toArray, List.set_cons_zero, List.set_cons_succ, i64_w, i32_w]
  rfl
 refine pure_ (i := 5) (N := some 87) (v := ?_) (a' := ?_) #[true, true, true, true, true, true, false, false, false, false, false, false, false, false, false, false, false, false, false, false, false, false, false, false, false, false, false, false, false, false, false, false, false, false, false, false, false] rfl rfl (by kernel_rfl) (fun _ _ _ h => h) (Or.inl ⟨by rfl, ?_⟩) ?_ ?_
 rotate_left
 ·intro w'
  go_simp
  with_reducible rfl
 rotate_left
 ·simp only [Act.put, List.setIfInBounds_toArray, List.set_cons_zero, List.set_cons_succ, i64_w, i32_w]
  rfl
 refine pure_ (i := 6) (N := some 88) (v := ?_) (a' := ?_) #[true, true, true, true, true, true, true, false, false, false, false, false, false, false, false, false, false, false, false, false, false, false, false, false, false, false, false, false, false, false, false, false, false, false, false, false, false] rfl rfl (by kernel_rfl) (fun _ _ _ h => h) (Or.inl ⟨by rfl, ?_⟩) ?_ ?_
 rotate_left
 ·intro w'
  go_simp
  with_reducible rfl
 rotate_left
 ·simp only [Act.put, List.setIfInBounds_toArray, List.set_cons_zero, List.set_cons_succ, i64_w, i32_w]
  rfl
 refine pure_ (i := 8) (N := some 90) (v := ?_) (a' := ?_) #[true, true, true, true, true, true, true, false, true, false, false, false, false, false, false, false, false, false, false, false, false, false, false, false, false, false, false, false, false, false, false, false, false, false, false, false, false] rfl rfl (by kernel_rfl) (fun _ _ _ h => h) (Or.inl ⟨by rfl, ?_⟩) ?_ ?_
 rotate_left
 ·intro w'
  go_simp
  with_reducible rfl
 rotate_left
 ·simp only [Act.put, List.setIfInBounds_toArray, List.set_cons_zero, List.set_cons_succ, i64_w, i32_w]
  rfl
 refine pure_ (i := 11) (N := some 93) (v := ?_) (a' := ?_) #[true, true, true, true, true, true, true, false, true, false, false, true, false, false, false, false, false, false, false, false, false, false, false, false, false, false, false, false, false, false, false, false, false, false, false, false, false] rfl rfl (by kernel_rfl) (fun _ _ _ h => h) (Or.inl ⟨by rfl, ?_⟩) ?_ ?_
 rotate_left
 ·intro w'
  go_simp
  with_reducible rfl
 rotate_left
 ·simp only [Act.put, List.setIfInBounds_toArray, List.set_cons_zero, List.set_cons_succ, i64_w, i32_w]
  rfl
 refine pure_ (i := 12) (N := some 94) (v := ?_) (a' := ?_) #[true, true, true, true, true, true, true, false, true, false, false, true, true, false, false, false, false, false, false, false, false, false, false, false, false, false, false, false, false, false, false, false, false, false, false, false, false] rfl rfl (by kernel_rfl) (fun _ _ _ h => h) (Or.inl ⟨by rfl, ?_⟩) ?_ ?_
 rotate_left
 ·intro w'
  go_simp
  with_reducible rfl
 rotate_left
 ·simp only [Act.put, List.setIfInBounds_toArray, List.set_cons_zero, List.set_cons_succ, i64_w, i32_w]
  rfl
 refine pure_ (i := 13) (N := some 95) (v := ?_) (a' := ?_) #[true, true, true, true, true, true, true, false, true, false, false, true, true, true, false, false, false, false, false, false, false, false, false, false, false, false, false, false, false, false, false, false, false, false, false, false, false] rfl rfl (by kernel_rfl) (fun _ _ _ h => h) (Or.inl ⟨by rfl, ?_⟩) ?_ ?_
 rotate_left
 ·intro w'
  go_simp
  with_reducible rfl
 rotate_left
 ·simp only [Act.put, List.setIfInBounds_toArray, List.set_cons_zero, List.set_cons_succ, i64_w, i32_w]
  rfl
 refine pure_ (i := 14) (N := some 96) (v := ?_) (a' := ?_) #[true, true, true, true, true, true, true, false, true, false, false, true, true, true, true, false, false, false, false, false, false, false, false, false, false, false, false, false, false, false, false, false, false, false, false, false, false] rfl rfl (by kernel_rfl) (fun _ _ _ h => h) (Or.inl ⟨by rfl, ?_⟩) ?_ ?_
 rotate_left
 ·intro w'
  go_simp
  with_reducible rfl
 rotate_left
 ·simp only [Act.put, List.setIfInBounds_toArray, List.set_cons_zero, List.set_cons_succ, i64_w, i32_w]
  rfl
 refine pure_ (i := 16) (N := some 98) (v := ?_) (a' := ?_) #[true, true, true, true, true, true, true, false, true, false, false, true, true, true, true, false, true, false, false, false, false, false, false, false, false, false, false, false, false, false, false, false, false, false, false, false, false] rfl rfl (by kernel_rfl) (fun _ _ _ h => h) (Or.inl ⟨by rfl, ?_⟩) ?_ ?_
 rotate_left
 ·intro w'
  go_simp
  with_reducible rfl
 rotate_left
 ·simp only [Act.put, List.setIfInBounds_toArray, List.set_cons_zero, List.set_cons_succ, i64_w, i32_w]
  rfl
 refine pure_ (i := 19) (N := some 101) (v := ?_) (a' := ?_) #[true, true, true, true, true, true, true, false, true, false, false, true, true, true, true, false, true, false, false, true, false, false, false, false, false, false, false, false, false, false, false, false, false, false, false, false, false] rfl rfl (by kernel_rfl) (fun _ _ _ h => h) (Or.inl ⟨by rfl, ?_⟩) ?_ ?_
 rotate_left
 ·intro w'
  go_simp
  with_reducible rfl
 rotate_left
 ·simp only [Act.put, List.setIfInBounds_toArray, List.set_cons_zero, List.set_cons_succ, i64_w, i32_w]
  rfl
 refine pure_ (i := 20) (N := some 102) (v := ?_) (a' := ?_) #[true, true, true, true, true, true, true, false, true, false, false, true, true, true, true, false, true, false, false, true, true, false, false, false, false, false, false, false, false, false, false, false, false, false, false, false, false] rfl rfl (by kernel_rfl) (fun _ _ _ h => h) (Or.inl ⟨by rfl, ?_⟩) ?_ ?_
 rotate_left
 ·intro w'
  go_simp
  with_reducible rfl
 rotate_left
 ·simp only [Act.put, List.setIfInBounds_toArray, List.set_cons_zero, List.set_cons_succ, i64_w, i32_w]
  rfl
 refine pure_ (i := 21) (N := some 103) (v := ?_) (a' := ?_) #[true, true, true, true, true, true, true, false, true, false, false, true, true, true, true, false, true, false, false, true, true, true, false, false, false, false, false, false, false, false, false, false, false, false, false, false, false] rfl rfl (by kernel_rfl) (fun _ _ _ h => h) (Or.inl ⟨by rfl, ?_⟩) ?_ ?_
 rotate_left
 ·intro w'
  go_simp
  with_reducible rfl
 rotate_left
 ·simp only [Act.put, List.setIfInBounds_toArray, List.set_cons_zero, List.set_cons_succ, i64_w, i32_w]
  rfl
 refine pure_ (i := 23) (N := some 105) (v := ?_) (a' := ?_) #[true, true, true, true, true, true, true, false, true, false, false, true, true, true, true, false, true, false, false, true, true, true, false, true, false, false, false, false, false, false, false, false, false, false, false, false, false] rfl rfl (by kernel_rfl) (fun _ _ _ h => h) (Or.inl ⟨by rfl, ?_⟩) ?_ ?_
 rotate_left
 ·intro w'
  go_simp
  with_reducible rfl
 rotate_left
 ·simp only [Act.put, List.setIfInBounds_toArray, List.set_cons_zero, List.set_cons_succ, i64_w, i32_w]
  rfl
 refine take_ (i := 7) (N := some 89) (v := ?_) (a' := ?_) #[true, true, true, true, true, true, true, true, true, false, false, true, true, true, true, false, true, false, false, true, true, true, false, true, false, false, false, false, false, false, false, false, false, false, false, false, false] rfl rfl (by kernel_rfl) (fun _ _ _ h => h) (Or.inl ⟨by rfl, ?_⟩) hHeld ?_ ?_
 rotate_left
 ·rintro w' ⟨s0, s1, s2⟩
  go_simp
  with_reducible rfl
 rotate_left
 ·simp only [Act.put, List.setIfInBounds_toArray, List.set_cons_zero, List.set_cons_succ, i64_w, i32_w]
  rfl
 refine take_ (i := 15) (N := some 97) (v := ?_) (a' := ?_) #[true, true, true, true, true, true, true, true, true, false, false, true, true, true, true, true, true, false, false, true, true, true, false, true, false, false, false, false, false, false, false, false, false, false, false, false, false] rfl rfl (by kernel_rfl) (fun _ _ _ h => h) (Or.inl ⟨by rfl, ?_⟩) hHeld ?_ ?_
 rotate_left
 ·rintro w' ⟨s0, s1, s2⟩
  go_simp
  with_reducible rfl
 rotate_left
 ·simp only [Act.put, List.setIfInBounds_toArray, List.set_cons_zero, List.set_cons_succ, i64_w, i32_w]
  rfl
 refine take_ (i := 22) (N := some 104) (v := ?_) (a' := ?_) #[true, true, true, true, true, true, true, true, true, false, false, true, true, true, true, true, true, false, false, true, true, true, true, true, false, false, false, false, false, false, false, false, false, false, false, false, false] rfl rfl (by kernel_rfl) (fun _ _ _ h => h) (Or.inl ⟨by rfl, ?_⟩) hHeld ?_ ?_
 rotate_left
 ·rintro w' ⟨s0, s1, s2⟩
  go_simp
  with_reducible rfl
 rotate_left
 ·simp only [Act.put, List.setIfInBounds_toArray, List.set_cons_zero, List.set_cons_succ, i64_w, i32_w]
  rfl
 refine join_ (σ := Nat × Option Addr × Nat × Nat × Option Addr × Nat × Nat) 12 #[true, true, true, true, true, true, true, true, true, true, true, true, true, true, true, true, true, true, true, true, true, true, true, true, true, false, false, false, false, false, false, false, false, false, false, false, false] (fun s_ => [(91, .slice (some ⟨s_.1, 0, none⟩) 1 1), (92, .slice s_.2.1 (l.length + 1) s_.2.2.1), (99, .slice (some ⟨s_.2.2.2.1, 0, none⟩) 1 1), (100, .slice s_.2.2.2.2.1 (r.length + 1) s_.2.2.2.2.2.1), (106, .slice (some ⟨s_.2.2.2.2.2.2, 0, none⟩) 1 1)]) (fun s_ w' => (w'.cell? ⟨g, 2, none⟩ = some vl ∧ w'.cell? ⟨g, 1, none⟩ = some vr ∧ w'.cell? ⟨g, 3, none⟩ = some vz) ∧ SJ w6 w' P g s r l z y rv q vr vl vz (.slice Ay y.length cy) (.slice s_.2.1 (l.length + 1) s_.2.2.1) (.slice s_.2.2.2.2.1 (r.length + 1) s_.2.2.2.2.2.1) s_.1 s_.2.2.2.1 s_.2.2.2.2.2.2 true true true true true) ?_ ?_
 rotate_left
 ·intro hCont
  refine three_ (i := 9) (j := 17) (k := 24) (Ni := some 91) (Nj := some 99) (Nk := some 106) #[true, true, true, true, true, true, true, true, true, true, false, true, true, true, true, true, true, false, false, true, true, true, true, true, false, false, false, false, false, false, false, false, false, false, false, false, false] #[true, true, true, true, true, true, true, true, true, false, false, true, true, true, true, true, true, true, false, true, true, true, true, true, false, false, false, false, false, false, false, false, false, false, false, false, false] #[true, true, true, true, true, true, true, true, true, false, false, true, true, true, true, true, true, false, false, true, true, true, true, true, true, false, false, false, false, false, false, false, false, false, false, false, false] rfl rfl rfl rfl rfl rfl (by kernel_rfl) (by decide) (by decide) (by decide) (fun K hK => ?_) (fun K hK => ?_) (fun K hK => ?_)
  ·skip
   refine value_ (w1 := ?_) (v := ?_) (by rfl) rfl ?_ ?_
   rotate_left 2
   ·go_simp
    constructor
    ·rfl
    ·rfl
   have J1 := J.e1
   try simp only [alloc_heap_size] at J1
   clear J
   have J := J1
   clear J1
   refine hK.out _ _ ⟨(blk_cell J.HG 2).trans rfl, (blk_cell J.HG 1).trans rfl, (blk_cell J.HG 3).trans rfl⟩ (fun hHeld => ?_)
   clear hK K
   refine norm_ (a' := ?_) ?_ ?_
   rotate_left
   ·show Act.put _ (some 91) _ = _
    simp only [Act.put, List.setIfInBounds_toArray, List.set_cons_zero, List.set_cons_succ, i64_w, i32_w]
    rfl
   refine three_ (i := 10) (j := 17) (k := 24) (Ni := some 92) (Nj := some 99) (Nk := some 106) #[true, true, true, true, true, true, true, true, true, true, true, true, true, true, true, true, true, false, false, true, true, true, true, true, false, false, false, false, false, false, false, false, false, false, false, false, false] #[true, true, true, true, true, true, true, true, true, true, false, true, true, true, true, true, true, true, false, true, true, true, true, true, false, false, false, false, false, false, false, false, false, false, false, false, false] #[true, true, true, true, true, true, true, true, true, true, false, true, true, true, true, true, true, false, false, true, true, true, true, true, true, false, false, false, false, false, false, false, false, false, false, false, false] rfl rfl rfl rfl rfl rfl (by kernel_rfl) (by decide) (by decide) (by decide) (fun K hK => ?_) (fun K hK => ?_) (fun K hK => ?_)
   ·skip
    refine SJ.e2 J HL.out (by rfl) (.tmp 89) (.tmp 91) rfl rfl rfl ?_
    intro A2 c2 w9 J1
    clear J
    have J := J1
    clear J1
    refine hK.out _ _ ⟨(blk_cell J.HG 2).trans rfl, (blk_cell J.HG 1).trans rfl, (blk_cell J.HG 3).trans rfl⟩ (fun hHeld => ?_)
    clear hK K
    refine norm_ (a' := ?_) ?_ ?_
    rotate_left
    ·show Act.put _ (some 92) _ = _
     simp only [Act.put, List.setIfInBounds_toArray, List.set_cons_zero, List.set_cons_succ, i64_w, i32_w]
     rfl
    refine two_ (i := 17) (j := 24) (Ni := some 99) (Nj := some 106) #[true, true, true, true, true, true, true, true, true, true, true, true, true, true, true, true, true, true, false, true, true, true, true, true, false, false, false, false, false, false, false, false, false, false, false, false, false] #[true, true, true, true, true, true, true, true, true, true, true, true, true, true, true, true, true, false, false, true, true, true, true, true, true, false, false, false, false, false, false, false, false, false, false, false, false] rfl rfl rfl rfl (by kernel_rfl) (by decide) (by decide) (fun K hK => ?_) (fun K hK => ?_)
    ·skip
     refine value_ (w1 := ?_) (v := ?_) (by rfl) rfl ?_ ?_
     rotate_left 2
     ·go_simp
      constructor
      ·rfl
      ·rfl
     have J1 := J.e3
     try simp only [alloc_heap_size] at J1
     clear J
     have J := J1
     clear J1
     refine hK.out _ _ ⟨(blk_cell J.HG 2).trans rfl, (blk_cell J.HG 1).trans rfl, (blk_cell J.HG 3).trans rfl⟩ (fun hHeld => ?_)
     clear hK K
     refine norm_ (a' := ?_) ?_ ?_
     rotate_left
     ·show Act.put _ (some 99) _ = _
      simp only [Act.put, List.setIfInBounds_toArray, List.set_cons_zero, List.set_cons_succ, i64_w, i32_w]
      rfl
     refine two_ (i := 18) (j := 24) (Ni := some 100) (Nj := some 106) #[true, true, true, true, true, true, true, true, true, true, true, true, true, true, true, true, true, true, true, true, true, true, true, true, false, false, false, false, false, false, false, false, false, false, false, false, false] #[true, true, true, true, true, true, true, true, true, true, true, true, true, true, true, true, true, true, false, true, true, true, true, true, true, false, false, false, false, false, false, false, false, false, false, false, false] rfl rfl rfl rfl (by kernel_rfl) (by decide) (by decide) (fun K hK => ?_) (fun K hK => ?_)
     ·skip
      refine SJ.e4 J HRL.out (by rfl) (.tmp 97) (.tmp 99) rfl rfl rfl ?_
      intro A4 c4 w10 J1
      clear J
      have J := J1
      clear J1
      refine hK.out _ _ ⟨(blk_cell J.HG 2).trans rfl, (blk_cell J.HG 1).trans rfl, (blk_cell J.HG 3).trans rfl⟩ (fun hHeld => ?_)
      clear hK K
      refine norm_ (a' := ?_) ?_ ?_
      rotate_left
      ·show Act.put _ (some 100) _ = _
       simp only [Act.put, List.setIfInBounds_toArray, List.set_cons_zero, List.set_cons_succ, i64_w, i32_w]
       rfl
      refine one_ (i := 24) (N := some 106) #[true, true, true, true, true, true, true, true, true, true, true, true, true, true, true, true, true, true, true, true, true, true, true, true, true, false, false, false, false, false, false, false, false, false, false, false, false] rfl rfl (by kernel_rfl) (by decide) (fun K hK => ?_)
      refine value_ (w1 := ?_) (v := ?_) (by rfl) rfl ?_ ?_
      rotate_left 2
      ·go_simp
       constructor
       ·rfl
       ·rfl
      have J1 := J.e5
      try simp only [alloc_heap_size] at J1
      clear J
      have J := J1
      clear J1
      refine hK.out _ _ ⟨(blk_cell J.HG 2).trans rfl, (blk_cell J.HG 1).trans rfl, (blk_cell J.HG 3).trans rfl⟩ (fun hHeld => ?_)
      clear hK K
      refine norm_ (a' := ?_) ?_ ?_
      rotate_left
      ·show Act.put _ (some 106) _ = _
       simp only [Act.put, List.setIfInBounds_toArray, List.set_cons_zero, List.set_cons_succ, i64_w, i32_w]
       rfl
      refine norm_ ?_ (hCont (_, _, _, _, _, _, _) _ ⟨⟨(blk_cell J.HG 2).trans rfl, (blk_cell J.HG 1).trans rfl, (blk_cell J.HG 3).trans rfl⟩, J⟩)
      first | (simp only [putAll, Act.put, List.setIfInBounds_toArray, List.set_cons_zero, List.set_cons_succ]; done) | (simp only [putAll, Act.put, List.setIfInBounds_toArray, List.set_cons_zero, List.set_cons_succ]; rfl)
     ·skip
      refine value_ (w1 := ?_) (v := ?_) (by rfl) rfl ?_ ?_
      rotate_left 2
      ·go_simp
       constructor
       ·rfl
       ·rfl
      have J1 := J.e5
      try simp only [alloc_heap_size] at J1
      clear J
      have J := J1
      clear J1
      refine hK.out _ _ ⟨(blk_cell J.HG 2).trans rfl, (blk_cell J.HG 1).trans rfl, (blk_cell J.HG 3).trans rfl⟩ (fun hHeld => ?_)
      clear hK K
      refine norm_ (a' := ?_) ?_ ?_
      rotate_left
      ·show Act.put _ (some 106) _ = _
       simp only [Act.put, List.setIfInBounds_toArray, List.set_cons_zero, List.set_cons_succ, i64_w, i32_w]
       rfl
      refine one_ (i := 18) (N := some 100) #[true, true, true, true, true, true, true, true, true, true, true, true, true, true, true, true, true, true, true, true, true, true, true, true, true, false, false, false, false, false, false, false, false, false, false, false, false] rfl rfl (by kernel_rfl) (by decide) (fun K hK => ?_)
      refine SJ.e4 J HRL.out (by rfl) (.tmp 97) (.tmp 99) rfl rfl rfl ?_
      intro A4 c4 w10 J1
      clear J
      have J := J1
      clear J1
      refine hK.out _ _ ⟨(blk_cell J.HG 2).trans rfl, (blk_cell J.HG 1).trans rfl, (blk_cell J.HG 3).trans rfl⟩ (fun hHeld => ?_)
      clear hK K
      refine norm_ (a' := ?_) ?_ ?_
      rotate_left
      ·show Act.put _ (some 100) _ = _
       simp only [Act.put, List.setIfInBounds_toArray, List.set_cons_zero, List.set_cons_succ, i64_w, i32_w]
       rfl
      refine norm_ ?_ (hCont (_, _, _, _, _, _, _) _ ⟨⟨(blk_cell J.HG 2).trans rfl, (blk_cell J.HG 1).trans rfl, (blk_cell J.HG 3).trans rfl⟩, J⟩)
      first | (simp only [putAll, Act.put, List.setIfInBounds_toArray, List.set_cons_zero, List.set_cons_succ]; done) | (simp only [putAll, Act.put, List.setIfInBounds_toArray, List.set_cons_zero, List.set_cons_succ]; rfl)
    ·skip
     refine value_ (w1 := ?_) (v := ?_) (by rfl) rfl ?_ ?_
     rotate_left 2
     ·go_simp
      constructor
      ·rfl
      ·rfl
     have J1 := J.e5
     try simp only [alloc_heap_size] at J1
     clear J
     have J := J1
     clear J1
     refine hK.out _ _ ⟨(blk_cell J.HG 2).trans rfl, (blk_cell J.HG 1).trans rfl, (blk_cell J.HG 3).trans rfl⟩ (fun hHeld => ?_)
     clear hK K
     refine norm_ (a' := ?_) ?_ ?_
     rotate_left
     ·show Act.put _ (some 106) _ = _
      simp only [Act.put, List.setIfInBounds_toArray, List.set_cons_zero, List.set_cons_succ, i64_w, i32_w]
      rfl
     refine one_ (i := 17) (N := some 99) #[true, true, true, true, true, true, true, true, true, true, true, true, true, true, true, true, true, true, false, true, true, true, true, true, true, false, false, false, false, false, false, false, false, false, false, false, false] rfl rfl (by kernel_rfl) (by decide) (fun K hK => ?_)
     refine value_ (w1 := ?_) (v := ?_) (by rfl) rfl ?_ ?_
     rotate_left 2
     ·go_simp
      constructor
      ·rfl
      ·rfl
     have J1 := J.e3
     try simp only [alloc_heap_size] at J1
     clear J
     have J := J1
     clear J1
     refine hK.out _ _ ⟨(blk_cell J.HG 2).trans rfl, (blk_cell J.HG 1).trans rfl, (blk_cell J.HG 3).trans rfl⟩ (fun hHeld => ?_)
     clear hK K
     refine norm_ (a' := ?_) ?_ ?_
     rotate_left
     ·show Act.put _ (some 99) _ = _
      simp only [Act.put, List.setIfInBounds_toArray, List.set_cons_zero, List.set_cons_succ, i64_w, i32_w]
      rfl
     refine one_ (i := 18) (N := some 100) #[true, true, true, true, true, true, true, true, true, true, true, true, true, true, true, true, true, true, true, true, true, true, true, true, true, false, false, false, false, false, false, false, false, false, false, false, false] rfl rfl (by kernel_rfl) (by decide) (fun K hK => ?_)
     refine SJ.e4 J HRL.out (by rfl) (.tmp 97) (.tmp 99) rfl rfl rfl ?_
     intro A4 c4 w10 J1
     clear J
     have J := J1
     clear J1
     refine hK.out _ _ ⟨(blk_cell J.HG 2).trans rfl, (blk_cell J.HG 1).trans rfl, (blk_cell J.HG 3).trans rfl⟩ (fun hHeld => ?_)
     clear hK K
     refine norm_ (a' := ?_) ?_ ?_
     rotate_left
     ·show Act.put _ (some 100) _ = _
      simp only [Act.put, List.setIfInBounds_toArray, List.set_cons_zero, List.set_cons_succ, i64_w, i32_w]
      rfl
     refine norm_ ?_ (hCont (_, _, _, _, _, _, _) _ ⟨⟨(blk_cell J.HG 2).trans rfl, (blk_cell J.HG 1).trans rfl, (blk_cell J.HG 3).trans rfl⟩, J⟩)
     first | (simp only [putAll, Act.put, List.setIfInBounds_toArray, List.set_cons_zero, List.set_cons_succ]; done) | (simp only [putAll, Act.put, List.setIfInBounds_toArray, List.set_cons_zero, List.set_cons_succ]; rfl)
   ·skip
    refine value_ (w1 := ?_) (v := ?_) (by rfl) rfl ?_ ?_
    rotate_left 2
    ·go_simp
     constructor
     ·rfl
     ·rfl
    have J1 := J.e3
    try simp only [alloc_heap_size] at J1
    clear J
    have J := J1
    clear J1
    refine hK.out _ _ ⟨(blk_cell J.HG 2).trans rfl, (blk_cell J.HG 1).trans rfl, (blk_cell J.HG 3).trans rfl⟩ (fun hHeld => ?_)
    clear hK K
    refine norm_ (a' := ?_) ?_ ?_
    rotate_left
    ·show Act.put _ (some 99) _ = _
     simp only [Act.put, List.setIfInBounds_toArray, List.set_cons_zero, List.set_cons_succ, i64_w, i32_w]
     rfl
    refine two_ (i := 10) (j := 24) (Ni := some 92) (Nj := some 106) #[true, true, true, true, true, true, true, true, true, true, true, true, true, true, true, true, true, true, false, true, true, true, true, true, false, false, false, false, false, false, false, false, false, false, false, false, false] #[true, true, true, true, true, true, true, true, true, true, false, true, true, true, true, true, true, true, false, true, true, true, true, true, true, false, false, false, false, false, false, false, false, false, false, false, false] rfl rfl rfl rfl (by kernel_rfl) (by decide) (by decide) (fun K hK => ?_) (fun K hK => ?_)
    ·skip
     refine SJ.e2 J HL.out (by rfl) (.tmp 89) (.tmp 91) rfl rfl rfl ?_
     intro A2 c2 w9 J1
     clear J
     have J := J1
     clear J1
     refine hK.out _ _ ⟨(blk_cell J.HG 2).trans rfl, (blk_cell J.HG 1).trans rfl, (blk_cell J.HG 3).trans rfl⟩ (fun hHeld => ?_)
     clear hK K
     refine norm_ (a' := ?_) ?_ ?_
     rotate_left
     ·show Act.put _ (some 92) _ = _
      simp only [Act.put, List.setIfInBounds_toArray, List.set_cons_zero, List.set_cons_succ, i64_w, i32_w]
      rfl
     refine two_ (i := 18) (j := 24) (Ni := some 100) (Nj := some 106) #[true, true, true, true, true, true, true, true, true, true, true, true, true, true, true, true, true, true, true, true, true, true, true, true, false, false, false, false, false, false, false, false, false, false, false, false, false] #[true, true, true, true, true, true, true, true, true, true, true, true, true, true, true, true, true, true, false, true, true, true, true, true, true, false, false, false, false, false, false, false, false, false, false, false, false] rfl rfl rfl rfl (by kernel_rfl) (by decide) (by decide) (fun K hK => ?_) (fun K hK => ?_)
     ·skip
      refine SJ.e4 J HRL.out (by rfl) (.tmp 97) (.tmp 99) rfl rfl rfl ?_
      intro A4 c4 w10 J1
      clear J
      have J := J1
      clear J1
      refine hK.out _ _ ⟨(blk_cell J.HG 2).trans rfl, (blk_cell J.HG 1).trans rfl, (blk_cell J.HG 3).trans rfl⟩ (fun hHeld => ?_)
      clear hK K
      refine norm_ (a' := ?_) ?_ ?_
      rotate_left
      ·show Act.put _ (some 100) _ = _
       simp only [Act.put, List.setIfInBounds_toArray, List.set_cons_zero, List.set_cons_succ, i64_w, i32_w]
       rfl
      refine one_ (i := 24) (N := some 106) #[true, true, true, true, true, true, true, true, true, true, true, true, true, true, true, true, true, true, true, true, true, true, true, true, true, false, false, false, false, false, false, false, false, false, false, false, false] rfl rfl (by kernel_rfl) (by decide) (fun K hK => ?_)
      refine value_ (w1 := ?_) (v := ?_) (by rfl) rfl ?_ ?_
      rotate_left 2
      ·go_simp
       constructor
       ·rfl
       ·rfl
      have J1 := J.e5
      try simp only [alloc_heap_size] at J1
      clear J
      have J := J1
      clear J1
      refine hK.out _ _ ⟨(blk_cell J.HG 2).trans rfl, (blk_cell J.HG 1).trans rfl, (blk_cell J.HG 3).trans rfl⟩ (fun hHeld => ?_)
      clear hK K
      refine norm_ (a' := ?_) ?_ ?_
      rotate_left
      ·show Act.put _ (some 106) _ = _
       simp only [Act.put, List.setIfInBounds_toArray, List.set_cons_zero, List.set_cons_succ, i64_w, i32_w]
       rfl
      refine norm_ ?_ (hCont (_, _, _, _, _, _, _) _ ⟨⟨(blk_cell J.HG 2).trans rfl, (blk_cell J.HG 1).trans rfl, (blk_cell J.HG 3).trans rfl⟩, J⟩)
      first | (simp only [putAll, Act.put, List.setIfInBounds_toArray, List.set_cons_zero, List.set_cons_succ]; done) | (simp only [putAll, Act.put, List.setIfInBounds_toArray, List.set_cons_zero, List.set_cons_succ]; rfl)
     ·skip
      refine value_ (w1 := ?_) (v := ?_) (by rfl) rfl ?_ ?_
      rotate_left 2
      ·go_simp
       constructor
       ·rfl
       ·rfl
      have J1 := J.e5
      try simp only [alloc_heap_size] at J1
      clear J
      have J := J1
      clear J1
      refine hK.out _ _ ⟨(blk_cell J.HG 2).trans rfl, (blk_cell J.HG 1).trans rfl, (blk_cell J.HG 3).trans rfl⟩ (fun hHeld => ?_)
      clear hK K
      refine norm_ (a' := ?_) ?_ ?_
      rotate_left
      ·show Act.put _ (some 106) _ = _
       simp only [Act.put, List.setIfInBounds_toArray, List.set_cons_zero, List.set_cons_succ, i64_w, i32_w]
       rfl
      refine one_ (i := 18) (N := some 100) #[true, true, true, true, true, true, true, true, true, true, true, true, true, true, true, true, true, true, true, true, true, true, true, true, true, false, false, false, false, false, false, false, false, false, false, false, false] rfl rfl (by kernel_rfl) (by decide) (fun K hK => ?_)
      refine SJ.e4 J HRL.out (by rfl) (.tmp 97) (.tmp 99) rfl rfl rfl ?_
      intro A4 c4 w10 J1
      clear J
      have J := J1
      clear J1
      refine hK.out _ _ ⟨(blk_cell J.HG 2).trans rfl, (blk_cell J.HG 1).trans rfl, (blk_cell J.HG 3).trans rfl⟩ (fun hHeld => ?_)
      clear hK K
      refine norm_ (a' := ?_) ?_ ?_
      rotate_left
      ·show Act.put _ (some 100) _ = _
       simp only [Act.put, List.setIfInBounds_toArray, List.set_cons_zero, List.set_cons_succ, i64_w, i32_w]
       rfl
      refine norm_ ?_ (hCont (_, _, _, _, _, _, _) _ ⟨⟨(blk_cell J.HG 2).trans rfl, (blk_cell J.HG 1).trans rfl, (blk_cell J.HG 3).trans rfl⟩, J⟩)
      first | (simp only [putAll, Act.put, List.setIfInBounds_toArray, List.set_cons_zero, List.set_cons_succ]; done) | (simp only [putAll, Act.put, List.setIfInBounds_toArray, List.set_cons_zero, List.set_cons_succ]; rfl)
    ·skip
     refine value_ (w1 := ?_) (v := ?_) (by rfl) rfl ?_ ?_
     rotate_left 2
     ·go_simp
      constructor
      ·rfl
      ·rfl
     have J1 := J.e5
     try simp only [alloc_heap_size] at J1
     clear J
     have J := J1
     clear J1
     refine hK.out _ _ ⟨(blk_cell J.HG 2).trans rfl, (blk_cell J.HG 1).trans rfl, (blk_cell J.HG 3).trans rfl⟩ (fun hHeld => ?_)
     clear hK K
     refine norm_ (a' := ?_) ?_ ?_
     rotate_left
     ·show Act.put _ (some 106) _ = _
      simp only [Act.put, List.setIfInBounds_toArray, List.set_cons_zero, List.set_cons_succ, i64_w, i32_w]
      rfl
     refine one_ (i := 10) (N := some 92) #[true, true, true, true, true, true, true, true, true, true, true, true, true, true, true, true, true, true, false, true, true, true, true, true, true, false, false, false, false, false, false, false, false, false, false, false, false] rfl rfl (by kernel_rfl) (by decide) (fun K hK => ?_)
     refine SJ.e2 J HL.out (by rfl) (.tmp 89) (.tmp 91) rfl rfl rfl ?_
     intro A2 c2 w9 J1
     clear J
     have J := J1
     clear J1
     refine hK.out _ _ ⟨(blk_cell J.HG 2).trans rfl, (blk_cell J.HG 1).trans rfl, (blk_cell J.HG 3).trans rfl⟩ (fun hHeld => ?_)
     clear hK K
     refine norm_ (a' := ?_) ?_ ?_
     rotate_left
     ·show Act.put _ (some 92) _ = _
      simp only [Act.put, List.setIfInBounds_toArray, List.set_cons_zero, List.set_cons_succ, i64_w, i32_w]
      rfl
     refine one_ (i := 18) (N := some 100) #[true, true, true, true, true, true, true, true, true, true, true, true, true, true, true, true, true, true, true, true, true, true, true, true, true, false, false, false, false, false, false, false, false, false, false, false, false] rfl rfl (by kernel_rfl) (by decide) (fun K hK => ?_)
     refine SJ.e4 J HRL.out (by rfl) (.tmp 97) (.tmp 99) rfl rfl rfl ?_
     intro A4 c4 w10 J1
     clear J
     have J := J1
     clear J1
     refine hK.out _ _ ⟨(blk_cell J.HG 2).trans rfl, (blk_cell J.HG 1).trans rfl, (blk_cell J.HG 3).trans rfl⟩ (fun hHeld => ?_)
     clear hK K
     refine norm_ (a' := ?_) ?_ ?_
     rotate_left
     ·show Act.put _ (some 100) _ = _
      simp only [Act.put, List.setIfInBounds_toArray, List.set_cons_zero, List.set_cons_succ, i64_w, i32_w]
      rfl
     refine norm_ ?_ (hCont (_, _, _, _, _, _, _) _ ⟨⟨(blk_cell J.HG 2).trans rfl, (blk_cell J.HG 1).trans rfl, (blk_cell J.HG 3).trans rfl⟩, J⟩)
     first | (simp only [putAll, Act.put, List.setIfInBounds_toArray, List.set_cons_zero, List.set_cons_succ]; done) | (simp only [putAll, Act.put, List.setIfInBounds_toArray, List.set_cons_zero, List.set_cons_succ]; rfl)
   ·skip
    refine value_ (w1 := ?_) (v := ?_) (by rfl) rfl ?_ ?_
    rotate_left 2
    ·go_simp
     constructor
     ·rfl
     ·rfl
    have J1 := J.e5
    try simp only [alloc_heap_size] at J1
    clear J
    have J := J1
    clear J1
    refine hK.out _ _ ⟨(blk_cell J.HG 2).trans rfl, (blk_cell J.HG 1).trans rfl, (blk_cell J.HG 3).trans rfl⟩ (fun hHeld => ?_)
    clear hK K
    refine norm_ (a' := ?_) ?_ ?_
    rotate_left
    ·show Act.put _ (some 106) _ = _
     simp only [Act.put, List.setIfInBounds_toArray, List.set_cons_zero, List.set_cons_succ, i64_w, i32_w]
     rfl
    refine two_ (i := 10) (j := 17) (Ni := some 92) (Nj := some 99) #[true, true, true, true, true, true, true, true, true, true, true, true, true, true, true, true, true, false, false, true, true, true, true, true, true, false, false, false, false, false, false, false, false, false, false, false, false] #[true, true, true, true, true, true, true, true, true, true, false, true, true, true, true, true, true, true, false, true, true, true, true, true, true, false, false, false, false, false, false, false, false, false, false, false, false] rfl rfl rfl rfl (by kernel_rfl) (by decide) (by decide) (fun K hK => ?_) (fun K hK => ?_)
    ·skip
     refine SJ.e2 J HL.out (by rfl) (.tmp 89) (.tmp 91) rfl rfl rfl ?_
     intro A2 c2 w9 J1
     clear J
     have J := J1
     clear J1
     refine hK.out _ _ ⟨(blk_cell J.HG 2).trans rfl, (blk_cell J.HG 1).trans rfl, (blk_cell J.HG 3).trans rfl⟩ (fun hHeld => ?_)
     clear hK K
     refine norm_ (a' := ?_) ?_ ?_
     rotate_left
     ·show Act.put _ (some 92) _ = _
      simp only [Act.put, List.setIfInBounds_toArray, List.set_cons_zero, List.set_cons_succ, i64_w, i32_w]
      rfl
     refine one_ (i := 17) (N := some 99) #[true, true, true, true, true, true, true, true, true, true, true, true, true, true, true, true, true, true, false, true, true, true, true, true, true, false, false, false, false, false, false, false, false, false, false, false, false] rfl rfl (by kernel_rfl) (by decide) (fun K hK => ?_)
     refine value_ (w1 := ?_) (v := ?_) (by rfl) rfl ?_ ?_
     rotate_left 2
     ·go_simp
      constructor
      ·rfl
      ·rfl
     have J1 := J.e3
     try simp only [alloc_heap_size] at J1
     clear J
     have J := J1
     clear J1
     refine hK.out _ _ ⟨(blk_cell J.HG 2).trans rfl, (blk_cell J.HG 1).trans rfl, (blk_cell J.HG 3).trans rfl⟩ (fun hHeld => ?_)
     clear hK K
     refine norm_ (a' := ?_) ?_ ?_
     rotate_left
     ·show Act.put _ (some 99) _ = _
      simp only [Act.put, List.setIfInBounds_toArray, List.set_cons_zero, List.set_cons_succ, i64_w, i32_w]
      rfl
     refine one_ (i := 18) (N := some 100) #[true, true, true, true, true, true, true, true, true, true, true, true, true, true, true, true, true, true, true, true, true, true, true, true, true, false, false, false, false, false, false, false, false, false, false, false, false] rfl rfl (by kernel_rfl) (by decide) (fun K hK => ?_)
     refine SJ.e4 J HRL.out (by rfl) (.tmp 97) (.tmp 99) rfl rfl rfl ?_
     intro A4 c4 w10 J1
     clear J
     have J := J1
     clear J1
     refine hK.out _ _ ⟨(blk_cell J.HG 2).trans rfl, (blk_cell J.HG 1).trans rfl, (blk_cell J.HG 3).trans rfl⟩ (fun hHeld => ?_)
     clear hK K
     refine norm_ (a' := ?_) ?_ ?_
     rotate_left
     ·show Act.put _ (some 100) _ = _
      simp only [Act.put, List.setIfInBounds_toArray, List.set_cons_zero, List.set_cons_succ, i64_w, i32_w]
      rfl
     refine norm_ ?_ (hCont (_, _, _, _, _, _, _) _ ⟨⟨(blk_cell J.HG 2).trans rfl, (blk_cell J.HG 1).trans rfl, (blk_cell J.HG 3).trans rfl⟩, J⟩)
     first | (simp only [putAll, Act.put, List.setIfInBounds_toArray, List.set_cons_zero, List.set_cons_succ]; done) | (simp only [putAll, Act.put, List.setIfInBounds_toArray, List.set_cons_zero, List.set_cons_succ]; rfl)
    ·skip
     refine value_ (w1 := ?_) (v := ?_) (by rfl) rfl ?_ ?_
     rotate_left 2
     ·go_simp
      constructor
      ·rfl
      ·rfl
     have J1 := J.e3
     try simp only [alloc_heap_size] at J1
     clear J
     have J := J1
     clear J1
     refine hK.out _ _ ⟨(blk_cell J.HG 2).trans rfl, (blk_cell J.HG 1).trans rfl, (blk_cell J.HG 3).trans rfl⟩ (fun hHeld => ?_)
     clear hK K
     refine norm_ (a' := ?_) ?_ ?_
     rotate_left
     ·show Act.put _ (some 99) _ = _
      simp only [Act.put, List.setIfInBounds_toArray, List.set_cons_zero, List.set_cons_succ, i64_w, i32_w]
      rfl
     refine one_ (i := 10) (N := some 92) #[true, true, true, true, true, true, true, true, true, true, true, true, true, true, true, true, true, true, false, true, true, true, true, true, true, false, false, false, false, false, false, false, false, false, false, false, false] rfl rfl (by kernel_rfl) (by decide) (fun K hK => ?_)
     refine SJ.e2 J HL.out (by rfl) (.tmp 89) (.tmp 91) rfl rfl rfl ?_
     intro A2 c2 w9 J1
     clear J
     have J := J1
     clear J1
     refine hK.out _ _ ⟨(blk_cell J.HG 2).trans rfl, (blk_cell J.HG 1).trans rfl, (blk_cell J.HG 3).trans rfl⟩ (fun hHeld => ?_)
     clear hK K
     refine norm_ (a' := ?_) ?_ ?_
     rotate_left
     ·show Act.put _ (some 92) _ = _
      simp only [Act.put, List.setIfInBounds_toArray, List.set_cons_zero, List.set_cons_succ, i64_w, i32_w]
      rfl
     refine one_ (i := 18) (N := some 100) #[true, true, true, true, true, true, true, true, true, true, true, true, true, true, true, true, true, true, true, true, true, true, true, true, true, false, false, false, false, false, false, false, false, false, false, false, false] rfl rfl (by kernel_rfl) (by decide) (fun K hK => ?_)
     refine SJ.e4 J HRL.out (by rfl) (.tmp 97) (.tmp 99) rfl rfl rfl ?_
     intro A4 c4 w10 J1
     clear J
     have J := J1
     clear J1
     refine hK.out _ _ ⟨(blk_cell J.HG 2).trans rfl, (blk_cell J.HG 1).trans rfl, (blk_cell J.HG 3).trans rfl⟩ (fun hHeld => ?_)
     clear hK K
     refine norm_ (a' := ?_) ?_ ?_
     rotate_left
     ·show Act.put _ (some 100) _ = _
      simp only [Act.put, List.setIfInBounds_toArray, List.set_cons_zero, List.set_cons_succ, i64_w, i32_w]
      rfl
     refine norm_ ?_ (hCont (_, _, _, _, _, _, _) _ ⟨⟨(blk_cell J.HG 2).trans rfl, (blk_cell J.HG 1).trans rfl, (blk_cell J.HG 3).trans rfl⟩, J⟩)
     first | (simp only [putAll, Act.put, List.setIfInBounds_toArray, List.set_cons_zero, List.set_cons_succ]; done) | (simp only [putAll, Act.put, List.setIfInBounds_toArray, List.set_cons_zero, List.set_cons_succ]; rfl)
  ·skip
   refine value_ (w1 := ?_) (v := ?_) (by rfl) rfl ?_ ?_
   rotate_left 2
   ·go_simp
    constructor
    ·rfl
    ·rfl
   have J1 := J.e3
   try simp only [alloc_heap_size] at J1
   clear J
   have J := J1
   clear J1
   refine hK.out _ _ ⟨(blk_cell J.HG 2).trans rfl, (blk_cell J.HG 1).trans rfl, (blk_cell J.HG 3).trans rfl⟩ (fun hHeld => ?_)
   clear hK K
   refine norm_ (a' := ?_) ?_ ?_
   rotate_left
   ·show Act.put _ (some 99) _ = _
    simp only [Act.put, List.setIfInBounds_toArray, List.set_cons_zero, List.set_cons_succ, i64_w, i32_w]
    rfl
   refine two_ (i := 9) (j := 24) (Ni := some 91) (Nj := some 106) #[true, true, true, true, true, true, true, true, true, true, false, true, true, true, true, true, true, true, false, true, true, true, true, true, false, false, false, false, false, false, false, false, false, false, false, false, false] #[true, true, true, true, true, true, true, true, true, false, false, true, true, true, true, true, true, true, false, true, true, true, true, true, true, false, false, false, false, false, false, false, false, false, false, false, false] rfl rfl rfl rfl (by kernel_rfl) (by decide) (by decide) (fun K hK => ?_) (fun K hK => ?_)
   ·skip
    refine value_ (w1 := ?_) (v := ?_) (by rfl) rfl ?_ ?_
    rotate_left 2
    ·go_simp
     constructor
     ·rfl
     ·rfl
    have J1 := J.e1
    try simp only [alloc_heap_size] at J1
    clear J
    have J := J1
    clear J1
    refine hK.out _ _ ⟨(blk_cell J.HG 2).trans rfl, (blk_cell J.HG 1).trans rfl, (blk_cell J.HG 3).trans rfl⟩ (fun hHeld => ?_)
    clear hK K
    refine norm_ (a' := ?_) ?_ ?_
    rotate_left
    ·show Act.put _ (some 91) _ = _
     simp only [Act.put, List.setIfInBounds_toArray, List.set_cons_zero, List.set_cons_succ, i64_w, i32_w]
     rfl
    refine two_ (i := 10) (j := 24) (Ni := some 92) (Nj := some 106) #[true, true, true, true, true, true, true, true, true, true, true, true, true, true, true, true, true, true, false, true, true, true, true, true, false, false, false, false, false, false, false, false, false, false, false, false, false] #[true, true, true, true, true, true, true, true, true, true, false, true, true, true, true, true, true, true, false, true, true, true, true, true, true, false, false, false, false, false, false, false, false, false, false, false, false] rfl rfl rfl rfl (by kernel_rfl) (by decide) (by decide) (fun K hK => ?_) (fun K hK => ?_)
    ·skip
     refine SJ.e2 J HL.out (by rfl) (.tmp 89) (.tmp 91) rfl rfl rfl ?_
     intro A2 c2 w9 J1
     clear J
     have J := J1
     clear J1
     refine hK.out _ _ ⟨(blk_cell J.HG 2).trans rfl, (blk_cell J.HG 1).trans rfl, (blk_cell J.HG 3).trans rfl⟩ (fun hHeld => ?_)
     clear hK K
     refine norm_ (a' := ?_) ?_ ?_
     rotate_left
     ·show Act.put _ (some 92) _ = _
      simp only [Act.put, List.setIfInBounds_toArray, List.set_cons_zero, List.set_cons_succ, i64_w, i32_w]
      rfl
     refine two_ (i := 18) (j := 24) (Ni := some 100) (Nj := some 106) #[true, true, true, true, true, true, true, true, true, true, true, true, true, true, true, true, true, true, true, true, true, true, true, true, false, false, false, false, false, false, false, false, false, false, false, false, false] #[true, true, true, true, true, true, true, true, true, true, true, true, true, true, true, true, true, true, false, true, true, true, true, true, true, false, false, false, false, false, false, false, false, false, false, false, false] rfl rfl rfl rfl (by kernel_rfl) (by decide) (by decide) (fun K hK => ?_) (fun K hK => ?_)
     ·skip
      refine SJ.e4 J HRL.out (by rfl) (.tmp 97) (.tmp 99) rfl rfl rfl ?_
      intro A4 c4 w10 J1
      clear J
      have J := J1
      clear J1
      refine hK.out _ _ ⟨(blk_cell J.HG 2).trans rfl, (blk_cell J.HG 1).trans rfl, (blk_cell J.HG 3).trans rfl⟩ (fun hHeld => ?_)
      clear hK K
      refine norm_ (a' := ?_) ?_ ?_
      rotate_left
      ·show Act.put _ (some 100) _ = _
       simp only [Act.put, List.setIfInBounds_toArray, List.set_cons_zero, List.set_cons_succ, i64_w, i32_w]
       rfl
      refine one_ (i := 24) (N := some 106) #[true, true, true, true, true, true, true, true, true, true, true, true, true, true, true, true, true, true, true, true, true, true, true, true, true, false, false, false, false, false, false, false, false, false, false, false, false] rfl rfl (by kernel_rfl) (by decide) (fun K hK => ?_)
      refine value_ (w1 := ?_) (v := ?_) (by rfl) rfl ?_ ?_
      rotate_left 2
      ·go_simp
       constructor
       ·rfl
       ·rfl
      have J1 := J.e5
      try simp only [alloc_heap_size] at J1
      clear J
      have J := J1
      clear J1
      refine hK.out _ _ ⟨(blk_cell J.HG 2).trans rfl, (blk_cell J.HG 1).trans rfl, (blk_cell J.HG 3).trans rfl⟩ (fun hHeld => ?_)
      clear hK K
      refine norm_ (a' := ?_) ?_ ?_
      rotate_left
      ·show Act.put _ (some 106) _ = _
       simp only [Act.put, List.setIfInBounds_toArray, List.set_cons_zero, List.set_cons_succ, i64_w, i32_w]
       rfl
      refine norm_ ?_ (hCont (_, _, _, _, _, _, _) _ ⟨⟨(blk_cell J.HG 2).trans rfl, (blk_cell J.HG 1).trans rfl, (blk_cell J.HG 3).trans rfl⟩, J⟩)
      first | (simp only [putAll, Act.put, List.setIfInBounds_toArray, List.set_cons_zero, List.set_cons_succ]; done) | (simp only [putAll, Act.put, List.setIfInBounds_toArray, List.set_cons_zero, List.set_cons_succ]; rfl)
     ·skip
      refine value_ (w1 := ?_) (v := ?_) (by rfl) rfl ?_ ?_
      rotate_left 2
      ·go_simp
       constructor
       ·rfl
       ·rfl
      have J1 := J.e5
      try simp only [alloc_heap_size] at J1
      clear J
      have J := J1
      clear J1
      refine hK.out _ _ ⟨(blk_cell J.HG 2).trans rfl, (blk_cell J.HG 1).trans rfl, (blk_cell J.HG 3).trans rfl⟩ (fun hHeld => ?_)
      clear hK K
      refine norm_ (a' := ?_) ?_ ?_
      rotate_left
      ·show Act.put _ (some 106) _ = _
       simp only [Act.put, List.setIfInBounds_toArray, List.set_cons_zero, List.set_cons_succ, i64_w, i32_w]
       rfl
      refine one_ (i := 18) (N := some 100) #[true, true, true, true, true, true, true, true, true, true, true, true, true, true, true, true, true, true, true, true, true, true, true, true, true, false, false, false, false, false, false, false, false, false, false, false, false] rfl rfl (by kernel_rfl) (by decide) (fun K hK => ?_)
      refine SJ.e4 J HRL.out (by rfl) (.tmp 97) (.tmp 99) rfl rfl rfl ?_
      intro A4 c4 w10 J1
      clear J
      have J := J1
      clear J1
      refine hK.out _ _ ⟨(blk_cell J.HG 2).trans rfl, (blk_cell J.HG 1).trans rfl, (blk_cell J.HG 3).trans rfl⟩ (fun hHeld => ?_)
      clear hK K
      refine norm_ (a' := ?_) ?_ ?_
      rotate_left
      ·show Act.put _ (some 100) _ = _
       simp only [Act.put, List.setIfInBounds_toArray, List.set_cons_zero, List.set_cons_succ, i64_w, i32_w]
       rfl
      refine norm_ ?_ (hCont (_, _, _, _, _, _, _) _ ⟨⟨(blk_cell J.HG 2).trans rfl, (blk_cell J.HG 1).trans rfl, (blk_cell J.HG 3).trans rfl⟩, J⟩)
      first | (simp only [putAll, Act.put, List.setIfInBounds_toArray, List.set_cons_zero, List.set_cons_succ]; done) | (simp only [putAll, Act.put, List.setIfInBounds_toArray, List.set_cons_zero, List.set_cons_succ]; rfl)
    ·skip
     refine value_ (w1 := ?_) (v := ?_) (by rfl) rfl ?_ ?_
     rotate_left 2
     ·go_simp
      constructor
      ·rfl
      ·rfl
     have J1 := J.e5
     try simp only [alloc_heap_size] at J1
     clear J
     have J := J1
     clear J1
     refine hK.out _ _ ⟨(blk_cell J.HG 2).trans rfl, (blk_cell J.HG 1).trans rfl, (blk_cell J.HG 3).trans rfl⟩ (fun hHeld => ?_)
     clear hK K
     refine norm_ (a' := ?_) ?_ ?_
     rotate_left
     ·show Act.put _ (some 106) _ = _
      simp only [Act.put, List.setIfInBounds_toArray, List.set_cons_zero, List.set_cons_succ, i64_w, i32_w]
      rfl
     refine one_ (i := 10) (N := some 92) #[true, true, true, true, true, true, true, true, true, true, true, true, true, true, true, true, true, true, false, true, true, true, true, true, true, false, false, false, false, false, false, false, false, false, false, false, false] rfl rfl (by kernel_rfl) (by decide) (fun K hK => ?_)
     refine SJ.e2 J HL.out (by rfl) (.tmp 89) (.tmp 91) rfl rfl rfl ?_
     intro A2 c2 w9 J1
     clear J
     have J := J1
     clear J1
     refine hK.out _ _ ⟨(blk_cell J.HG 2).trans rfl, (blk_cell J.HG 1).trans rfl, (blk_cell J.HG 3).trans rfl⟩ (fun hHeld => ?_)
     clear hK K
     refine norm_ (a' := ?_) ?_ ?_
     rotate_left
     ·show Act.put _ (some 92) _ = _
      simp only [Act.put, List.setIfInBounds_toArray, List.set_cons_zero, List.set_cons_succ, i64_w, i32_w]
      rfl
     refine one_ (i := 18) (N := some 100) #[true, true, true, true, true, true, true, true, true, true, true, true, true, true, true, true, true, true, true, true, true, true, true, true, true, false, false, false, false, false, false, false, false, false, false, false, false] rfl rfl (by kernel_rfl) (by decide) (fun K hK => ?_)
     refine SJ.e4 J HRL.out (by rfl) (.tmp 97) (.tmp 99) rfl rfl rfl ?_
     intro A4 c4 w10 J1
     clear J
     have J := J1
     clear J1
     refine hK.out _ _ ⟨(blk_cell J.HG 2).trans rfl, (blk_cell J.HG 1).trans rfl, (blk_cell J.HG 3).trans rfl⟩ (fun hHeld => ?_)
     clear hK K
     refine norm_ (a' := ?_) ?_ ?_
     rotate_left
     ·show Act.put _ (some 100) _ = _
      simp only [Act.put, List.setIfInBounds_toArray, List.set_cons_zero, List.set_cons_succ, i64_w, i32_w]
      rfl
     refine norm_ ?_ (hCont (_, _, _, _, _, _, _) _ ⟨⟨(blk_cell J.HG 2).trans rfl, (blk_cell J.HG 1).trans rfl, (blk_cell J.HG 3).trans rfl⟩, J⟩)
     first | (simp only [putAll, Act.put, List.setIfInBounds_toArray, List.set_cons_zero, List.set_cons_succ]; done) | (simp only [putAll, Act.put, List.setIfInBounds_toArray, List.set_cons_zero, List.set_cons_succ]; rfl)
   ·skip
    refine value_ (w1 := ?_) (v := ?_) (by rfl) rfl ?_ ?_
    rotate_left 2
    ·go_simp
     constructor
     ·rfl
     ·rfl
    have J1 := J.e5
    try simp only [alloc_heap_size] at J1
    clear J
    have J := J1
    clear J1
    refine hK.out _ _ ⟨(blk_cell J.HG 2).trans rfl, (blk_cell J.HG 1).trans rfl, (blk_cell J.HG 3).trans rfl⟩ (fun hHeld => ?_)
    clear hK K
    refine norm_ (a' := ?_) ?_ ?_
    rotate_left
    ·show Act.put _ (some 106) _ = _
     simp only [Act.put, List.setIfInBounds_toArray, List.set_cons_zero, List.set_cons_succ, i64_w, i32_w]
     rfl
    refine one_ (i := 9) (N := some 91) #[true, true, true, true, true, true, true, true, true, true, false, true, true, true, true, true, true, true, false, true, true, true, true, true, true, false, false, false, false, false, false, false, false, false, false, false, false] rfl rfl (by kernel_rfl) (by decide) (fun K hK => ?_)
    refine value_ (w1 := ?_) (v := ?_) (by rfl) rfl ?_ ?_
    rotate_left 2
    ·go_simp
     constructor
     ·rfl
     ·rfl
    have J1 := J.e1
    try simp only [alloc_heap_size] at J1
    clear J
    have J := J1
    clear J1
    refine hK.out _ _ ⟨(blk_cell J.HG 2).trans rfl, (blk_cell J.HG 1).trans rfl, (blk_cell J.HG 3).trans rfl⟩ (fun hHeld => ?_)
    clear hK K
    refine norm_ (a' := ?_) ?_ ?_
    rotate_left
    ·show Act.put _ (some 91) _ = _
     simp only [Act.put, List.setIfInBounds_toArray, List.set_cons_zero, List.set_cons_succ, i64_w, i32_w]
     rfl
    refine one_ (i := 10) (N := some 92) #[true, true, true, true, true, true, true, true, true, true, true, true, true, true, true, true, true, true, false, true, true, true, true, true, true, false, false, false, false, false, false, false, false, false, false, false, false] rfl rfl (by kernel_rfl) (by decide) (fun K hK => ?_)
    refine SJ.e2 J HL.out (by rfl) (.tmp 89) (.tmp 91) rfl rfl rfl ?_
    intro A2 c2 w9 J1
    clear J
    have J := J1
    clear J1
    refine hK.out _ _ ⟨(blk_cell J.HG 2).trans rfl, (blk_cell J.HG 1).trans rfl, (blk_cell J.HG 3).trans rfl⟩ (fun hHeld => ?_)
    clear hK K
    refine norm_ (a' := ?_) ?_ ?_
    rotate_left
    ·show Act.put _ (some 92) _ = _
     simp only [Act.put, List.setIfInBounds_toArray, List.set_cons_zero, List.set_cons_succ, i64_w, i32_w]
     rfl
    refine one_ (i := 18) (N := some 100) #[true, true, true, true, true, true, true, true, true, true, true, true, true, true, true, true, true, true, true, true, true, true, true, true, true, false, false, false, false, false, false, false, false, false, false, false, false] rfl rfl (by kernel_rfl) (by decide) (fun K hK => ?_)
    refine SJ.e4 J HRL.out (by rfl) (.tmp 97) (.tmp 99) rfl rfl rfl ?_
    intro A4 c4 w10 J1
    clear J
    have J := J1
    clear J1
    refine hK.out _ _ ⟨(blk_cell J.HG 2).trans rfl, (blk_cell J.HG 1).trans rfl, (blk_cell J.HG 3).trans rfl⟩ (fun hHeld => ?_)
    clear hK K
    refine norm_ (a' := ?_) ?_ ?_
    rotate_left
    ·show Act.put _ (some 100) _ = _
     simp only [Act.put, List.setIfInBounds_toArray, List.set_cons_zero, List.set_cons_succ, i64_w, i32_w]
     rfl
    refine norm_ ?_ (hCont (_, _, _, _, _, _, _) _ ⟨⟨(blk_cell J.HG 2).trans rfl, (blk_cell J.HG 1).trans rfl, (blk_cell J.HG 3).trans rfl⟩, J⟩)
    first | (simp only [putAll, Act.put, List.setIfInBounds_toArray, List.set_cons_zero, List.set_cons_succ]; done) | (simp only [putAll, Act.put, List.setIfInBounds_toArray, List.set_cons_zero, List.set_cons_succ]; rfl)
  ·skip
   refine value_ (w1 := ?_) (v := ?_) (by rfl) rfl ?_ ?_
   rotate_left 2
   ·go_simp
    constructor
    ·rfl
    ·rfl
   have J1 := J.e5
   try simp only [alloc_heap_size] at J1
   clear J
   have J := J1
   clear J1
   refine hK.out _ _ ⟨(blk_cell J.HG 2).trans rfl, (blk_cell J.HG 1).trans rfl, (blk_cell J.HG 3).trans rfl⟩ (fun hHeld => ?_)
   clear hK K
   refine norm_ (a' := ?_) ?_ ?_
   rotate_left
   ·show Act.put _ (some 106) _ = _
    simp only [Act.put, List.setIfInBounds_toArray, List.set_cons_zero, List.set_cons_succ, i64_w, i32_w]
    rfl
   refine two_ (i := 9) (j := 17) (Ni := some 91) (Nj := some 99) #[true, true, true, true, true, true, true, true, true, true, false, true, true, true, true, true, true, false, false, true, true, true, true, true, true, false, false, false, false, false, false, false, false, false, false, false, false] #[true, true, true, true, true, true, true, true, true, false, false, true, true, true, true, true, true, true, false, true, true, true, true, true, true, false, false, false, false, false, false, false, false, false, false, false, false] rfl rfl rfl rfl (by kernel_rfl) (by decide) (by decide) (fun K hK => ?_) (fun K hK => ?_)
   ·skip
    refine value_ (w1 := ?_) (v := ?_) (by rfl) rfl ?_ ?_
    rotate_left 2
    ·go_simp
     constructor
     ·rfl
     ·rfl
    have J1 := J.e1
    try simp only [alloc_heap_size] at J1
    clear J
    have J := J1
    clear J1
    refine hK.out _ _ ⟨(blk_cell J.HG 2).trans rfl, (blk_cell J.HG 1).trans rfl, (blk_cell J.HG 3).trans rfl⟩ (fun hHeld => ?_)
    clear hK K
    refine norm_ (a' := ?_) ?_ ?_
    rotate_left
    ·show Act.put _ (some 91) _ = _
     simp only [Act.put, List.setIfInBounds_toArray, List.set_cons_zero, List.set_cons_succ, i64_w, i32_w]
     rfl
    refine two_ (i := 10) (j := 17) (Ni := some 92) (Nj := some 99) #[true, true, true, true, true, true, true, true, true, true, true, true, true, true, true, true, true, false, false, true, true, true, true, true, true, false, false, false, false, false, false, false, false, false, false, false, false] #[true, true, true, true, true, true, true, true, true, true, false, true, true, true, true, true, true, true, false, true, true, true, true, true, true, false, false, false, false, false, false, false, false, false, false, false, false] rfl rfl rfl rfl (by kernel_rfl) (by decide) (by decide) (fun K hK => ?_) (fun K hK => ?_)
    ·skip
     refine SJ.e2 J HL.out (by rfl) (.tmp 89) (.tmp 91) rfl rfl rfl ?_
     intro A2 c2 w9 J1
     clear J
     have J := J1
     clear J1
     refine hK.out _ _ ⟨(blk_cell J.HG 2).trans rfl, (blk_cell J.HG 1).trans rfl, (blk_cell J.HG 3).trans rfl⟩ (fun hHeld => ?_)
     clear hK K
     refine norm_ (a' := ?_) ?_ ?_
     rotate_left
     ·show Act.put _ (some 92) _ = _
      simp only [Act.put, List.setIfInBounds_toArray, List.set_cons_zero, List.set_cons_succ, i64_w, i32_w]
      rfl
     refine one_ (i := 17) (N := some 99) #[true, true, true, true, true, true, true, true, true, true, true, true, true, true, true, true, true, true, false, true, true, true, true, true, true, false, false, false, false, false, false, false, false, false, false, false, false] rfl rfl (by kernel_rfl) (by decide) (fun K hK => ?_)
     refine value_ (w1 := ?_) (v := ?_) (by rfl) rfl ?_ ?_
     rotate_left 2
     ·go_simp
      constructor
      ·rfl
      ·rfl
     have J1 := J.e3
     try simp only [alloc_heap_size] at J1
     clear J
     have J := J1
     clear J1
     refine hK.out _ _ ⟨(blk_cell J.HG 2).trans rfl, (blk_cell J.HG 1).trans rfl, (blk_cell J.HG 3).trans rfl⟩ (fun hHeld => ?_)
     clear hK K
     refine norm_ (a' := ?_) ?_ ?_
     rotate_left
     ·show Act.put _ (some 99) _ = _
      simp only [Act.put, List.setIfInBounds_toArray, List.set_cons_zero, List.set_cons_succ, i64_w, i32_w]
      rfl
     refine one_ (i := 18) (N := some 100) #[true, true, true, true, true, true, true, true, true, true, true, true, true, true, true, true, true, true, true, true, true, true, true, true, true, false, false, false, false, false, false, false, false, false, false, false, false] rfl rfl (by kernel_rfl) (by decide) (fun K hK => ?_)
     refine SJ.e4 J HRL.out (by rfl) (.tmp 97) (.tmp 99) rfl rfl rfl ?_
     intro A4 c4 w10 J1
     clear J
     have J := J1
     clear J1
     refine hK.out _ _ ⟨(blk_cell J.HG 2).trans rfl, (blk_cell J.HG 1).trans rfl, (blk_cell J.HG 3).trans rfl⟩ (fun hHeld => ?_)
     clear hK K
     refine norm_ (a' := ?_) ?_ ?_
     rotate_left
     ·show Act.put _ (some 100) _ = _
      simp only [Act.put, List.setIfInBounds_toArray, List.set_cons_zero, List.set_cons_succ, i64_w, i32_w]
      rfl
     refine norm_ ?_ (hCont (_, _, _, _, _, _, _) _ ⟨⟨(blk_cell J.HG 2).trans rfl, (blk_cell J.HG 1).trans rfl, (blk_cell J.HG 3).trans rfl⟩, J⟩)
     first | (simp only [putAll, Act.put, List.setIfInBounds_toArray, List.set_cons_zero, List.set_cons_succ]; done) | (simp only [putAll, Act.put, List.setIfInBounds_toArray, List.set_cons_zero, List.set_cons_succ]; rfl)
    ·skip
     refine value_ (w1 := ?_) (v := ?_) (by rfl) rfl ?_ ?_
     rotate_left 2
     ·go_simp
      constructor
      ·rfl
      ·rfl
     have J1 := J.e3
     try simp only [alloc_heap_size] at J1
     clear J
     have J := J1
     clear J1
     refine hK.out _ _ ⟨(blk_cell J.HG 2).trans rfl, (blk_cell J.HG 1).trans rfl, (blk_cell J.HG 3).trans rfl⟩ (fun hHeld => ?_)
     clear hK K
     refine norm_ (a' := ?_) ?_ ?_
     rotate_left
     ·show Act.put _ (some 99) _ = _
      simp only [Act.put, List.setIfInBounds_toArray, List.set_cons_zero, List.set_cons_succ, i64_w, i32_w]
      rfl
     refine one_ (i := 10) (N := some 92) #[true, true, true, true, true, true, true, true, true, true, true, true, true, true, true, true, true, true, false, true, true, true, true, true, true, false, false, false, false, false, false, false, false, false, false, false, false] rfl rfl (by kernel_rfl) (by decide) (fun K hK => ?_)
     refine SJ.e2 J HL.out (by rfl) (.tmp 89) (.tmp 91) rfl rfl rfl ?_
     intro A2 c2 w9 J1
     clear J
     have J := J1
     clear J1
     refine hK.out _ _ ⟨(blk_cell J.HG 2).trans rfl, (blk_cell J.HG 1).trans rfl, (blk_cell J.HG 3).trans rfl⟩ (fun hHeld => ?_)
     clear hK K
     refine norm_ (a' := ?_) ?_ ?_
     rotate_left
     ·show Act.put _ (some 92) _ = _
      simp only [Act.put, List.setIfInBounds_toArray, List.set_cons_zero, List.set_cons_succ, i64_w, i32_w]
      rfl
     refine one_ (i := 18) (N := some 100) #[true, true, true, true, true, true, true, true, true, true, true, true, true, true, true, true, true, true, true, true, true, true, true, true, true, false, false, false, false, false, false, false, false, false, false, false, false] rfl rfl (by kernel_rfl) (by decide) (fun K hK => ?_)
     refine SJ.e4 J HRL.out (by rfl) (.tmp 97) (.tmp 99) rfl rfl rfl ?_
     intro A4 c4 w10 J1
     clear J
     have J := J1
     clear J1
     refine hK.out _ _ ⟨(blk_cell J.HG 2).trans rfl, (blk_cell J.HG 1).trans rfl, (blk_cell J.HG 3).trans rfl⟩ (fun hHeld => ?_)
     clear hK K
     refine norm_ (a' := ?_) ?_ ?_
     rotate_left
     ·show Act.put _ (some 100) _ = _
      simp only [Act.put, List.setIfInBounds_toArray, List.set_cons_zero, List.set_cons_succ, i64_w, i32_w]
      rfl
     refine norm_ ?_ (hCont (_, _, _, _, _, _, _) _ ⟨⟨(blk_cell J.HG 2).trans rfl, (blk_cell J.HG 1).trans rfl, (blk_cell J.HG 3).trans rfl⟩, J⟩)
     first | (simp only [putAll, Act.put, List.setIfInBounds_toArray, List.set_cons_zero, List.set_cons_succ]; done) | (simp only [putAll, Act.put, List.setIfInBounds_toArray, List.set_cons_zero, List.set_cons_succ]; rfl)
   ·skip
    refine value_ (w1 := ?_) (v := ?_) (by rfl) rfl ?_ ?_
    rotate_left 2
    ·go_simp
     constructor
     ·rfl
     ·rfl
    have J1 := J.e3
    try simp only [alloc_heap_size] at J1
    clear J
    have J := J1
    clear J1
    refine hK.out _ _ ⟨(blk_cell J.HG 2).trans rfl, (blk_cell J.HG 1).trans rfl, (blk_cell J.HG 3).trans rfl⟩ (fun hHeld => ?_)
    clear hK K
    refine norm_ (a' := ?_) ?_ ?_
    rotate_left
    ·show Act.put _ (some 99) _ = _
     simp only [Act.put, List.setIfInBounds_toArray, List.set_cons_zero, List.set_cons_succ, i64_w, i32_w]
     rfl
    refine one_ (i := 9) (N := some 91) #[true, true, true, true, true, true, true, true, true, true, false, true, true, true, true, true, true, true, false, true, true, true, true, true, true, false, false, false, false, false, false, false, false, false, false, false, false] rfl rfl (by kernel_rfl) (by decide) (fun K hK => ?_)
    refine value_ (w1 := ?_) (v := ?_) (by rfl) rfl ?_ ?_
    rotate_left 2
    ·go_simp
     constructor
     ·rfl
     ·rfl
    have J1 := J.e1
    try simp only [alloc_heap_size] at J1
    clear J
    have J := J1
    clear J1
    refine hK.out _ _ ⟨(blk_cell J.HG 2).trans rfl, (blk_cell J.HG 1).trans rfl, (blk_cell J.HG 3).trans rfl⟩ (fun hHeld => ?_)
    clear hK K
    refine norm_ (a' := ?_) ?_ ?_
    rotate_left
    ·show Act.put _ (some 91) _ = _
     simp only [Act.put, List.setIfInBounds_toArray, List.set_cons_zero, List.set_cons_succ, i64_w, i32_w]
     rfl
    refine one_ (i := 10) (N := some 92) #[true, true, true, true, true, true, true, true, true, true, true, true, true, true, true, true, true, true, false, true, true, true, true, true, true, false, false, false, false, false, false, false, false, false, false, false, false] rfl rfl (by kernel_rfl) (by decide) (fun K hK => ?_)
    refine SJ.e2 J HL.out (by rfl) (.tmp 89) (.tmp 91) rfl rfl rfl ?_
    intro A2 c2 w9 J1
    clear J
    have J := J1
    clear J1
    refine hK.out _ _ ⟨(blk_cell J.HG 2).trans rfl, (blk_cell J.HG 1).trans rfl, (blk_cell J.HG 3).trans rfl⟩ (fun hHeld => ?_)
    clear hK K
    refine norm_ (a' := ?_) ?_ ?_
    rotate_left
    ·show Act.put _ (some 92) _ = _
     simp only [Act.put, List.setIfInBounds_toArray, List.set_cons_zero, List.set_cons_succ, i64_w, i32_w]
     rfl
    refine one_ (i := 18) (N := some 100) #[true, true, true, true, true, true, true, true, true, true, true, true, true, true, true, true, true, true, true, true, true, true, true, true, true, false, false, false, false, false, false, false, false, false, false, false, false] rfl rfl (by kernel_rfl) (by decide) (fun K hK => ?_)
    refine SJ.e4 J HRL.out (by rfl) (.tmp 97) (.tmp 99) rfl rfl rfl ?_
    intro A4 c4 w10 J1
    clear J
    have J := J1
    clear J1
    refine hK.out _ _ ⟨(blk_cell J.HG 2).trans rfl, (blk_cell J.HG 1).trans rfl, (blk_cell J.HG 3).trans rfl⟩ (fun hHeld => ?_)
    clear hK K
    refine norm_ (a' := ?_) ?_ ?_
    rotate_left
    ·show Act.put _ (some 100) _ = _
     simp only [Act.put, List.setIfInBounds_toArray, List.set_cons_zero, List.set_cons_succ, i64_w, i32_w]
     rfl
    refine norm_ ?_ (hCont (_, _, _, _, _, _, _) _ ⟨⟨(blk_cell J.HG 2).trans rfl, (blk_cell J.HG 1).trans rfl, (blk_cell J.HG 3).trans rfl⟩, J⟩)
    first | (simp only [putAll, Act.put, List.setIfInBounds_toArray, List.set_cons_zero, List.set_cons_succ]; done) | (simp only [putAll, Act.put, List.setIfInBounds_toArray, List.set_cons_zero, List.set_cons_succ]; rfl)
 rintro ⟨b1, A2, c2, b3, A4, c4, b5⟩ wj ⟨hHeld, J⟩
 refine norm_ (a' := ?_) ?_ ?_
 rotate_left
 ·simp only [putAll, Act.put, List.setIfInBounds_toArray, List.set_cons_zero, List.set_cons_succ]
  rfl
 refine one_ (i := 25) (N := some 107) #[true, true, true, true, true, true, true, true, true, true, true, true, true, true, true, true, true, true, true, true, true, true, true, true, true, true, false, false, false, false, false, false, false, false, false, false, false] rfl rfl (by kernel_rfl) (by decide) (fun K hK => ?_)
 refine SJ.e6 J HZL.out (by rfl) (.tmp 104) (.tmp 106) rfl rfl rfl ?_
 intro A6 c6 w11 hK7 hG7 hS7 hR7 hZ7 hY7
 clear J
 have HK11 := Aside0.mk hK7; have HG7 := Aside0.mk hG7; have HS7 := Aside0.mk hS7; have HR7 := Aside0.mk hR7; have HZ7 := Aside0.mk hZ7; have HY7 := Aside0.mk hY7
 clear hK7 hG7 hS7 hR7 hZ7 hY7
 refine hK.out _ _ ⟨(blk_cell HG7.out 2).trans rfl, (blk_cell HG7.out 1).trans rfl, (blk_cell HG7.out 3).trans rfl⟩ (fun hHeld => ?_)
 clear hK K
 refine norm_ (a' := ?_) ?_ ?_
 rotate_left
 ·show Act.put _ (some 107) _ = _
  simp only [Act.put, List.setIfInBounds_toArray, List.set_cons_zero, List.set_cons_succ, i64_w, i32_w]
  rfl
 refine pure_ (i := 26) (N := some 108) (v := ?_) (a' := ?_) #[true, true, true, true, true, true, true, true, true, true, true, true, true, true, true, true, true, true, true, true, true, true, true, true, true, true, true, false, false, false, false, false, false, false, false, false, false] rfl rfl (by kernel_rfl) (fun _ _ _ h => h) (Or.inl ⟨by rfl, ?_⟩) ?_ ?_
 rotate_left
 ·intro w'
  go_simp
  with_reducible rfl
 rotate_left
 ·simp only [Act.put, List.setIfInBounds_toArray, List.set_cons_zero, List.set_cons_succ, i64_w, i32_w]
  rfl
 refine pure_ (i := 27) (N := some 109) (v := ?_) (a' := ?_) #[true, true, true, true, true, true, true, true, true, true, true, true, true, true, true, true, true, true, true, true, true, true, true, true, true, true, true, true, false, false, false, false, false, false, false, false, false] rfl rfl (by kernel_rfl) (fun _ _ _ h => h) (Or.inl ⟨by rfl, ?_⟩) ?_ ?_
 rotate_left
 ·intro w'
  go_simp
  with_reducible rfl
 rotate_left
 ·simp only [Act.put, List.setIfInBounds_toArray, List.set_cons_zero, List.set_cons_succ, i64_w, i32_w]
  rfl
 refine pure_ (i := 28) (N := some 110) (v := ?_) (a' := ?_) #[true, true, true, true, true, true, true, true, true, true, true, true, true, true, true, true, true, true, true, true, true, true, true, true, true, true, true, true, true, false, false, false, false, false, false, false, false] rfl rfl (by kernel_rfl) (fun _ _ _ h => h) (Or.inl ⟨by rfl, ?_⟩) ?_ ?_
 rotate_left
 ·intro w'
  go_simp
  with_reducible rfl
 rotate_left
 ·simp only [Act.put, List.setIfInBounds_toArray, List.set_cons_zero, List.set_cons_succ, i64_w, i32_w]
  rfl
 refine last_ (i := 29) (N := none) #[true, true, true, true, true, true, true, true, true, true, true, true, true, true, true, true, true, true, true, true, true, true, true, true, true, true, true, true, true, true, false, false, false, false, false, false, false] rfl rfl (by kernel_rfl) (by decide) (fun K hK => ?_)
 have hc29 : (w11).cell? ⟨g, 2, none⟩ = some vl := (blk_cell HG7.out 2).trans rfl
 have hf29 := blk_frozen HG7.out 2
 refine skip_ (w1 := ?_) (by rfl) rfl ?_ ?_
 rotate_left
 ·go_simp
  rfl
 have HG8 := Aside0.mk (blk_put HG7.out 2 (.slice A2 (l.length + 1) c2) rfl)
 clear hc29 hf29
 refine hK.out _ _ ?_
 clear hK K
 refine pure_ (i := 30) (N := some 111) (v := ?_) (a' := ?_) #[true, true, true, true, true, true, true, true, true, true, true, true, true, true, true, true, true, true, true, true, true, true, true, true, true, true, true, true, true, true, true, false, false, false, false, false, false] rfl rfl (by kernel_rfl) (fun _ _ _ h => h) (Or.inl ⟨by rfl, ?_⟩) ?_ ?_
 rotate_left
 ·intro w'
  go_simp
  with_reducible rfl
 rotate_left
 ·simp only [Act.put, List.setIfInBounds_toArray, List.set_cons_zero, List.set_cons_succ, i64_w, i32_w]
  rfl
 refine pure_ (i := 31) (N := some 112) (v := ?_) (a' := ?_) #[true, true, true, true, true, true, true, true, true, true, true, true, true, true, true, true, true, true, true, true, true, true, true, true, true, true, true, true, true, true, true, true, false, false, false, false, false] rfl rfl (by kernel_rfl) (fun _ _ _ h => h) (Or.inl ⟨by rfl, ?_⟩) ?_ ?_
 rotate_left
 ·intro w'
  go_simp
  with_reducible rfl
 rotate_left
 ·simp only [Act.put, List.setIfInBounds_toArray, List.set_cons_zero, List.set_cons_succ, i64_w, i32_w]
  rfl
 refine pure_ (i := 32) (N := some 113) (v := ?_) (a' := ?_) #[true, true, true, true, true, true, true, true, true, true, true, true, true, true, true, true, true, true, true, true, true, true, true, true, true, true, true, true, true, true, true, true, true, false, false, false, false] rfl rfl (by kernel_rfl) (fun _ _ _ h => h) (Or.inl ⟨by rfl, ?_⟩) ?_ ?_
 rotate_left
 ·intro w'
  go_simp
  with_reducible rfl
 rotate_left
 ·simp only [Act.put, List.setIfInBounds_toArray, List.set_cons_zero, List.set_cons_succ, i64_w, i32_w]
  rfl
 refine last_ (i := 33) (N := none) #[true, true, true, true, true, true, true, true, true, true, true, true, true, true, true, true, true, true, true, true, true, true, true, true, true, true, true, true, true, true, true, true, true, true, false, false, false] rfl rfl (by kernel_rfl) (by decide) (fun K hK => ?_)
 have hc33 : (w11.setCell ⟨g, 2, none⟩ (.slice A2 (l.length + 1) c2)).cell? ⟨g, 1, none⟩ = some vr := (blk_cell HG8.out 1).trans rfl
 have hf33 := blk_frozen HG8.out 1
 refine skip_ (w1 := ?_) (by rfl) rfl ?_ ?_
 rotate_left
 ·go_simp
  rfl
 have HG9 := Aside0.mk (blk_put HG8.out 1 (.slice A4 (r.length + 1) c4) rfl)
 clear hc33 hf33
 refine hK.out _ _ ?_
 clear hK K
 refine pure_ (i := 34) (N := some 114) (v := ?_) (a' := ?_) #[true, true, true, true, true, true, true, true, true, true, true, true, true, true, true, true, true, true, true, true, true, true, true, true, true, true, true, true, true, true, true, true, true, true, true, false, false] rfl rfl (by kernel_rfl) (fun _ _ _ h => h) (Or.inl ⟨by rfl, ?_⟩) ?_ ?_
 rotate_left
 ·intro w'
  go_simp
  with_reducible rfl
 rotate_left
 ·simp only [Act.put, List.setIfInBounds_toArray, List.set_cons_zero, List.set_cons_succ, i64_w, i32_w]
  rfl
 refine pure_ (i := 35) (N := some 115) (v := ?_) (a' := ?_) #[true, true, true, true, true, true, true, true, true, true, true, true, true, true, true, true, true, true, true, true, true, true, true, true, true, true, true, true, true, true, true, true, true, true, true, true, false] rfl rfl (by kernel_rfl) (fun _ _ _ h => h) (Or.inl ⟨by rfl, ?_⟩) ?_ ?_
 rotate_left
 ·intro w'
  go_simp
  with_reducible rfl
 rotate_left
 ·simp only [Act.put, List.setIfInBounds_toArray, List.set_cons_zero, List.set_cons_succ, i64_w, i32_w]
  rfl
 refine last_ (i := 36) (N := none) #[true, true, true, true, true, true, true, true, true, true, true, true, true, true, true, true, true, true, true, true, true, true, true, true, true, true, true, true, true, true, true, true, true, true, true, true, true] rfl rfl (by kernel_rfl) (by decide) (fun K hK => ?_)
 have hc36 : ((w11.setCell ⟨g, 2, none⟩ (.slice A2 (l.length + 1) c2)).setCell ⟨g, 1, none⟩ (.slice A4 (r.length + 1) c4)).cell? ⟨g, 3, none⟩ = some vz := (blk_cell HG9.out 3).trans rfl
 have hf36 := blk_frozen HG9.out 3
 refine skip_ (w1 := ?_) (by rfl) rfl ?_ ?_
 rotate_left
 ·go_simp
  rfl
 have HG10 := Aside0.mk (blk_put HG9.out 3 (.slice A6 (z.length + 1) c6) rfl)
 clear hc36 hf36
 refine hK.out _ _ ?_
 clear hK K
 refine done_ (by kernel_rfl) ?_
 have HGA := Aside0.mk (blk_far (blk_far (blk_far (blk_kept HGA6.out HK11.out.2 (fun e => Nat.lt_irrefl _ (HPB.out _ e))) (p := ⟨g, 2, none⟩) HGN.out (.slice A2 (l.length + 1) c2)) (p := ⟨g, 1, none⟩) HGN.out (.slice A4 (r.length + 1) c4)) (p := ⟨g, 3, none⟩) HGN.out (.slice A6 (z.length + 1) c6))
 have HG11 : Aside0 ((((w11.setCell ⟨g, 2, none⟩ (.slice A2 (l.length + 1) c2)).setCell ⟨g, 1, none⟩ (.slice A4 (r.length + 1) c4)).setCell ⟨g, 3, none⟩ (.slice A6 (z.length + 1) c6)).heap[g]? = some (.cells #[.string s, .slice A4 (r.length + 1) c4, .slice A2 (l.length + 1) c2, .slice A6 (z.length + 1) c6, .func (.func 89) #[] #[]] 120 (0, 0))) := ⟨HG10.out⟩
 have HSX := Aside0.mk (Kd.S_far (p := ⟨g, 3, none⟩) (Kd.S_far (p := ⟨g, 1, none⟩) (Kd.S_far (p := ⟨g, 2, none⟩) HS7.out (fun _ hk => hk.2) (.slice A2 (l.length + 1) c2)) (fun _ hk => hk.2) (.slice A4 (r.length + 1) c4)) (fun _ hk => hk.2) (.slice A6 (z.length + 1) c6))
 have HRX := Aside0.mk (Kd.R_far (p := ⟨g, 3, none⟩) (Kd.R_far (p := ⟨g, 1, none⟩) (Kd.R_far (p := ⟨g, 2, none⟩) HR7.out (fun _ hk => hk.1.2) (.slice A2 (l.length + 1) c2)) (fun _ hk => hk.1.2) (.slice A4 (r.length + 1) c4)) (fun _ hk => hk.1.2) (.slice A6 (z.length + 1) c6))
 have HZX := Aside0.mk (Kd.R_far (p := ⟨g, 3, none⟩) (Kd.R_far (p := ⟨g, 1, none⟩) (Kd.R_far (p := ⟨g, 2, none⟩) HZ7.out (fun _ hk => hk.2) (.slice A2 (l.length + 1) c2)) (fun _ hk => hk.2) (.slice A4 (r.length + 1) c4)) (fun _ hk => hk.2) (.slice A6 (z.length + 1) c6))
 have hg6 : g < w6.heap.size := by have := HPB.out g HPg.out; have := HB6.out.size; omega
 have HYX := Aside0.mk (Kd.R_reads' (Kd.R_far (p := ⟨g, 3, none⟩) (Kd.R_far (p := ⟨g, 1, none⟩) (Kd.R_far (p := ⟨g, 2, none⟩) HY7.out (fun k (hk : w6.heap.size ≤ k) => show k ≠ g by omega) (.slice A2 (l.length + 1) c2)) (fun k (hk : w6.heap.size ≤ k) => show k ≠ g by omega) (.slice A4 (r.length + 1) c4)) (fun k (hk : w6.heap.size ≤ k) => show k ≠ g by omega) (.slice A6 (z.length + 1) c6)))
 have HKX := Aside0.mk (((((Kf.of HB6.out P).trans HK11.out (fun k hk => .inl hk)).set (p := ⟨g, 2, none⟩) (.inl HPg.out) (.slice A2 (l.length + 1) c2)).set (p := ⟨g, 1, none⟩) (.inl HPg.out) (.slice A4 (r.length + 1) c4)).set (p := ⟨g, 3, none⟩) (.inl HPg.out) (.slice A6 (z.length + 1) c6))
 have HL6 := Aside0.mk (blk_lt HGA6.out)
 clear hHeld HG7 HG8 HG9 HG10 HS7 HR7 HZ7 HY7 HK11 HGA3 HGA4 HGA5 HGA6 hg6
 generalize ((w11.setCell ⟨g, 2, none⟩ (.slice A2 (l.length + 1) c2)).setCell ⟨g, 1, none⟩ (.slice A4 (r.length + 1) c4)).setCell ⟨g, 3, none⟩ (.slice A6 (z.length + 1) c6) = wX at HGA HG11 HSX HRX HZX HYX HKX ⊢
 have HSI : Aside0 (SI wX (fun k => P k ∨ (w6.heap.size ≤ k ∧ k < wX.heap.size)) g s (r ++ [rv]) (l ++ [y]) (z ++ [q])) := ⟨.inl HPg.out, fun k hk => hk.elim (fun h => Nat.lt_of_lt_of_le (HPB.out k h) HKX.out.size) (fun h => h.2), _, _, _, HG11.out, Kd.S_mono (Kd.S_bound HSX.out) (fun k hk => ⟨hk.1.1.imp id (fun h => ⟨h, hk.2.2.1⟩), hk.1.2⟩), Kd.R_mono (Kd.R_bound HRX.out) (fun k hk => ⟨⟨hk.1.1.1.imp id (fun h => ⟨h, hk.2.2.1⟩), hk.1.1.2⟩, hk.1.2⟩), Kd.R_mono (Kd.R_bound HZX.out) (fun k hk => ⟨hk.1.1.imp id (fun h => ⟨h, hk.2.2.1⟩), hk.1.2⟩)⟩
 clear HSX HRX HZX HG11
 go_wp2_with (go_at_call 64; (with_reducible refine (HCl.out _ _ _ HYX.out.2.2 HYX.out.2.1).mono ?_); rintro e w12 ⟨v12, rfl, ho, hb⟩; obtain ⟨Av, cv, rfl⟩ := Kd.R_slice ho; have HO12 := Aside0.mk ho; have HB12 := Aside0.mk hb; have hga := blk_below HGA.out hb; have HGB := Aside0.mk hga; have a0 := blk_cell hga 0; have f0 := blk_frozen hga 0; have a1 := blk_cell hga 1; have f1 := blk_frozen hga 1; have a2 := blk_cell hga 2; have f2 := blk_frozen hga 2; clear ho hb hga)
 have HE := Aside0.mk (blk_put (blk_put (blk_put HGB.out 0 (.slice Av y.length cv) rfl) 1 (.int .i64 rv) rfl) 2 (.int .i64 0) rfl)
 refine bodyPost_ret (results_cell_row rfl _ _ w.heap.size 72 #[.slice Av y.length cv, .int .i64 rv, .int .i64 0] (0, 0) _ rfl HE.out Tryd.underlying72 rfl (by kernel_rfl)) rfl ?_
 have hK := (((HKX.out.step HB12.out).set (p := ⟨w.heap.size, 0, none⟩) (.inr (Nat.le_refl _)) (.slice Av y.length cv)).set (p := ⟨w.heap.size, 1, none⟩) (.inr (Nat.le_refl _)) (.int .i64 rv)).set (p := ⟨w.heap.size, 2, none⟩) (.inr (Nat.le_refl _)) (.int .i64 0)
 have hQ := (((Kf.of HB12.out (fun k => k = w.heap.size)).set (p := ⟨w.heap.size, 0, none⟩) (.inl rfl) (.slice Av y.length cv)).set (p := ⟨w.heap.size, 1, none⟩) (.inl rfl) (.int .i64 rv)).set (p := ⟨w.heap.size, 2, none⟩) (.inl rfl) (.int .i64 0)
 have h6 := HB6.out.size
 have h7 := HL6.out
 have hl := blk_lt HGA.out
 have hx := hQ.size
 have hs := hK.size
 have hR := Kd.R_far (p := ⟨w.heap.size, 2, none⟩) (Kd.R_far (p := ⟨w.heap.size, 1, none⟩) (Kd.R_far (p := ⟨w.heap.size, 0, none⟩) (Kd.R_mono (ok' := fun k => k ≠ w.heap.size) (Kd.R_bound HO12.out) (fun k hk => by have := hk.2.1; omega)) (fun _ hk => hk) (.slice Av y.length cv)) (fun _ hk => hk) (.int .i64 rv)) (fun _ hk => hk) (.int .i64 0)
 refine ⟨Av, cv, rfl, Kd.R_lower (Kd.R_mono hR (fun _ _ => trivial)) (Nat.le_of_lt hl), (HSI.out.kf hQ (fun k hk e => ?_)).mono (fun k hk => ?_) (fun k hk => ?_), hK⟩
 ·have e2 : k = w.heap.size := e
  rcases hk with hk | hk
  ·have := HPB.out k hk; omega
  ·omega
 ·exact hk.imp id (fun h => ⟨by omega, by omega⟩)
 ·rcases hk with hk | hk
  ·have := HPB.out k hk; omega
  ·exact hk.2
end Go.Proofs.YtegjegihcebimaaDoor.P
end
