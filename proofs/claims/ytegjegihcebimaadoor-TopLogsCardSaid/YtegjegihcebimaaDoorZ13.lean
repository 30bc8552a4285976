/- Part 13 of the proof of topLogs_holds: out of the texts that this session's programs wrote, what the theorem reaches. -/
import Derived.Test.YtegjegihcebimaaDoorZ10
import Derived.Test.YtegjegihcebimaaDoorZ12
import Derived.Test.YtegjegihcebimaaDoorZ2
import Derived.Test.YtegjegihcebimaaDoorZ3
section
namespace Go.Proofs.YtegjegihcebimaaDoor.P
open Go.RowKit Go.Proofs.YtegjegihcebimaaDoorW.PrintWords Go.Proofs.YtegjegihcebimaaDoorW.PrintLast Go.Proofs.YtegjegihcebimaaDoorW.PrintMore
attribute [local go_sem] max2_int min2_int max_two min_two max_three min_three max_four min_four
set_option linter.unusedVariables false
set_option linter.unusedSimpArgs false
set_option maxHeartbeats 8000000 in
set_option maxRecDepth 100000 in
theorem server_SubmitNo.calls (k : Nat) (w : World) (P : Nat → Prop) (g : Nat) (s : ByteArray) (r : List Int) (l : List (List S25)) (z : List Int) (rq : Int) (Ax : Option Addr) (cx : Nat) (x : List S25) (i near er : Int) (hT : Tabs w) (h : SI w P g s r l z)
  (rx : Kd.C k25 w Ax x.length x) (lx : x.length ≤ cx) (h1 : op_May.f k x = some 0) (h2 : seek_Find.f r rq = some (i, near, er)) (he : er ≠ 0) :
  Calls Tryd.prog 31 #[.pointer (some ⟨g, 0, none⟩), .int .i64 rq, .slice Ax x.length cx] w fun e w' => e = .returned (.agg #[.slice none 0 0, .int .i64 near, .int .i64 er]) ∧ Below w.heap.size w w' := by
 obtain ⟨Ar, cr, Al, cl, Az, cz, hg, l1, l2, l3, r1, r2, r3⟩ := h.reads
 have hne : (er != 0) = true := bne_iff_ne.2 he
 have HM := Aside0.mk (fun (W : World) (hW : Below w.heap.size w W) => op_May.calls k Ax cx x 0 W (Kd.C_below rx hW) lx (Tabs.below hT hW) h1)
 have HF := Aside0.mk (fun (W : World) (hW : Below w.heap.size w W) => seek_Find.calls Ar cr r rq i near er W (Kd.C_below r1 hW) l1 h2)
 have HG0 := Aside0.mk hg
 have HB0 := Aside0.mk (below_alloc (Below.refl w.heap.size w) (.cells #[.slice none 0 0, .int .i64 0, .int .i64 0] 72))
 have HGA0 := Aside0.mk (heap_alloc_new w (.cells #[.slice none 0 0, .int .i64 0, .int .i64 0] 72))
 clear h hT r1 r2 r3 l1 l2 l3 hg rx lx h1 h2
 go_enter Tryd.func31, Tryd.ntmps31
 go_upto_region 1 with (fail)
 generalize w.alloc (.cells #[.slice none 0 0, .int .i64 0, .int .i64 0] 72) = w1 at HB0 HGA0 ⊢
 go_wp2_with (first | (go_at_call 46; (with_reducible refine (HM.out _ HB0.out).mono ?_); rintro e w2 ⟨rfl, hb⟩; have HB2 := Aside0.mk (below_step HB0.out hb); have HGA2 := Aside0.mk (blk_below HGA0.out hb); have c1 : w2.cell? ⟨g, 1, none⟩ = some (.slice Ar r.length cr) := (blk_cell (blk_below HG0.out HB2.out) 1).trans rfl; clear hb HB0 HGA0) | (go_at_call 19; (with_reducible refine (HF.out _ HB2.out).mono ?_); rintro e w3 ⟨rfl, hb⟩; have HB3 := Aside0.mk (below_step HB2.out hb); have hga := blk_below HGA2.out hb; have HGB := Aside0.mk hga; have a0 := blk_cell hga 0; have f0 := blk_frozen hga 0; have a1 := blk_cell hga 1; have f1 := blk_frozen hga 1; have a2 := blk_cell hga 2; have f2 := blk_frozen hga 2; clear hb HB2 HGA2 c1 hga))
 have HE := Aside0.mk (blk_put (blk_put (blk_put HGB.out 0 (.slice none 0 0) rfl) 1 (.int .i64 near) rfl) 2 (.int .i64 er) rfl)
 refine bodyPost_ret (results_cell_row rfl _ _ w.heap.size 72 #[.slice none 0 0, .int .i64 near, .int .i64 er] (0, 0) _ rfl HE.out Tryd.underlying72 rfl (by kernel_rfl)) rfl ?_
 exact ⟨rfl, ((HB3.out.setCell (Nat.le_refl _) _).setCell (Nat.le_refl _) _).setCell (Nat.le_refl _) _⟩
@[local go_sem] theorem server_store {P : Program} {w : World} (a : Addr) (fn : Fn) (first captured : Array Value) (m : Mode) : (store a (.func fn first captured) m).run P w = stored P w a (.func fn first captured) m := run_store P w a _ m rfl
set_option maxHeartbeats 16000000 in
set_option maxRecDepth 100000 in
theorem server_Compact.calls (k : Nat) (w : World) (P : Nat → Prop) (g : Nat) (s s' : ByteArray) (r : List Int) (l : List (List S25)) (z : List Int) (As : Option Addr) (cs : Nat) (set : List Int) (fl : Int) (r' : List Int) (l' : List (List S25)) (z' : List Int) (hT : Tabs w) (h : SI w P g s r l z)
  (rs : Kd.C (Kd.int .i64) w As set.length set) (ls : set.length ≤ cs) (h1 : compact_Of.f k s r l set fl = some (s', r', l', 0)) (h2 : chain_Sizes.f k s' r' l' = some (z', 0)) (h3 : 0 < r'.length) :
  Calls Tryd.prog 36 #[.pointer (some ⟨g, 0, none⟩), .slice As set.length cs, .int .i64 fl] w fun e w' => ∃ a : Value, e = .returned a ∧ SI w' (fun k => P k ∨ (w.heap.size ≤ k ∧ k < w'.heap.size)) g s' r' l' z' ∧ Kf w w' P := by
 obtain ⟨Ar, cr, Al, cl, Az, cz, hg, l1, l2, l3, r1, r2, r3⟩ := h.reads
 have HPB := Aside0.mk h.2.1; have HPG := Aside0.mk h.1
 have HGN : Aside0 (w.heap.size ≠ g) := ⟨fun e => Nat.lt_irrefl _ (h.2.1 _ (e ▸ h.1))⟩
 have HF := Aside0.mk (fun (W : World) (hW : Below w.heap.size w W) => compact_Of.calls k s Ar cr r Al cl l As cs set fl s' r' l' 0 W (Kd.C_below r1 hW) l1 (Kd.C_below r2 hW) l2 (Kd.C_below rs hW) ls (Tabs.below hT hW) h1)
 have HOf := Aside0.mk (fun (W W' : World) (hW : Below w.heap.size w W) (A1 : Option Addr) (c1 : Nat) (A2 : Option Addr) (c2 : Nat) (ho1 : Kd.R (Kd.int .i64) 3 W W'.heap.size (fun _ => True) (.slice A1 r'.length c1) r') (ho2 : Kd.S (Kd.slice 25 k25) 27 W W'.heap.size (fun _ => True) (.slice A2 l'.length c2) l') => server_of.calls k s' A1 c1 r' A2 c2 l' z' W (Kd.R_reads' ho1).2.2 (Kd.R_reads' ho1).2.1 (Kd.S_reads' ho2).2.2 (Kd.S_reads' ho2).2.1 (Tabs.below hT hW) h2)
 have HG0 := Aside0.mk hg
 have H3 := Aside0.mk h3
 have HB0 := Aside0.mk (below_alloc (Below.refl w.heap.size w) (.cells #[.slice none 0 0, .int .i64 0, .int .i64 0] 72))
 have HGA0 := Aside0.mk (heap_alloc_new w (.cells #[.slice none 0 0, .int .i64 0, .int .i64 0] 72))
 have c0 : (w.alloc (.cells #[.slice none 0 0, .int .i64 0, .int .i64 0] 72)).cell? ⟨g, 0, none⟩ = some (.string s) := (blk_cell (blk_below hg HB0.out) 0).trans rfl
 have c1 : (w.alloc (.cells #[.slice none 0 0, .int .i64 0, .int .i64 0] 72)).cell? ⟨g, 1, none⟩ = some (.slice Ar r.length cr) := (blk_cell (blk_below hg HB0.out) 1).trans rfl
 have c2 : (w.alloc (.cells #[.slice none 0 0, .int .i64 0, .int .i64 0] 72)).cell? ⟨g, 2, none⟩ = some (.slice Al l.length cl) := (blk_cell (blk_below hg HB0.out) 2).trans rfl
 clear h hT r1 r2 r3 l1 l2 l3 hg rs ls h1 h2 h3
 go_enter Tryd.func36, Tryd.ntmps36
 go_upto_region 1 with (fail)
 generalize w.alloc (.cells #[.slice none 0 0, .int .i64 0, .int .i64 0] 72) = w1 at HB0 HGA0 c0 c1 c2 ⊢
 go_upto_region 4 with (go_at_call 17; (with_reducible refine (HF.out _ HB0.out).mono ?_); rintro e w2 ⟨v1, v2, rfl, ho1, ho2, hb⟩; obtain ⟨A1, d1, rfl⟩ := Kd.R_slice ho1; obtain ⟨A2, d2, rfl⟩ := Kd.S_slice ho2; have HO1 := Aside0.mk ho1; have HO2 := Aside0.mk ho2; have HB2 := Aside0.mk (below_step HB0.out hb); have HX2 := Aside0.mk hb; clear hb ho1 ho2 c0 c1 c2)
 have HGA2 := Aside0.mk (blk_below HGA0.out HX2.out)
 have HX3 := Aside0.mk (below_alloc (Below.refl w2.heap.size w2) (.cells #[.string s', .slice A1 r'.length d1, .slice A2 l'.length d2] 42))
 have HL3 := Aside0.mk (heap_alloc_new w2 (.cells #[.string s', .slice A1 r'.length d1, .slice A2 l'.length d2] 42))
 have HOf3 := Aside0.mk (HOf.out _ w1 (below_step HB2.out HX3.out) A1 d1 A2 d2 (Kd.R_below HO1.out HX3.out) (Kd.S_below HO2.out HX3.out))
 have x0 := (blk_cell HL3.out 0).trans rfl
 have x1 := (blk_cell HL3.out 1).trans rfl
 have x2 := (blk_cell HL3.out 2).trans rfl
 go_upto_region 5 with (go_at_call 67; (with_reducible refine HOf3.out.mono ?_); rintro e w4 ⟨g', vz, rfl, hg', hgw, hz, hb⟩; obtain ⟨Az', cz', rfl⟩ := Kd.R_slice hz; have HGG := Aside0.mk hg'; have HGW := Aside0.mk hgw; have HZ4 := Aside0.mk hz; have HX4 := Aside0.mk (below_step HX3.out hb); have HL4 := Aside0.mk (blk_below HL3.out hb); have y0 := (blk_cell hg' 0).trans rfl; have y1 := (blk_cell hg' 1).trans rfl; have y2 := (blk_cell hg' 2).trans rfl; have y3 := (blk_cell hg' 3).trans rfl; have y4 := (blk_cell hg' 4).trans rfl; have hgo := blk_below (blk_below HG0.out HB2.out) (below_step HX3.out hb); have HGO := Aside0.mk hgo; have o0 := (blk_cell hgo 0).trans rfl; have o1 := (blk_cell hgo 1).trans rfl; have o2 := (blk_cell hgo 2).trans rfl; have o3 := (blk_cell hgo 3).trans rfl; have o4 := (blk_cell hgo 4).trans rfl; have f0 := blk_frozen hgo 0; have f1 := blk_frozen hgo 1; have f2 := blk_frozen hgo 2; have f3 := blk_frozen hgo 3; have f4 := blk_frozen hgo 4; clear hg' hgw hz hb hgo x0 x1 x2)
 have HKS : Aside0 (Kf w4 (((((w4.setCell ⟨g, 0, none⟩ (.string s')).setCell ⟨g, 1, none⟩ (.slice A1 r'.length d1)).setCell ⟨g, 2, none⟩ (.slice A2 l'.length d2)).setCell ⟨g, 3, none⟩ (.slice Az' z'.length cz')).setCell ⟨g, 4, none⟩ (.func (.func 89) #[] #[])) (fun k => k = g)) := ⟨((((((Kf.refl w4 (fun k => k = g)).set (p := ⟨g, 0, none⟩) (.inl rfl) _).set (p := ⟨g, 1, none⟩) (.inl rfl) _).set (p := ⟨g, 2, none⟩) (.inl rfl) _).set (p := ⟨g, 3, none⟩) (.inl rfl) _).set (p := ⟨g, 4, none⟩) (.inl rfl) _)⟩
 have HGS := Aside0.mk (blk_put (blk_put (blk_put (blk_put (blk_put HGO.out 0 (.string s') rfl) 1 (.slice A1 r'.length d1) rfl) 2 (.slice A2 l'.length d2) rfl) 3 (.slice Az' z'.length cz') rfl) 4 (.func (.func 89) #[] #[]) rfl)
 have HGS2 : Aside0 ((((((w4.setCell ⟨g, 0, none⟩ (.string s')).setCell ⟨g, 1, none⟩ (.slice A1 r'.length d1)).setCell ⟨g, 2, none⟩ (.slice A2 l'.length d2)).setCell ⟨g, 3, none⟩ (.slice Az' z'.length cz')).setCell ⟨g, 4, none⟩ (.func (.func 89) #[] #[])).heap[g]? = some (.cells #[.string s', .slice A1 r'.length d1, .slice A2 l'.length d2, .slice Az' z'.length cz', .func (.func 89) #[] #[]] 120 (0, 0))) := ⟨HGS.out⟩
 clear HGS HGO y0 y1 y2 y3 y4 o0 o1 o2 o3 o4 f0 f1 f2 f3 f4
 generalize (((((w4.setCell ⟨g, 0, none⟩ (.string s')).setCell ⟨g, 1, none⟩ (.slice A1 r'.length d1)).setCell ⟨g, 2, none⟩ (.slice A2 l'.length d2)).setCell ⟨g, 3, none⟩ (.slice Az' z'.length cz')).setCell ⟨g, 4, none⟩ (.func (.func 89) #[] #[])) = wS at HKS HGS2 ⊢
 have s0 := HB0.out.size; have s2 := HX2.out.size; have s3 := HX3.out.size; have s4 := HX4.out.size; have s5 := HKS.out.size; have gl := HPB.out g HPG.out; have ga := blk_lt HGA0.out; have hw2 := blk_lt HL3.out
 have hS := Kd.S_kept (Kd.S_mono (ok' := fun k => w1.heap.size ≤ k ∧ k < w2.heap.size) (Kd.S_below (Kd.S_mono (ok' := fun k => w1.heap.size ≤ k ∧ k < w2.heap.size) (Kd.S_bound HO2.out) (fun k hk => ⟨hk.2.1, hk.2.2.1⟩)) HX4.out) (fun k hk => hk)) HKS.out.2 (fun k hk (e : k = g) => by omega)
 have hR := Kd.R_kept (Kd.R_below (Kd.R_mono (ok' := fun k => w1.heap.size ≤ k ∧ k < w2.heap.size) (Kd.R_bound HO1.out) (fun k hk => ⟨hk.2.1, hk.2.2.1⟩)) HX4.out) HKS.out.2 (fun k hk (e : k = g) => by omega)
 have hzb := Kd.R_base HZ4.out
 have hZ := Kd.R_kept (Kd.R_mono (ok' := fun k => w2.heap.size ≤ k ∧ k < w4.heap.size) (Kd.R_bound HZ4.out) (fun k hk => ⟨by have := hk.2.1; omega, hk.2.2.1⟩)) HKS.out.2 (fun k hk (e : k = g) => by omega)
 have HSI : Aside0 (SI wS (fun k => P k ∨ (w1.heap.size ≤ k ∧ k < wS.heap.size)) g s' r' l' z') := ⟨.inl HPG.out, fun k hk => hk.elim (fun h => by have := HPB.out k h; omega) (fun h => h.2), _, _, _, HGS2.out, Kd.S_lower (Kd.S_mono hS (fun k hk => ⟨.inr ⟨hk.1, by omega⟩, by omega⟩)) (Nat.zero_le _), Kd.R_lower (Kd.R_mono hR (fun k hk => ⟨⟨.inr ⟨hk.1, by omega⟩, by omega⟩, fun e => by have := hzb k e.symm; omega⟩)) (Nat.zero_le _), Kd.R_lower (Kd.R_mono hZ (fun k hk => ⟨.inr ⟨by omega, by omega⟩, by omega⟩)) (Nat.zero_le _)⟩
 have h3 := H3.out
 obtain ⟨ad, hA, hc⟩ := Kd.at_int (Kd.R_reads' hR).2.2 0 (by omega) (by omega)
 subst hA
 have hc2 : wS.cell? ad = some (.int .i64 (rd r' 0)) := hc
 clear hc
 have p1 : (0 : Int) < (r'.length : Int) := by omega
 have p2 : 0 < r'.length := h3
 have hl := (blk_cell (blk_kept HL4.out HKS.out.2 (fun (e : w2.heap.size = g) => by omega)) 1).trans rfl
 have hga := blk_kept (blk_below HGA2.out HX4.out) HKS.out.2 (fun (e : w.heap.size = g) => by omega)
 have HGB := Aside0.mk hga; have a0 := blk_cell hga 0; have e0 := blk_frozen hga 0; have a1 := blk_cell hga 1; have e1 := blk_frozen hga 1; have a2 := blk_cell hga 2; have e2 := blk_frozen hga 2
 have HKF := Aside0.mk ((((Kf.of HB2.out P).step HX4.out).trans HKS.out (fun k (e : k = g) => .inl (e ▸ HPG.out))))
 clear hS hR hZ hzb s0 s2 s3 s4 s5 gl hw2 h3 hga
 go_wp2
 have HE := Aside0.mk (blk_put (blk_put (blk_put HGB.out 0 (.slice none 0 0) rfl) 1 (.int .i64 (rd r' 0)) rfl) 2 (.int .i64 0) rfl)
 refine bodyPost_ret (results_cell_row rfl _ _ w.heap.size 72 #[.slice none 0 0, .int .i64 (rd r' 0), .int .i64 0] (0, 0) _ rfl HE.out Tryd.underlying72 rfl (by kernel_rfl)) rfl ?_
 have hQ := (((Kf.refl wS (fun k => k = w.heap.size)).set (p := ⟨w.heap.size, 0, none⟩) (.inl rfl) (.slice none 0 0)).set (p := ⟨w.heap.size, 1, none⟩) (.inl rfl) (.int .i64 (rd r' 0))).set (p := ⟨w.heap.size, 2, none⟩) (.inl rfl) (.int .i64 0)
 have hx := hQ.size
 refine ⟨_, rfl, (HSI.out.kf hQ (fun k hk e => ?_)).mono (fun k hk => ?_) (fun k hk => ?_), ((HKF.out.set (p := ⟨w.heap.size, 0, none⟩) (.inr (Nat.le_refl _)) _).set (p := ⟨w.heap.size, 1, none⟩) (.inr (Nat.le_refl _)) _).set (p := ⟨w.heap.size, 2, none⟩) (.inr (Nat.le_refl _)) _⟩
 ·have e2 : k = w.heap.size := e
  rcases hk with hk | hk
  ·have := HPB.out k hk; omega
  ·omega
 ·exact hk.imp id (fun h => ⟨by omega, by omega⟩)
 ·rcases hk with hk | hk
  ·have := HPB.out k hk; have := HKF.out.size; omega
  ·exact hk.2
mutual
def epitomeref04_Fit.l0 : Nat → List (S25) → Int → List (S25) → Int → Option ((List (S25)))
 | 0, _, _, _, _ => none
 | k + 1, x0, x1, x5, x6 => if x6 < (x0.length : Int) then (epitomeref04_Fit.j1 k x0 x1 x5 x6 (decide (x6 < 12))) else (epitomeref04_Fit.j1 k x0 x1 x5 x6 false)
def epitomeref04_Fit.j1 : Nat → List (S25) → Int → List (S25) → Int → Bool → Option ((List (S25)))
 | 0, _, _, _, _, _ => none
 | k + 1, x0, x1, x5, x6, x16 => if x16 = true then (if 0 ≤ x6 then (if x6 < (x0.length : Int) then (if (wrap64 (1 + (Int.tmod (wrap64 ((Int.tmod ((rd_T25 x0 x6).f0) 3) + 3)) 3))) = 2 then (if 0 ≤ (mn (((rd_T25 x0 x6).f2).size : Int) 6) then (if (mn (((rd_T25 x0 x6).f2).size : Int) 6) ≤ (((rd_T25 x0 x6).f2).size : Int) then ((epitomeref01_Fit.f k (((rd_T25 x0 x6).f2).extract 0 ((mn (((rd_T25 x0 x6).f2).size : Int) 6) : Int).toNat)).bind fun t228 => (if x5.length < 4398046511104 then (epitomeref04_Fit.l0 k x0 x1 (x5 ++ [(⟨wrap64 (1 + (Int.tmod (wrap64 ((Int.tmod ((rd_T25 x0 x6).f0) 3) + 3)) 3)), 0, t228⟩ : S25)]) (wrap64 (x6 + 1))) else (none))) else (none)) else (none)) else (if x5.length < 4398046511104 then (epitomeref04_Fit.l0 k x0 (wrap64 (x1 - (mn (Int.tmod (wrap64 ((Int.tmod ((rd_T25 x0 x6).f1) 7) + 7)) 7) x1))) (x5 ++ [(⟨wrap64 (1 + (Int.tmod (wrap64 ((Int.tmod ((rd_T25 x0 x6).f0) 3) + 3)) 3)), mn (Int.tmod (wrap64 ((Int.tmod ((rd_T25 x0 x6).f1) 7) + 7)) 7) x1, (⟨#[]⟩ : ByteArray)⟩ : S25)]) (wrap64 (x6 + 1))) else (none))) else (none)) else (none)) else (if x1 > 0 then (if x5.length < 4398046511104 then (some (x5 ++ [(⟨1, x1, (⟨#[]⟩ : ByteArray)⟩ : S25)])) else (none)) else (some x5))
end
def epitomeref04_Fit.f (k : Nat) (l0 : List (S25)) (a1 : Int) : Option ((List (S25))) := epitomeref04_Fit.l0 k l0 a1 (([] : List (S25))) 0
def epitomeref04_Fit.T7 : Bool × List (List Nat × List Nat) := (true, [([], []), ([], []), ([0, 1], [0, 1]), ([2], [2]), ([3], [3]), ([], []), ([], []), ([5, 6], [5, 6]), ([7], [7]), ([8], [8]), ([9], [9]), ([10], [10]), ([4, 11], [4, 11]), ([12], [12]), ([0, 1, 2, 3, 4, 5, 6, 7, 8, 9, 10, 11, 12, 13], []), ([14, 13, 13, 0, 1, 2, 3, 4, 5, 6, 7, 8, 9, 10, 11, 12, 13], [13, 14])])
def epitomeref04_Fit.B7 : List Nat := [0, 0, 3, 7, 15, 0, 0, 96, 224, 480, 992, 2016, 4095, 8191, 16383, 32767]
theorem epitomeref04_Fit.tab7 : rtab .any (opsOf Tryd.f28 7) = epitomeref04_Fit.T7 := by kernel_rfl
theorem epitomeref04_Fit.bits7 : waitsOk epitomeref04_Fit.T7.2 epitomeref04_Fit.B7 = true := by kernel_rfl
set_option maxHeartbeats 8000000 in
set_option maxRecDepth 100000 in
theorem epitomeref04_Fit.calls (k : Nat) (A0 : Option Addr) (c0 : Nat) (l0 : List (S25)) (a1 : Int) (r : List (S25)) (w : World) (hr0 : Kd.C k25 w A0 l0.length l0) (hc0 : l0.length ≤ c0) (h : epitomeref04_Fit.f k l0 a1 = some r) :
  Calls Tryd.prog 28 #[.slice A0 l0.length c0, .int .i64 a1] w fun e w' => ∃ v0_ : Value, e = .returned (v0_) ∧ Kd.R k25 25 w' w.heap.size (fun _ => True) v0_ r ∧ Below w.heap.size w w' := by
 have hu25 := Tryd.underlying25
 have HR0 := am hr0
 have HC0 := am hc0
 clear hr0 hc0
 have HB := am (Below.refl w.heap.size w)
 have H : (epitomeref04_Fit.l0 k l0 a1 (([] : List (S25))) 0) = some r := h
 clear h
 obtain ⟨y221, hy221⟩ : ∃ y_ : List (S25), y_ = (([] : List (S25))) := ⟨_, rfl⟩
 replace H : (epitomeref04_Fit.l0 k l0 a1 y221 0) = some r := by first | (rw [hy221]; with_reducible exact H) | (have H2_ := (Option.bind_some _ _).symm.trans H; rw [hy221]; with_reducible exact H2_) | (have H2_ := (Option.bind_some _ _).symm.trans H; with_reducible exact H2_) | with_reducible exact H | (rw [hy221]; exact H) | exact H
 have Ny221 := am hy221
 clear hy221
 have H' := am H
 clear H
 go_enter Tryd.func28, Tryd.ntmps28
 go_wp2_with (first | ((with_reducible refine gate_dst (N := 8) rfl ?_); refine Kd.R_lit k25 _ 25 ?hg (N := 8) ?hd (xs := ([] : List (S25))) (inner := []) (ok := fun _ => True) (okp := fun _ => True) ?hr ?hp (fun _ hk => hk) trivial (Below.refl _ _) (Nat.le_refl _) (by simp) ?_; (case hd => rfl); (case hg => rfl); (case hr => first | (go_simp; done) | (go_simp; rfl)); (case hp => exact (Reps.none _ _)); intro v222 w3 ho4 hb hg_ hnew_; clear hg_ hnew_; (first | rw [← Ny221.out] at ho4 | (simp only [Int.reduceToNat] at ho4; rw [← Ny221.out] at ho4)); have n0_ := am (Kd.R_lower ho4 (below_size bl)); have n1_ := am (below_step bl hb); clear HB; have HO223 := n0_; have HB := n1_; clear n0_ n1_; clear hb ho4))
 go_loopg [1, 5, 6] k (fun kq v1 v5 v6 w' => ∃ (x1_1 : Int) (x5_1 : List (S25)) (x6_1 : Int), v1 = .int .i64 x1_1 ∧ v6 = .int .i64 x6_1 ∧ Aside0 (epitomeref04_Fit.l0 kq l0 x1_1 x5_1 x6_1 = some r) ∧ Aside0 (kq ≤ k) ∧ Aside0 (Kd.R k25 25 w' w.heap.size (fun _ => True) v5 x5_1) ∧ Aside0 (Below w.heap.size w w'))
 case atStart => exact ⟨(a1), (y221), (0), pj, pj, H', ⟨Nat.le_refl _⟩, ⟨by refine kR ?_; exact HO223.out⟩, ⟨bl⟩⟩
 case round =>
  clear H'
  try clear c2
  try clear p2
  obtain ⟨x1_1, x5_1, x6_1, rfl, rfl, HA, HK1, HO_5, HB⟩ := hrel
  cases gk with
  | zero => exact absurd HA.out (by simp [epitomeref04_Fit.l0])
  | succ k1 =>
   have H := HA.out
   clear HA
   simp only [epitomeref04_Fit.l0] at H
   have HC5 := am H
   clear H
   go_upto_region 3 with (fail)
   go_cut [16] (fun v16 wc => ∃ (kq : Nat) (x16_4 : Bool), v16 = .bool x16_4 ∧ Aside0 (epitomeref04_Fit.j1 kq l0 x1_1 x5_1 x6_1 x16_4 = some r) ∧ Aside0 (kq ≤ k1) ∧ Aside0 (Kd.R k25 25 wc w.heap.size (fun _ => True) u5 x5_1) ∧ Aside0 (Below w.heap.size w wc))
   case first =>
    have H := HC5.out
    clear HC5
    by_cases c6 : x6_1 < (l0.length : Int)
    ·rw [if_pos c6] at H
     have c6b0 : decide (x6_1 < (l0.length : Int)) = true := decide_eq_true c6
     clear c6
     (first | rw [c6b0] | (simp only [i64_w, i32_w]; rw [c6b0]) | skip)
     have H' := am H
     clear H
     go_wp2
     go_meet
     case rel => exact ⟨_, (decide (x6_1 < 12)), pj, H', ⟨by have := HK1.out; first | omega | exact Nat.le_refl _⟩, ⟨by refine kR ?_; exact HO_5.out⟩, ⟨bl⟩⟩
    ·rw [if_neg c6] at H
     have c6b0 : decide (x6_1 < (l0.length : Int)) = false := decide_eq_false c6
     clear c6
     (first | rw [c6b0] | (simp only [i64_w, i32_w]; rw [c6b0]) | skip)
     have H' := am H
     clear H
     go_wp2
     go_meet
     case rel => exact ⟨_, (false), pj, H', ⟨by have := HK1.out; first | omega | exact Nat.le_refl _⟩, ⟨by refine kR ?_; exact HO_5.out⟩, ⟨bl⟩⟩
   case rest =>
    clear HC5
    try clear c2
    try clear p2
    try clear c6
    try clear c6b0
    try clear p2
    obtain ⟨kq, x16_4, rfl, HA, HJ4, HO_5, HB⟩ := hcut
    cases kq with
    | zero => exact absurd HA.out (by simp [epitomeref04_Fit.j1])
    | succ kj4 =>
     have H := HA.out
     clear HA
     simp only [epitomeref04_Fit.j1] at H
     by_cases c7 : x16_4 = true
     ·subst c7
      have H1 : (if 0 ≤ x6_1 then (if x6_1 < (l0.length : Int) then (if (wrap64 (1 + (Int.tmod (wrap64 ((Int.tmod ((rd_T25 l0 x6_1).f0) 3) + 3)) 3))) = 2 then (if 0 ≤ (mn (((rd_T25 l0 x6_1).f2).size : Int) 6) then (if (mn (((rd_T25 l0 x6_1).f2).size : Int) 6) ≤ (((rd_T25 l0 x6_1).f2).size : Int) then ((epitomeref01_Fit.f kj4 (((rd_T25 l0 x6_1).f2).extract 0 ((mn (((rd_T25 l0 x6_1).f2).size : Int) 6) : Int).toNat)).bind fun t228 => (if x5_1.length < 4398046511104 then (epitomeref04_Fit.l0 kj4 l0 x1_1 (x5_1 ++ [(⟨wrap64 (1 + (Int.tmod (wrap64 ((Int.tmod ((rd_T25 l0 x6_1).f0) 3) + 3)) 3)), 0, t228⟩ : S25)]) (wrap64 (x6_1 + 1))) else (none))) else (none)) else (none)) else (if x5_1.length < 4398046511104 then (epitomeref04_Fit.l0 kj4 l0 (wrap64 (x1_1 - (mn (Int.tmod (wrap64 ((Int.tmod ((rd_T25 l0 x6_1).f1) 7) + 7)) 7) x1_1))) (x5_1 ++ [(⟨wrap64 (1 + (Int.tmod (wrap64 ((Int.tmod ((rd_T25 l0 x6_1).f0) 3) + 3)) 3)), mn (Int.tmod (wrap64 ((Int.tmod ((rd_T25 l0 x6_1).f1) 7) + 7)) 7) x1_1, (⟨#[]⟩ : ByteArray)⟩ : S25)]) (wrap64 (x6_1 + 1))) else (none))) else (none)) else (none)) = some r := by rw [if_pos rfl] at H; exact H
      clear H
      have H := H1
      clear H1
      by_cases c8 : 0 ≤ x6_1
      ·rw [if_pos c8] at H
       have c8b0 : decide (0 ≤ x6_1) = true := decide_eq_true c8
       clear c8
       by_cases c9 : x6_1 < (l0.length : Int)
       ·rw [if_pos c9] at H
        have c9b0 : decide (x6_1 < (l0.length : Int)) = true := decide_eq_true c9
        clear c9
        by_cases c10 : (wrap64 (1 + (Int.tmod (wrap64 ((Int.tmod ((rd_T25 l0 x6_1).f0) 3) + 3)) 3))) = 2
        ·rw [if_pos c10] at H
         have c10b0 : ((wrap64 (1 + (Int.tmod (wrap64 ((Int.tmod ((rd_T25 l0 x6_1).f0) 3) + 3)) 3))) == 2) = true := beq_iff_eq.mpr c10
         have c10b1 : ((wrap64 (1 + (Int.tmod (wrap64 ((Int.tmod ((rd_T25 l0 x6_1).f0) 3) + 3)) 3))) != 2) = false := bne_eq_false_iff_eq.mpr c10
         clear c10
         obtain ⟨ji11, hji11⟩ : ∃ j_ : Int, (mn (((rd_T25 l0 x6_1).f2).size : Int) 6) = j_ := ⟨_, rfl⟩
         replace H : (if 0 ≤ (ji11) then (if (ji11) ≤ (((rd_T25 l0 x6_1).f2).size : Int) then ((epitomeref01_Fit.f kj4 (((rd_T25 l0 x6_1).f2).extract 0 ((ji11) : Int).toNat)).bind fun t228 => (if x5_1.length < 4398046511104 then (epitomeref04_Fit.l0 kj4 l0 x1_1 (x5_1 ++ [(⟨wrap64 (1 + (Int.tmod (wrap64 ((Int.tmod ((rd_T25 l0 x6_1).f0) 3) + 3)) 3)), 0, t228⟩ : S25)]) (wrap64 (x6_1 + 1))) else (none))) else (none)) else (none)) = some r := by first | (rw [hji11] at H; exact H) | (simp only [hji11] at H ⊢; exact H)
         have hji11_ : (if 6 < (((rd_T25 l0 x6_1).f2).size : Int) then 6 else (((rd_T25 l0 x6_1).f2).size : Int)) = ji11 := hji11
         by_cases c12 : 0 ≤ (ji11)
         ·rw [if_pos c12] at H
          have c12b0 := eq_true c12
          have c12b1 : decide (0 ≤ (ji11)) = true := decide_eq_true c12
          clear c12
          by_cases c13 : (ji11) ≤ (((rd_T25 l0 x6_1).f2).size : Int)
          ·rw [if_pos c13] at H
           have c13b0 := eq_true c13
           have c13b1 : decide ((ji11) ≤ (((rd_T25 l0 x6_1).f2).size : Int)) = true := decide_eq_true c13
           clear c13
           replace H := Option.bind_eq_some_iff.mp H
           obtain ⟨t228, A140, H⟩ := H
           replace H : (if x5_1.length < 4398046511104 then (epitomeref04_Fit.l0 kj4 l0 x1_1 (x5_1 ++ [(⟨wrap64 (1 + (Int.tmod (wrap64 ((Int.tmod ((rd_T25 l0 x6_1).f0) 3) + 3)) 3)), 0, t228⟩ : S25)]) (wrap64 (x6_1 + 1))) else (none)) = some r := H
           have A14 := am A140
           clear A140
           by_cases c15 : x5_1.length < 4398046511104
           ·rw [if_pos c15] at H
            have LMc15 := am c15
            clear c15
            obtain ⟨y229, hy229⟩ : ∃ y_ : List (S25), y_ = (x5_1 ++ [(⟨wrap64 (1 + (Int.tmod (wrap64 ((Int.tmod ((rd_T25 l0 x6_1).f0) 3) + 3)) 3)), 0, t228⟩ : S25)]) := ⟨_, rfl⟩
            replace H : (epitomeref04_Fit.l0 kj4 l0 x1_1 y229 (wrap64 (x6_1 + 1))) = some r := by first | (rw [hy229]; with_reducible exact H) | (have H2_ := (Option.bind_some _ _).symm.trans H; rw [hy229]; with_reducible exact H2_) | (have H2_ := (Option.bind_some _ _).symm.trans H; with_reducible exact H2_) | with_reducible exact H | (rw [hy229]; exact H) | exact H
            have Ny229 := am hy229
            clear hy229
            have H' := am H
            clear H
            have p224 : 0 ≤ (x6_1 : Int) := of_decide_eq_true as0
            have q224 : x6_1 < (l0.length : Int) := of_decide_eq_true as0
            obtain ⟨ad224, e224, hx224_0, hx224_1, hx224_2⟩ := at_T25 HR0.out x6_1 p224 q224
            cases e224
            replace hx224_0 := (HB.out.cell (World.block_lt_of_cell? w _ hx224_0)).trans hx224_0
            replace hx224_1 := (HB.out.cell (World.block_lt_of_cell? w _ hx224_1)).trans hx224_1
            replace hx224_2 := (HB.out.cell (World.block_lt_of_cell? w _ hx224_2)).trans hx224_2
            replace p224 := eq_true p224
            replace q224 := eq_true q224
            try go_wp2_with (first | ((with_reducible refine gate_dst (N := 7) rfl ?_); refine box_event ?hg (N := 7) ?hd (cs := #[.int .i64 0, .int .i64 0, .string (⟨#[]⟩ : ByteArray)]) (t := 25) ?hr ?_; (case hd => rfl); (case hg => rfl); (case hr => first | (go_simp; done) | (go_simp; rfl)); intro gb225 hg w16 hbox hb; have n0_ := am (Kd.R_below (Kd.R_elderB (by refine kR ?_; exact HO_5.out) gb225 (Nat.le_of_eq hg.symm)) hb); have n1_ := am (below_step bl hb); have n2_ := am (hbox); have n3_ := am ((gs : w.heap.size ≤ gb225)); have n4_ := am ((gs : w.heap.size ≤ gb225)); clear HO_5; clear HB; have HO_5 := n0_; have HB := n1_; have BK225 := n2_; have GW225 := n3_; have GE225 := n4_; clear n0_ n1_ n2_ n3_ n4_; clear hb hbox hg; have hcz17_0 : w16.cell? ⟨gb225, 0, none⟩ = some (.int .i64 0) := (blk_cell BK225.out 0).trans rfl; have hcz17_1 : w16.cell? ⟨gb225, 1, none⟩ = some (.int .i64 0) := (blk_cell BK225.out 1).trans rfl; have hcz17_2 : w16.cell? ⟨gb225, 2, none⟩ = some (.string (⟨#[]⟩ : ByteArray)) := (blk_cell BK225.out 2).trans rfl; have hfz17_0 := blk_frozen BK225.out 0; have hfz17_1 := blk_frozen BK225.out 1; have hfz17_2 := blk_frozen BK225.out 2))
            have n0_ : Aside0 (Kd.R k25 25 (((w16.setCell ⟨gb225, 0, none⟩ (.int .i64 (wrap64 (1 + (Int.tmod (wrap64 ((Int.tmod ((rd_T25 l0 x6_1).f0) 3) + 3)) 3))))).setCell ⟨gb225, 1, none⟩ (.int .i64 0)).setCell ⟨gb225, 2, none⟩ (.string (⟨#[]⟩ : ByteArray))) w.heap.size (fun k_ => k_ ≠ gb225) u5 x5_1) := ⟨by refine kR ?_; exact Kd.R_mono (Kd.R_far (p := ⟨gb225, 2, none⟩) (Kd.R_far (p := ⟨gb225, 1, none⟩) (Kd.R_far (p := ⟨gb225, 0, none⟩) (Kd.R_mono HO_5.out (fun k_ hk => (⟨hk, hk.2⟩ : _ ∧ k_ ≠ gb225))) (fun _ hk => hk.2) (.int .i64 (wrap64 (1 + (Int.tmod (wrap64 ((Int.tmod ((rd_T25 l0 x6_1).f0) 3) + 3)) 3))))) (fun _ hk => hk.2) (.int .i64 0)) (fun _ hk => hk.2) (.string (⟨#[]⟩ : ByteArray))) (fun _ hk => hk.1.2)⟩
            have n1_ : Aside0 ((((w16.setCell ⟨gb225, 0, none⟩ (.int .i64 (wrap64 (1 + (Int.tmod (wrap64 ((Int.tmod ((rd_T25 l0 x6_1).f0) 3) + 3)) 3))))).setCell ⟨gb225, 1, none⟩ (.int .i64 0)).setCell ⟨gb225, 2, none⟩ (.string (⟨#[]⟩ : ByteArray))).heap[gb225]? = some (.cells #[.int .i64 (wrap64 (1 + (Int.tmod (wrap64 ((Int.tmod ((rd_T25 l0 x6_1).f0) 3) + 3)) 3))), .int .i64 0, .string (⟨#[]⟩ : ByteArray)] 25 (0, 0))) := ⟨by refine bk ?_; refine blk_put (cs := #[.int .i64 (wrap64 (1 + (Int.tmod (wrap64 ((Int.tmod ((rd_T25 l0 x6_1).f0) 3) + 3)) 3))), .int .i64 0, .string (⟨#[]⟩ : ByteArray)]) ?_ 2 _ rfl; refine bk ?_; refine blk_put (cs := #[.int .i64 (wrap64 (1 + (Int.tmod (wrap64 ((Int.tmod ((rd_T25 l0 x6_1).f0) 3) + 3)) 3))), .int .i64 0, .string (⟨#[]⟩ : ByteArray)]) ?_ 1 _ rfl; refine bk ?_; refine blk_put (cs := #[.int .i64 0, .int .i64 0, .string (⟨#[]⟩ : ByteArray)]) ?_ 0 _ rfl; refine bk ?_; exact BK225.out⟩
            have n2_ : Aside0 (Below w.heap.size w (((w16.setCell ⟨gb225, 0, none⟩ (.int .i64 (wrap64 (1 + (Int.tmod (wrap64 ((Int.tmod ((rd_T25 l0 x6_1).f0) 3) + 3)) 3))))).setCell ⟨gb225, 1, none⟩ (.int .i64 0)).setCell ⟨gb225, 2, none⟩ (.string (⟨#[]⟩ : ByteArray)))) := ⟨bl⟩
            (try clear HO_5)
            (try clear BK225)
            (try clear HB)
            generalize (((w16.setCell ⟨gb225, 0, none⟩ (.int .i64 (wrap64 (1 + (Int.tmod (wrap64 ((Int.tmod ((rd_T25 l0 x6_1).f0) 3) + 3)) 3))))).setCell ⟨gb225, 1, none⟩ (.int .i64 0)).setCell ⟨gb225, 2, none⟩ (.string (⟨#[]⟩ : ByteArray))) = w18 at n0_ n1_ n2_ ⊢
            have HO_5 := n0_
            have BK225 := n1_
            have HB := n2_
            clear n0_ n1_ n2_
            have n0_ := am (Kd.R_drew HO_5.out)
            have n1_ := am (blk_drew BK225.out)
            have n2_ := am (below_drew1 HB.out)
            clear HO_5
            clear BK225
            clear HB
            have HO_5 := n0_
            have BK225 := n1_
            have HB := n2_
            clear n0_ n1_ n2_
            have p226 : 0 ≤ (x6_1 : Int) := of_decide_eq_true as0
            have q226 : x6_1 < (l0.length : Int) := of_decide_eq_true as0
            obtain ⟨ad226, e226, hx226_0, hx226_1, hx226_2⟩ := at_T25 HR0.out x6_1 p226 q226
            have hw226_2 := hx226_2
            have hw226_1 := hx226_1
            have hw226_0 := hx226_0
            obtain rfl : ad224 = ad226 := (by injection e226)
            replace hx226_0 := (HB.out.cell (World.block_lt_of_cell? w _ hx226_0)).trans hx226_0
            replace hx226_1 := (HB.out.cell (World.block_lt_of_cell? w _ hx226_1)).trans hx226_1
            replace hx226_2 := (HB.out.cell (World.block_lt_of_cell? w _ hx226_2)).trans hx226_2
            replace p226 := eq_true p226
            replace q226 := eq_true q226
            have p227 : 0 ≤ (x6_1 : Int) := of_decide_eq_true as0
            have q227 : x6_1 < (l0.length : Int) := of_decide_eq_true as0
            obtain ⟨ad227, e227, hx227_0, hx227_1, hx227_2⟩ := at_T25 HR0.out x6_1 p227 q227
            have hw227_2 := hx227_2
            have hw227_1 := hx227_1
            have hw227_0 := hx227_0
            obtain rfl : ad224 = ad227 := (by injection e227)
            replace hx227_0 := (HB.out.cell (World.block_lt_of_cell? w _ hx227_0)).trans hx227_0
            replace hx227_1 := (HB.out.cell (World.block_lt_of_cell? w _ hx227_1)).trans hx227_1
            replace hx227_2 := (HB.out.cell (World.block_lt_of_cell? w _ hx227_2)).trans hx227_2
            replace p227 := eq_true p227
            replace q227 := eq_true q227
            refine start_ (n := 16) (S := fun w' => w'.cell? (ad224.add ((x6_1).toNat * 3)) = some (.int .i64 ((rd_T25 l0 x6_1).f0)) ∧ w'.cell? ⟨(ad224.add ((x6_1).toNat * 3)).block, (ad224.add ((x6_1).toNat * 3)).off + 1, none⟩ = some (.int .i64 ((rd_T25 l0 x6_1).f1)) ∧ w'.cell? ⟨(ad224.add ((x6_1).toNat * 3)).block, (ad224.add ((x6_1).toNat * 3)).off + 2, none⟩ = some (.string ((rd_T25 l0 x6_1).f2)) ∧ w'.cell? (ad224.add ((x6_1).toNat * 3)) = some (.int .i64 ((rd_T25 l0 x6_1).f0)) ∧ w'.cell? ⟨(ad224.add ((x6_1).toNat * 3)).block, (ad224.add ((x6_1).toNat * 3)).off + 1, none⟩ = some (.int .i64 ((rd_T25 l0 x6_1).f1)) ∧ w'.cell? ⟨(ad224.add ((x6_1).toNat * 3)).block, (ad224.add ((x6_1).toNat * 3)).off + 2, none⟩ = some (.string ((rd_T25 l0 x6_1).f2))) (ds := []) #[false, false, false, false, false, false, false, false, false, false, false, false, false, false, false, false] (by kernel_rfl) rfl rfl ⟨((HB.out.cell (World.block_lt_of_cell? w _ hw226_0)).trans hw226_0), ((HB.out.cell (World.block_lt_of_cell? w _ hw226_1)).trans hw226_1), ((HB.out.cell (World.block_lt_of_cell? w _ hw226_2)).trans hw226_2), ((HB.out.cell (World.block_lt_of_cell? w _ hw227_0)).trans hw227_0), ((HB.out.cell (World.block_lt_of_cell? w _ hw227_1)).trans hw227_1), ((HB.out.cell (World.block_lt_of_cell? w _ hw227_2)).trans hw227_2)⟩ (fun hHeld => ?_); refine with_tabW epitomeref04_Fit.tab7 epitomeref04_Fit.bits7 (fun HT_ HW_ => ?_)
            generalize w18.drew = w19 at HO_5 BK225 HB hx226_0 hx226_1 hx226_2 hx227_0 hx227_1 hx227_2 hHeld ⊢
            refine pure_ (i := 0) (N := some 32) #[true, false, false, false, false, false, false, false, false, false, false, false, false, false, false, false] rfl rfl (aT HT_.out) (fun _ _ _ h => h) (Or.inl ⟨rfl, rn⟩) ap ?_
            refine pure_ (i := 1) (N := some 33) #[true, true, false, false, false, false, false, false, false, false, false, false, false, false, false, false] rfl rfl (aT HT_.out) (fun _ _ _ h => h) (Or.inl ⟨rfl, rn⟩) ap ?_
            refine pure_ (i := 2) (N := some 34) #[true, true, true, false, false, false, false, false, false, false, false, false, false, false, false, false] rfl rfl (aT HT_.out) (fun _ _ _ h => h) (Or.inl ⟨rfl, rn⟩) ap ?_
            refine pure_ (i := 3) (N := some 35) #[true, true, true, true, false, false, false, false, false, false, false, false, false, false, false, false] rfl rfl (aT HT_.out) (fun _ _ _ h => h) (Or.inl ⟨rfl, rn⟩) ap ?_
            refine pure_ (i := 5) (N := some 37) #[true, true, true, true, false, true, false, false, false, false, false, false, false, false, false, false] rfl rfl (aT HT_.out) (fun _ _ _ h => h) (Or.inl ⟨rfl, rn⟩) ap ?_
            refine pure_ (i := 6) (N := some 38) #[true, true, true, true, false, true, true, false, false, false, false, false, false, false, false, false] rfl rfl (aT HT_.out) (fun _ _ _ h => h) (Or.inl ⟨rfl, rn⟩) ap ?_
            refine pure_ (i := 7) (N := some 39) #[true, true, true, true, false, true, true, true, false, false, false, false, false, false, false, false] rfl rfl (aT HT_.out) (fun _ _ _ h => h) (Or.inl ⟨rfl, rn⟩) ap ?_
            refine pure_ (i := 8) (N := some 40) #[true, true, true, true, false, true, true, true, true, false, false, false, false, false, false, false] rfl rfl (aT HT_.out) (fun _ _ _ h => h) (Or.inl ⟨rfl, rn⟩) ap ?_
            refine take_ (i := 4) (N := some 36) (v := ?_) (a' := ?_) #[true, true, true, true, true, true, true, true, true, false, false, false, false, false, false, false] rfl rfl (take_ofW HT_.out HW_.out (by kernel_rfl)) (fun _ _ _ h => h) (Or.inl ⟨by rfl, ?_⟩) hHeld ?_ ?_
            rotate_left
            ·rintro w' ⟨s0, s1, s2, s3, s4, s5⟩
             go_simp
             with_reducible rfl
            rotate_left
            ·exact ap
            refine take_ (i := 9) (N := some 41) (v := ?_) (a' := ?_) #[true, true, true, true, true, true, true, true, true, true, false, false, false, false, false, false] rfl rfl (take_ofW HT_.out HW_.out (by kernel_rfl)) (fun _ _ _ h => h) (Or.inl ⟨by rfl, ?_⟩) hHeld ?_ ?_
            rotate_left
            ·rintro w' ⟨s0, s1, s2, s3, s4, s5⟩
             go_simp
             with_reducible rfl
            rotate_left
            ·exact ap
            refine pure_ (i := 10) (N := some 42) #[true, true, true, true, true, true, true, true, true, true, true, false, false, false, false, false] rfl rfl (aT HT_.out) (fun _ _ _ h => h) (Or.inl ⟨rfl, rn⟩) ap ?_
            refine pure_ (i := 11) (N := some 43) #[true, true, true, true, true, true, true, true, true, true, true, true, false, false, false, false] rfl rfl (aT HT_.out) (fun _ _ _ h => h) (Or.inl ⟨rfl, rn⟩) ap ?_
            refine pure_ (i := 12) (N := some 44) #[true, true, true, true, true, true, true, true, true, true, true, true, true, false, false, false] rfl rfl (aT HT_.out) (fun _ _ _ h => h) (Or.inl ⟨rfl, rn⟩) ap ?_
            refine one_ (i := 13) (N := some 45) #[true, true, true, true, true, true, true, true, true, true, true, true, true, true, false, false] rfl rfl (one_of HT_.out (by kernel_rfl)) (by decide) (fun K hK => ?_)
            refine goes_ Tryd.func9 (by kernel_rfl) rfl #[.string (((rd_T25 l0 x6_1).f2).extract 0 ((ji11) : Int).toNat)] (by rfl) rfl rfl (by (try simp only [List.map_toArray, List.map_cons, List.map_nil]); first | done | (simp only [hji11]; rfl) | rfl | (simp only [List.length_drop, List.length_take]; rfl)) ?_
            with_reducible refine (epitomeref01_Fit.calls kj4 (((rd_T25 l0 x6_1).f2).extract 0 ((ji11) : Int).toNat) t228 _ A14.out).mono ?_
            rintro e w20 ⟨rfl, hb⟩
            refine ⟨_, rfl, ?_⟩
            have n0_ := am (Kd.R_below (by refine kR ?_; exact HO_5.out) hb)
            have n1_ := am (blk_below (g := gb225) (o := .cells #[.int .i64 (wrap64 (1 + (Int.tmod (wrap64 ((Int.tmod ((rd_T25 l0 x6_1).f0) 3) + 3)) 3))), .int .i64 0, .string (⟨#[]⟩ : ByteArray)] 25 (0, 0)) (by refine bk ?_; exact BK225.out) hb)
            have n2_ := am (below_step bl hb)
            clear HO_5
            clear BK225
            clear HB
            have HO_5 := n0_
            have BK225 := n1_
            have HB := n2_
            clear n0_ n1_ n2_
            (try clear hb)
            (try clear hb2)
            (try clear hk)
            (try clear hi)
            refine hK.out _ _ ⟨((HB.out.cell (World.block_lt_of_cell? w _ hw226_0)).trans hw226_0), ((HB.out.cell (World.block_lt_of_cell? w _ hw226_1)).trans hw226_1), ((HB.out.cell (World.block_lt_of_cell? w _ hw226_2)).trans hw226_2), ((HB.out.cell (World.block_lt_of_cell? w _ hw227_0)).trans hw227_0), ((HB.out.cell (World.block_lt_of_cell? w _ hw227_1)).trans hw227_1), ((HB.out.cell (World.block_lt_of_cell? w _ hw227_2)).trans hw227_2)⟩ (fun hHeld => ?_)
            clear hK K
            refine norm_ (a' := ?_) ?_ ?_
            rotate_left
            ·show Act.put _ (some 45) _ = _
             simp only [Act.put, List.setIfInBounds_toArray, List.set_cons_zero, List.set_cons_succ, i64_w, i32_w]
             rfl
            refine pure_ (i := 14) (N := some 46) #[true, true, true, true, true, true, true, true, true, true, true, true, true, true, true, false] rfl rfl (aT HT_.out) (fun _ _ _ h => h) (Or.inl ⟨rfl, rn⟩) ap ?_
            refine one_ (i := 15) (N := none) #[true, true, true, true, true, true, true, true, true, true, true, true, true, true, true, true] rfl rfl (one_of HT_.out (by kernel_rfl)) (by decide) (fun K hK => ?_)
            have hs21 : w20.cell? ⟨gb225, 2, none⟩ = some (.string (⟨#[]⟩ : ByteArray)) := (blk_cell BK225.out 2).trans rfl
            have hfs21 := blk_frozen BK225.out 2
            refine skip_ (w1 := ?_) (by rfl) rfl ?_ ?_
            rotate_left
            ·go_simp
             rfl
            refine hK.out _ _ ⟨((cell_far (p := ⟨gb225, _, none⟩) (by first | exact Nat.ne_of_lt (Nat.lt_of_lt_of_le (by have := World.block_lt_of_cell? _ _ hw226_0; first | rwa [add_block] at this | exact this) GW225.out) | (rw [add_block]; exact Nat.ne_of_lt (Nat.lt_of_lt_of_le (by have := World.block_lt_of_cell? _ _ hw226_0; first | rwa [add_block] at this | exact this) GW225.out)) | (show (Addr.add _ _).block ≠ _; rw [add_block]; exact Nat.ne_of_lt (Nat.lt_of_lt_of_le (by have := World.block_lt_of_cell? _ _ hw226_0; first | rwa [add_block] at this | exact this) GW225.out)) | (dsimp only; exact Nat.ne_of_lt (Nat.lt_of_lt_of_le (by have := World.block_lt_of_cell? _ _ hw226_0; first | rwa [add_block] at this | exact this) GW225.out))) _).trans (hHeld.1)), ((cell_far (p := ⟨gb225, _, none⟩) (by first | exact Nat.ne_of_lt (Nat.lt_of_lt_of_le (by have := World.block_lt_of_cell? _ _ hw226_1; first | rwa [add_block] at this | exact this) GW225.out) | (rw [add_block]; exact Nat.ne_of_lt (Nat.lt_of_lt_of_le (by have := World.block_lt_of_cell? _ _ hw226_1; first | rwa [add_block] at this | exact this) GW225.out)) | (show (Addr.add _ _).block ≠ _; rw [add_block]; exact Nat.ne_of_lt (Nat.lt_of_lt_of_le (by have := World.block_lt_of_cell? _ _ hw226_1; first | rwa [add_block] at this | exact this) GW225.out)) | (dsimp only; exact Nat.ne_of_lt (Nat.lt_of_lt_of_le (by have := World.block_lt_of_cell? _ _ hw226_1; first | rwa [add_block] at this | exact this) GW225.out))) _).trans (hHeld.2.1)), ((cell_far (p := ⟨gb225, _, none⟩) (by first | exact Nat.ne_of_lt (Nat.lt_of_lt_of_le (by have := World.block_lt_of_cell? _ _ hw226_2; first | rwa [add_block] at this | exact this) GW225.out) | (rw [add_block]; exact Nat.ne_of_lt (Nat.lt_of_lt_of_le (by have := World.block_lt_of_cell? _ _ hw226_2; first | rwa [add_block] at this | exact this) GW225.out)) | (show (Addr.add _ _).block ≠ _; rw [add_block]; exact Nat.ne_of_lt (Nat.lt_of_lt_of_le (by have := World.block_lt_of_cell? _ _ hw226_2; first | rwa [add_block] at this | exact this) GW225.out)) | (dsimp only; exact Nat.ne_of_lt (Nat.lt_of_lt_of_le (by have := World.block_lt_of_cell? _ _ hw226_2; first | rwa [add_block] at this | exact this) GW225.out))) _).trans (hHeld.2.2.1)), ((cell_far (p := ⟨gb225, _, none⟩) (by first | exact Nat.ne_of_lt (Nat.lt_of_lt_of_le (by have := World.block_lt_of_cell? _ _ hw227_0; first | rwa [add_block] at this | exact this) GW225.out) | (rw [add_block]; exact Nat.ne_of_lt (Nat.lt_of_lt_of_le (by have := World.block_lt_of_cell? _ _ hw227_0; first | rwa [add_block] at this | exact this) GW225.out)) | (show (Addr.add _ _).block ≠ _; rw [add_block]; exact Nat.ne_of_lt (Nat.lt_of_lt_of_le (by have := World.block_lt_of_cell? _ _ hw227_0; first | rwa [add_block] at this | exact this) GW225.out)) | (dsimp only; exact Nat.ne_of_lt (Nat.lt_of_lt_of_le (by have := World.block_lt_of_cell? _ _ hw227_0; first | rwa [add_block] at this | exact this) GW225.out))) _).trans (hHeld.2.2.2.1)), ((cell_far (p := ⟨gb225, _, none⟩) (by first | exact Nat.ne_of_lt (Nat.lt_of_lt_of_le (by have := World.block_lt_of_cell? _ _ hw227_1; first | rwa [add_block] at this | exact this) GW225.out) | (rw [add_block]; exact Nat.ne_of_lt (Nat.lt_of_lt_of_le (by have := World.block_lt_of_cell? _ _ hw227_1; first | rwa [add_block] at this | exact this) GW225.out)) | (show (Addr.add _ _).block ≠ _; rw [add_block]; exact Nat.ne_of_lt (Nat.lt_of_lt_of_le (by have := World.block_lt_of_cell? _ _ hw227_1; first | rwa [add_block] at this | exact this) GW225.out)) | (dsimp only; exact Nat.ne_of_lt (Nat.lt_of_lt_of_le (by have := World.block_lt_of_cell? _ _ hw227_1; first | rwa [add_block] at this | exact this) GW225.out))) _).trans (hHeld.2.2.2.2.1)), ((cell_far (p := ⟨gb225, _, none⟩) (by first | exact Nat.ne_of_lt (Nat.lt_of_lt_of_le (by have := World.block_lt_of_cell? _ _ hw227_2; first | rwa [add_block] at this | exact this) GW225.out) | (rw [add_block]; exact Nat.ne_of_lt (Nat.lt_of_lt_of_le (by have := World.block_lt_of_cell? _ _ hw227_2; first | rwa [add_block] at this | exact this) GW225.out)) | (show (Addr.add _ _).block ≠ _; rw [add_block]; exact Nat.ne_of_lt (Nat.lt_of_lt_of_le (by have := World.block_lt_of_cell? _ _ hw227_2; first | rwa [add_block] at this | exact this) GW225.out)) | (dsimp only; exact Nat.ne_of_lt (Nat.lt_of_lt_of_le (by have := World.block_lt_of_cell? _ _ hw227_2; first | rwa [add_block] at this | exact this) GW225.out))) _).trans (hHeld.2.2.2.2.2))⟩ (fun hHeld => ?_)
            clear hK K
            refine done_ (done_of HT_.out (by kernel_rfl)) ?_
            have hcz22_0 : w20.cell? ⟨gb225, 0, none⟩ = some (.int .i64 (wrap64 (1 + (Int.tmod (wrap64 ((Int.tmod ((rd_T25 l0 x6_1).f0) 3) + 3)) 3)))) := (blk_cell BK225.out 0).trans rfl
            have hcz22_1 : w20.cell? ⟨gb225, 1, none⟩ = some (.int .i64 0) := (blk_cell BK225.out 1).trans rfl
            have hcz22_2 : w20.cell? ⟨gb225, 2, none⟩ = some (.string (⟨#[]⟩ : ByteArray)) := (blk_cell BK225.out 2).trans rfl
            have hfz22_0 := blk_frozen BK225.out 0
            have hfz22_1 := blk_frozen BK225.out 1
            have hfz22_2 := blk_frozen BK225.out 2
            try go_wp2_with (first | ((with_reducible refine gate_builtin (b := .append) (xs := #[.tmp 62, .tmp 64]) rfl ?_); at_builtin; refine Kd.R_append k25 (w0 := w) w.heap.size rfl (.tmp 62) (.tmp 64) 27 25 (.agg #[(.int .i64 0), (.int .i64 0), (.string ⟨#[]⟩)]) 32 rfl Tryd.underlying27 info25 rfl (by decide) (by omega) u5 x5_1 (⟨wrap64 (1 + (Int.tmod (wrap64 ((Int.tmod ((rd_T25 l0 x6_1).f0) 3) + 3)) 3)), 0, t228⟩ : S25) [.int .i64 (wrap64 (1 + (Int.tmod (wrap64 ((Int.tmod ((rd_T25 l0 x6_1).f0) 3) + 3)) 3))), .int .i64 0, .string t228] (fun k_ => k_ ≠ gb225) (fun _ => False) rfl (by first | (go_simp; done) | (go_simp; rfl)) ?aP (fun _ hk => hk.elim) ?aF ?aO ?aB ?aS ?aL ?_; (case aP => exact k25_mkM _ _ _ (⟨wrap64 (1 + (Int.tmod (wrap64 ((Int.tmod ((rd_T25 l0 x6_1).f0) 3) + 3)) 3)), 0, t228⟩ : S25)); (case aB => exact bl); (case aF => exact (fun k_ hk => Kd.freshB (g := gb225) (o := .cells #[.int .i64 (wrap64 (1 + (Int.tmod (wrap64 ((Int.tmod ((rd_T25 l0 x6_1).f0) 3) + 3)) 3))), .int .i64 0, .string t228] 25 (0, 0)) (by refine bk ?_; refine blk_put (cs := #[.int .i64 (wrap64 (1 + (Int.tmod (wrap64 ((Int.tmod ((rd_T25 l0 x6_1).f0) 3) + 3)) 3))), .int .i64 0, .string (⟨#[]⟩ : ByteArray)]) ?_ 2 _ rfl; refine bk ?_; exact BK225.out) k_ hk)); (case aO => exact (by refine kR ?_; exact Kd.R_mono (Kd.R_far (p := ⟨gb225, 2, none⟩) (Kd.R_mono HO_5.out (fun k_ hk => (⟨hk, hk⟩ : _ ∧ k_ ≠ gb225))) (fun _ hk => hk.2) (.string t228)) (fun _ hk => hk.1))); (case aS => exact (below_size bl)); (case aL => have := LMc15.out; omega); intro v230 w23 ho hb hg hat; rw [← Ny229.out] at ho; have n0_ := am (blk_grown (g := gb225) (o := .cells #[.int .i64 (wrap64 (1 + (Int.tmod (wrap64 ((Int.tmod ((rd_T25 l0 x6_1).f0) 3) + 3)) 3))), .int .i64 0, .string t228] 25 (0, 0)) (by refine bk ?_; refine blk_put (cs := #[.int .i64 (wrap64 (1 + (Int.tmod (wrap64 ((Int.tmod ((rd_T25 l0 x6_1).f0) 3) + 3)) 3))), .int .i64 0, .string (⟨#[]⟩ : ByteArray)]) ?_ 2 _ rfl; refine bk ?_; exact BK225.out) hg (Kd.R_away HO_5.out (fun _ hk => hk))); have n1_ := am (hb); have n2_ := am (ho); clear BK225; clear HB; clear HO_5; have BK225 := n0_; have HB := n1_; have HO231 := n2_; clear n0_ n1_ n2_; clear ho hb hg hat))
            go_roundg kj4
            case measure => have := HK1.out; have := HJ4.out; omega
            case rel => exact ⟨(x1_1), (y229), (wrap64 (x6_1 + 1)), pj, pj, H', ⟨by have := HK1.out; have := HJ4.out; omega⟩, ⟨by refine kR ?_; exact Kd.R_mono HO231.out (fun _ hk => trivial)⟩, ⟨bl⟩⟩
           ·rw [if_neg c15] at H
            exact absurd H (by simp)
          ·rw [if_neg c13] at H
           exact absurd H (by simp)
         ·rw [if_neg c12] at H
          exact absurd H (by simp)
        ·rw [if_neg c10] at H
         have c10b0 : ((wrap64 (1 + (Int.tmod (wrap64 ((Int.tmod ((rd_T25 l0 x6_1).f0) 3) + 3)) 3))) == 2) = false := beq_eq_false_iff_ne.mpr c10
         have c10b1 : ((wrap64 (1 + (Int.tmod (wrap64 ((Int.tmod ((rd_T25 l0 x6_1).f0) 3) + 3)) 3))) != 2) = true := bne_iff_ne.mpr c10
         obtain ⟨ji24, hji24⟩ : ∃ j_ : Int, (mn (Int.tmod (wrap64 ((Int.tmod ((rd_T25 l0 x6_1).f1) 7) + 7)) 7) x1_1) = j_ := ⟨_, rfl⟩
         replace H : (if x5_1.length < 4398046511104 then (epitomeref04_Fit.l0 kj4 l0 (wrap64 (x1_1 - (ji24))) (x5_1 ++ [(⟨wrap64 (1 + (Int.tmod (wrap64 ((Int.tmod ((rd_T25 l0 x6_1).f0) 3) + 3)) 3)), ji24, (⟨#[]⟩ : ByteArray)⟩ : S25)]) (wrap64 (x6_1 + 1))) else (none)) = some r := by first | (rw [hji24] at H; exact H) | (simp only [hji24] at H ⊢; exact H)
         have hji24_ : (if x1_1 < (Int.tmod (wrap64 ((Int.tmod ((rd_T25 l0 x6_1).f1) 7) + 7)) 7) then x1_1 else (Int.tmod (wrap64 ((Int.tmod ((rd_T25 l0 x6_1).f1) 7) + 7)) 7)) = ji24 := hji24
         by_cases c25 : x5_1.length < 4398046511104
         ·rw [if_pos c25] at H
          have LMc25 := am c25
          clear c25
          obtain ⟨y233, hy233⟩ : ∃ y_ : List (S25), y_ = (x5_1 ++ [(⟨wrap64 (1 + (Int.tmod (wrap64 ((Int.tmod ((rd_T25 l0 x6_1).f0) 3) + 3)) 3)), ji24, (⟨#[]⟩ : ByteArray)⟩ : S25)]) := ⟨_, rfl⟩
          replace H : (epitomeref04_Fit.l0 kj4 l0 (wrap64 (x1_1 - (ji24))) y233 (wrap64 (x6_1 + 1))) = some r := by first | (rw [hy233]; with_reducible exact H) | (have H2_ := (Option.bind_some _ _).symm.trans H; rw [hy233]; with_reducible exact H2_) | (have H2_ := (Option.bind_some _ _).symm.trans H; with_reducible exact H2_) | with_reducible exact H | (rw [hy233]; exact H) | exact H
          have Ny233 := am hy233
          clear hy233
          have H' := am H
          clear H
          have p224 : 0 ≤ (x6_1 : Int) := of_decide_eq_true as0
          have q224 : x6_1 < (l0.length : Int) := of_decide_eq_true as0
          obtain ⟨ad224, e224, hx224_0, hx224_1, hx224_2⟩ := at_T25 HR0.out x6_1 p224 q224
          cases e224
          replace hx224_0 := (HB.out.cell (World.block_lt_of_cell? w _ hx224_0)).trans hx224_0
          replace hx224_1 := (HB.out.cell (World.block_lt_of_cell? w _ hx224_1)).trans hx224_1
          replace hx224_2 := (HB.out.cell (World.block_lt_of_cell? w _ hx224_2)).trans hx224_2
          replace p224 := eq_true p224
          replace q224 := eq_true q224
          go_wp2_with (first | ((with_reducible refine gate_dst (N := 7) rfl ?_); refine box_event ?hg (N := 7) ?hd (cs := #[.int .i64 0, .int .i64 0, .string (⟨#[]⟩ : ByteArray)]) (t := 25) ?hr ?_; (case hd => rfl); (case hg => rfl); (case hr => first | (go_simp; done) | (go_simp; rfl)); intro gb225 hg w26 hbox hb; have n0_ := am (Kd.R_below (Kd.R_elderB (by refine kR ?_; exact HO_5.out) gb225 (Nat.le_of_eq hg.symm)) hb); have n1_ := am (below_step bl hb); have n2_ := am (hbox); have n3_ := am ((gs : w.heap.size ≤ gb225)); have n4_ := am ((gs : w.heap.size ≤ gb225)); clear HO_5; clear HB; have HO_5 := n0_; have HB := n1_; have BK225 := n2_; have GW225 := n3_; have GE225 := n4_; clear n0_ n1_ n2_ n3_ n4_; clear hb hbox hg; have hcz27_0 : w26.cell? ⟨gb225, 0, none⟩ = some (.int .i64 0) := (blk_cell BK225.out 0).trans rfl; have hcz27_1 : w26.cell? ⟨gb225, 1, none⟩ = some (.int .i64 0) := (blk_cell BK225.out 1).trans rfl; have hcz27_2 : w26.cell? ⟨gb225, 2, none⟩ = some (.string (⟨#[]⟩ : ByteArray)) := (blk_cell BK225.out 2).trans rfl; have hfz27_0 := blk_frozen BK225.out 0; have hfz27_1 := blk_frozen BK225.out 1; have hfz27_2 := blk_frozen BK225.out 2; have hcw_ : ((((w26.setCell ⟨gb225, 0, none⟩ (.int .i64 (wrap64 (1 + (Int.tmod (wrap64 ((Int.tmod ((rd_T25 l0 x6_1).f0) 3) + 3)) 3))))).setCell ⟨gb225, 1, none⟩ (.int .i64 0)).setCell ⟨gb225, 2, none⟩ (.string (⟨#[]⟩ : ByteArray))).setCell ⟨gb225, 1, none⟩ (.int .i64 ji24)).cell? ⟨gb225, 1, none⟩ = some (.int .i64 ji24) := (blk_cell (blk_put (blk_put (blk_put (blk_put BK225.out 0 _ rfl) 1 _ rfl) 2 _ rfl) 1 _ rfl) 1).trans rfl; have p232 : 0 ≤ (x6_1 : Int) := of_decide_eq_true as0; have q232 : x6_1 < (l0.length : Int) := of_decide_eq_true as0; obtain ⟨ad232, e232, hx232_0, hx232_1, hx232_2⟩ := at_T25 HR0.out x6_1 p232 q232; obtain rfl : ad224 = ad232 := (by injection e232); have hn232_0 : ad224.block ≠ gb225 := Nat.ne_of_lt (Nat.lt_of_lt_of_le (by have := World.block_lt_of_cell? _ _ hx232_0; first | rwa [add_block] at this | exact this) GW225.out); have hn232_1 : ad224.block ≠ gb225 := Nat.ne_of_lt (Nat.lt_of_lt_of_le (by have := World.block_lt_of_cell? _ _ hx232_0; first | rwa [add_block] at this | exact this) GW225.out); have hn232_2 : ad224.block ≠ gb225 := Nat.ne_of_lt (Nat.lt_of_lt_of_le (by have := World.block_lt_of_cell? _ _ hx232_0; first | rwa [add_block] at this | exact this) GW225.out); replace hx232_0 := (HB.out.cell (World.block_lt_of_cell? w _ hx232_0)).trans hx232_0; replace hx232_1 := (HB.out.cell (World.block_lt_of_cell? w _ hx232_1)).trans hx232_1; replace hx232_2 := (HB.out.cell (World.block_lt_of_cell? w _ hx232_2)).trans hx232_2; replace hx232_0 := (cell_far (p := ⟨gb225, 0, none⟩) (by first | (rw [add_block]; exact hn232_0) | (show (Addr.add _ _).block ≠ _; rw [add_block]; exact hn232_0) | exact hn232_0) (.int .i64 (wrap64 (1 + (Int.tmod (wrap64 ((Int.tmod ((rd_T25 l0 x6_1).f0) 3) + 3)) 3))))).trans hx232_0; replace hx232_1 := (cell_far (p := ⟨gb225, 0, none⟩) (by first | (rw [add_block]; exact hn232_0) | (show (Addr.add _ _).block ≠ _; rw [add_block]; exact hn232_0) | exact hn232_0) (.int .i64 (wrap64 (1 + (Int.tmod (wrap64 ((Int.tmod ((rd_T25 l0 x6_1).f0) 3) + 3)) 3))))).trans hx232_1; replace hx232_2 := (cell_far (p := ⟨gb225, 0, none⟩) (by first | (rw [add_block]; exact hn232_0) | (show (Addr.add _ _).block ≠ _; rw [add_block]; exact hn232_0) | exact hn232_0) (.int .i64 (wrap64 (1 + (Int.tmod (wrap64 ((Int.tmod ((rd_T25 l0 x6_1).f0) 3) + 3)) 3))))).trans hx232_2; replace hx232_0 := (cell_far (p := ⟨gb225, 1, none⟩) (by first | (rw [add_block]; exact hn232_1) | (show (Addr.add _ _).block ≠ _; rw [add_block]; exact hn232_1) | exact hn232_1) (.int .i64 0)).trans hx232_0; replace hx232_1 := (cell_far (p := ⟨gb225, 1, none⟩) (by first | (rw [add_block]; exact hn232_1) | (show (Addr.add _ _).block ≠ _; rw [add_block]; exact hn232_1) | exact hn232_1) (.int .i64 0)).trans hx232_1; replace hx232_2 := (cell_far (p := ⟨gb225, 1, none⟩) (by first | (rw [add_block]; exact hn232_1) | (show (Addr.add _ _).block ≠ _; rw [add_block]; exact hn232_1) | exact hn232_1) (.int .i64 0)).trans hx232_2; replace hx232_0 := (cell_far (p := ⟨gb225, 2, none⟩) (by first | (rw [add_block]; exact hn232_2) | (show (Addr.add _ _).block ≠ _; rw [add_block]; exact hn232_2) | exact hn232_2) (.string (⟨#[]⟩ : ByteArray))).trans hx232_0; replace hx232_1 := (cell_far (p := ⟨gb225, 2, none⟩) (by first | (rw [add_block]; exact hn232_2) | (show (Addr.add _ _).block ≠ _; rw [add_block]; exact hn232_2) | exact hn232_2) (.string (⟨#[]⟩ : ByteArray))).trans hx232_1; replace hx232_2 := (cell_far (p := ⟨gb225, 2, none⟩) (by first | (rw [add_block]; exact hn232_2) | (show (Addr.add _ _).block ≠ _; rw [add_block]; exact hn232_2) | exact hn232_2) (.string (⟨#[]⟩ : ByteArray))).trans hx232_2; clear hn232_0; clear hn232_1; clear hn232_2; replace p232 := eq_true p232; replace q232 := eq_true q232) | ((with_reducible refine gate_builtin (b := .append) (xs := #[.tmp 62, .tmp 64]) rfl ?_); at_builtin; refine Kd.R_append k25 (w0 := w) w.heap.size rfl (.tmp 62) (.tmp 64) 27 25 (.agg #[(.int .i64 0), (.int .i64 0), (.string ⟨#[]⟩)]) 32 rfl Tryd.underlying27 info25 rfl (by decide) (by omega) u5 x5_1 (⟨wrap64 (1 + (Int.tmod (wrap64 ((Int.tmod ((rd_T25 l0 x6_1).f0) 3) + 3)) 3)), ji24, (⟨#[]⟩ : ByteArray)⟩ : S25) [.int .i64 (wrap64 (1 + (Int.tmod (wrap64 ((Int.tmod ((rd_T25 l0 x6_1).f0) 3) + 3)) 3))), .int .i64 ji24, .string (⟨#[]⟩ : ByteArray)] (fun k_ => k_ ≠ gb225) (fun _ => False) rfl (by first | (go_simp; done) | (go_simp; rfl)) ?aP (fun _ hk => hk.elim) ?aF ?aO ?aB ?aS ?aL ?_; (case aP => exact k25_mkM _ _ _ (⟨wrap64 (1 + (Int.tmod (wrap64 ((Int.tmod ((rd_T25 l0 x6_1).f0) 3) + 3)) 3)), ji24, (⟨#[]⟩ : ByteArray)⟩ : S25)); (case aB => exact bl); (case aF => exact (fun k_ hk => Kd.freshB (g := gb225) (o := .cells #[.int .i64 (wrap64 (1 + (Int.tmod (wrap64 ((Int.tmod ((rd_T25 l0 x6_1).f0) 3) + 3)) 3))), .int .i64 ji24, .string (⟨#[]⟩ : ByteArray)] 25 (0, 0)) (by refine bk ?_; refine blk_put (cs := #[.int .i64 (wrap64 (1 + (Int.tmod (wrap64 ((Int.tmod ((rd_T25 l0 x6_1).f0) 3) + 3)) 3))), .int .i64 0, .string (⟨#[]⟩ : ByteArray)]) ?_ 1 _ rfl; refine bk ?_; refine blk_put (cs := #[.int .i64 (wrap64 (1 + (Int.tmod (wrap64 ((Int.tmod ((rd_T25 l0 x6_1).f0) 3) + 3)) 3))), .int .i64 0, .string (⟨#[]⟩ : ByteArray)]) ?_ 2 _ rfl; refine bk ?_; refine blk_put (cs := #[.int .i64 (wrap64 (1 + (Int.tmod (wrap64 ((Int.tmod ((rd_T25 l0 x6_1).f0) 3) + 3)) 3))), .int .i64 0, .string (⟨#[]⟩ : ByteArray)]) ?_ 1 _ rfl; refine bk ?_; refine blk_put (cs := #[.int .i64 0, .int .i64 0, .string (⟨#[]⟩ : ByteArray)]) ?_ 0 _ rfl; refine bk ?_; exact BK225.out) k_ hk)); (case aO => exact (by refine kR ?_; exact Kd.R_mono (Kd.R_far (p := ⟨gb225, 1, none⟩) (Kd.R_far (p := ⟨gb225, 2, none⟩) (Kd.R_far (p := ⟨gb225, 1, none⟩) (Kd.R_far (p := ⟨gb225, 0, none⟩) (Kd.R_mono HO_5.out (fun k_ hk => (⟨hk, hk.2⟩ : _ ∧ k_ ≠ gb225))) (fun _ hk => hk.2) (.int .i64 (wrap64 (1 + (Int.tmod (wrap64 ((Int.tmod ((rd_T25 l0 x6_1).f0) 3) + 3)) 3))))) (fun _ hk => hk.2) (.int .i64 0)) (fun _ hk => hk.2) (.string (⟨#[]⟩ : ByteArray))) (fun _ hk => hk.2) (.int .i64 ji24)) (fun _ hk => hk.1.2))); (case aS => exact (below_size bl)); (case aL => have := LMc25.out; omega); intro v234 w28 ho hb hg hat; rw [← Ny233.out] at ho; have n0_ := am (blk_grown (g := gb225) (o := .cells #[.int .i64 (wrap64 (1 + (Int.tmod (wrap64 ((Int.tmod ((rd_T25 l0 x6_1).f0) 3) + 3)) 3))), .int .i64 ji24, .string (⟨#[]⟩ : ByteArray)] 25 (0, 0)) (by refine bk ?_; refine blk_put (cs := #[.int .i64 (wrap64 (1 + (Int.tmod (wrap64 ((Int.tmod ((rd_T25 l0 x6_1).f0) 3) + 3)) 3))), .int .i64 0, .string (⟨#[]⟩ : ByteArray)]) ?_ 1 _ rfl; refine bk ?_; refine blk_put (cs := #[.int .i64 (wrap64 (1 + (Int.tmod (wrap64 ((Int.tmod ((rd_T25 l0 x6_1).f0) 3) + 3)) 3))), .int .i64 0, .string (⟨#[]⟩ : ByteArray)]) ?_ 2 _ rfl; refine bk ?_; refine blk_put (cs := #[.int .i64 (wrap64 (1 + (Int.tmod (wrap64 ((Int.tmod ((rd_T25 l0 x6_1).f0) 3) + 3)) 3))), .int .i64 0, .string (⟨#[]⟩ : ByteArray)]) ?_ 1 _ rfl; refine bk ?_; refine blk_put (cs := #[.int .i64 0, .int .i64 0, .string (⟨#[]⟩ : ByteArray)]) ?_ 0 _ rfl; refine bk ?_; exact BK225.out) hg (Kd.R_away HO_5.out (fun _ hk => hk.2))); have n1_ := am (hb); have n2_ := am (ho); clear BK225; clear HB; clear HO_5; have BK225 := n0_; have HB := n1_; have HO235 := n2_; clear n0_ n1_ n2_; clear ho hb hg hat))
          go_roundg kj4
          case measure => have := HK1.out; have := HJ4.out; omega
          case rel => exact ⟨(wrap64 (x1_1 - (ji24))), (y233), (wrap64 (x6_1 + 1)), (by first | rfl | (simp; done) | (simp only [← hji24] <;> (first | rfl | simp)) | (simp [*]; done)), pj, H', ⟨by have := HK1.out; have := HJ4.out; omega⟩, ⟨by refine kR ?_; exact Kd.R_mono HO235.out (fun _ hk => trivial)⟩, ⟨bl⟩⟩
         ·rw [if_neg c25] at H
          exact absurd H (by simp)
       ·rw [if_neg c9] at H
        exact absurd H (by simp)
      ·rw [if_neg c8] at H
       exact absurd H (by simp)
     ·replace c7 := Bool.eq_false_iff.mpr c7
      subst c7
      have H1 : (if x1_1 > 0 then (if x5_1.length < 4398046511104 then (some (x5_1 ++ [(⟨1, x1_1, (⟨#[]⟩ : ByteArray)⟩ : S25)])) else (none)) else (some x5_1)) = some r := by rw [if_neg (show ¬ (false = true) by decide)] at H; exact H
      clear H
      have H := H1
      clear H1
      by_cases c29 : x1_1 > 0
      ·rw [if_pos c29] at H
       have c29b0 : decide (0 < x1_1) = true := decide_eq_true c29
       clear c29
       by_cases c30 : x5_1.length < 4398046511104
       ·rw [if_pos c30] at H
        have LMc30 := am c30
        clear c30
        obtain ⟨y236, hy236⟩ : ∃ y_ : List (S25), y_ = (x5_1 ++ [(⟨1, x1_1, (⟨#[]⟩ : ByteArray)⟩ : S25)]) := ⟨_, rfl⟩
        replace H : (some y236) = some r := by first | (rw [hy236]; with_reducible exact H) | (have H2_ := (Option.bind_some _ _).symm.trans H; rw [hy236]; with_reducible exact H2_) | (have H2_ := (Option.bind_some _ _).symm.trans H; with_reducible exact H2_) | with_reducible exact H | (rw [hy236]; exact H) | exact H
        have Ny236 := am hy236
        clear hy236
        obtain rfl := Option.some.inj H
        simp only [Option.some.injEq, Prod.mk.injEq] at H
        obtain ⟨rfl⟩ := H
        go_wp2_with (first | ((with_reducible refine gate_builtin (b := .append) (xs := #[.tmp 68, .tmp 71]) rfl ?_); at_builtin; refine Kd.R_append k25 (w0 := w) w.heap.size rfl (.tmp 68) (.tmp 71) 27 25 (.agg #[(.int .i64 0), (.int .i64 0), (.string ⟨#[]⟩)]) 32 rfl Tryd.underlying27 info25 rfl (by decide) (by omega) u5 x5_1 (⟨1, x1_1, (⟨#[]⟩ : ByteArray)⟩ : S25) [.int .i64 1, .int .i64 x1_1, .string (⟨#[]⟩ : ByteArray)] (fun _ => True) (fun _ => False) rfl rfl ?aP (fun _ hk => hk.elim) ?aF ?aO ?aB ?aS ?aL ?_; (case aP => exact k25_mkM _ _ _ (⟨1, x1_1, (⟨#[]⟩ : ByteArray)⟩ : S25)); (case aB => exact bl); (case aF => exact (fun _ _ => trivial)); (case aO => exact (by refine kR ?_; exact HO_5.out)); (case aS => exact (below_size bl)); (case aL => have := LMc30.out; omega); intro v237 w31 ho hb hg hat; rw [← Ny236.out] at ho; have n0_ := am (hb); have n1_ := am (ho); clear HB; clear HO_5; have HB := n0_; have HO238 := n1_; clear n0_ n1_; clear ho hb hg hat))
        go_ret
        exact ⟨_, by first | rfl | (simp [errW_none, errW_some] <;> rfl) | (simp [*, errW_none, errW_some] <;> rfl), by refine kR ?_; exact HO238.out, bl⟩
       ·rw [if_neg c30] at H
        exact absurd H (by simp)
      ·rw [if_neg c29] at H
       have c29b0 : decide (0 < x1_1) = false := decide_eq_false c29
       clear c29
       obtain rfl := Option.some.inj H
       simp only [Option.some.injEq, Prod.mk.injEq] at H
       obtain ⟨rfl⟩ := H
       go_wp2
       go_ret
       exact ⟨_, by first | rfl | (simp [errW_none, errW_some] <;> rfl) | (simp [*, errW_none, errW_some] <;> rfl), by refine kR ?_; exact HO_5.out, bl⟩
end Go.Proofs.YtegjegihcebimaaDoor.P
end
section
namespace Go.Proofs.YtegjegihcebimaaDoor.P
open Go.RowKit Go.Proofs.YtegjegihcebimaaDoorW.PrintWords Go.Proofs.YtegjegihcebimaaDoorW.PrintLast Go.Proofs.YtegjegihcebimaaDoorW.PrintMore
set_option linter.unusedVariables false
set_option linter.unusedSimpArgs false
structure LP (w W : World) (gc : Nat) (s : ByteArray) (u1 u2 vr vs : Value) (R : List Int) (L : List (List S25)) : Prop where
 HB : Below w.heap.size w W
 gw : w.heap.size ≤ gc
 HG : W.heap[gc]? = some (.cells #[.string s, u1, u2] 42 (0, 0))
 HR : Kd.R (Kd.int .i64) 3 W w.heap.size (fun k => k ≠ gc) vr R
 HS : Kd.S (Kd.slice 25 k25) 27 W w.heap.size (fun k => k ≠ gc ∧ some k ≠ vr.ownBlock) vs L
 H2 : W.heap[w.heap.size]? = some (.cells #[.string ⟨#[]⟩, .slice none 0 0, .slice none 0 0] 42 (0, 0))
 gn : w.heap.size ≠ gc
structure LQ (w W : World) (gc : Nat) (s : ByteArray) (u1 u2 vr vs : Value) (R : List Int) (L : List (List S25)) (N : Nat) (y : List S25) (vy : Value) (bx : Nat) (d8 d9 : Bool) : Prop where
 HB : Below w.heap.size w W
 gw : w.heap.size ≤ gc
 gN : gc < N
 wN : w.heap.size ≤ N
 NW : N ≤ W.heap.size
 HG : W.heap[gc]? = some (.cells #[.string s, u1, u2] 42 (0, 0))
 HR : Kd.R (Kd.int .i64) 3 W w.heap.size (fun k => k ≠ gc ∧ k < N) vr R
 HS : Kd.S (Kd.slice 25 k25) 27 W w.heap.size (fun k => (k ≠ gc ∧ some k ≠ vr.ownBlock) ∧ k < N) vs L
 HY : d8 = true → Kd.R k25 25 W w.heap.size (fun k => N ≤ k) vy y
 HX : d9 = true → W.heap[bx]? = some (.cells #[vy] 27 (0, 0))
 H2 : W.heap[w.heap.size]? = some (.cells #[.string ⟨#[]⟩, .slice none 0 0, .slice none 0 0] 42 (0, 0))
 gn : w.heap.size ≠ gc
section
variable {w W W1 : World} {gc N bx : Nat} {s : ByteArray} {u1 u2 vr vs vy : Value} {R : List Int} {L : List (List S25)} {y : List S25} {d8 d9 : Bool}
theorem LP.set2 (J : LP w W gc s u1 u2 vr vs R L) : LP w (W.setCell ⟨gc, 2, none⟩ vs) gc s u1 vs vr vs R L :=
 ⟨J.HB.setCell J.gw _, J.gw, blk_put J.HG 2 vs rfl, Kd.R_mono (Kd.R_far (p := ⟨gc, 2, none⟩) J.HR (fun _ hk => hk) _) (fun _ hk => hk), Kd.S_mono (Kd.S_far (p := ⟨gc, 2, none⟩) J.HS (fun _ hk => hk.1) _) (fun _ hk => hk), blk_far J.H2 J.gn _, J.gn⟩
theorem LP.q (J : LP w W gc s u1 u2 vr vs R L) : LQ w W gc s u1 u2 vr vs R L W.heap.size y vs 0 false false :=
 ⟨J.HB, J.gw, blk_lt J.HG, J.HB.size, Nat.le_refl _, J.HG, Kd.R_mono (Kd.R_bound J.HR) (fun k hk => ⟨hk.1, hk.2.2.1⟩), Kd.S_mono (Kd.S_bound J.HS) (fun k hk => ⟨hk.1, hk.2.2.1⟩), fun e => (by cases e), fun e => (by cases e), J.H2, J.gn⟩
theorem LQ.below (J : LQ w W gc s u1 u2 vr vs R L N y vy bx d8 d9) (hb : Below W.heap.size W W1) : LQ w W1 gc s u1 u2 vr vs R L N y vy bx d8 d9 :=
 ⟨below_step J.HB hb, J.gw, J.gN, J.wN, Nat.le_trans J.NW hb.size, blk_below J.HG hb, Kd.R_below J.HR hb, Kd.S_below J.HS hb, fun e => Kd.R_below (J.HY e) hb, fun e => blk_below (J.HX e) hb, blk_below J.H2 hb, J.gn⟩
theorem LQ.e8 (J : LQ w W gc s u1 u2 vr vs R L N y vy bx false false) {v : Value} (hb : Below W.heap.size W W1) (ho : Kd.R k25 25 W1 W.heap.size (fun _ => True) v y) : LQ w W1 gc s u1 u2 vr vs R L N y v bx true false := by
 have J1 := J.below hb
 exact ⟨J1.HB, J1.gw, J1.gN, J1.wN, J1.NW, J1.HG, J1.HR, J1.HS, fun _ => Kd.R_lower (Kd.R_mono (Kd.R_bound ho) (fun k hk => Nat.le_trans J.NW hk.2.1)) (Nat.le_trans J.wN J.NW), fun e => (by cases e), J1.H2, J1.gn⟩
theorem LQ.e9 (J : LQ w W gc s u1 u2 vr vs R L N y vy bx true false) : LQ w (W.alloc (.cells #[vy] 27)) gc s u1 u2 vr vs R L N y vy W.heap.size true true := by
 have J1 := J.below (below_alloc (Below.refl W.heap.size W) (.cells #[vy] 27))
 exact ⟨J1.HB, J1.gw, J1.gN, J1.wN, J1.NW, J1.HG, J1.HR, J1.HS, J1.HY, fun _ => heap_alloc_new W _, J1.H2, J1.gn⟩
variable {ops : Array Oper} {o : Oper} {rest : List Oper} {a : Act} {Q : Exit → Act → World → Prop} {K : Act → World → Prop}
theorem LQ.e10 (J : LQ w W gc s u1 u2 vr vs R L N y vy bx true true) (hl : L.length < 1000000) (hw : Region.wanted o (yielded ops a.tmps) = true) (s' x : Operand)
  (ho : o.op = .call { callee := .builtin .append, args := #[s', x], argTypes := #[28, 28] }) (hs : a.eval s' = vs) (hx : a.eval x = .slice (some ⟨bx, 0, none⟩) 1 1)
  (h : ∀ A c W1, LP w W1 gc s u1 u2 vr (.slice A (L.length + 1) c) R (L ++ [y]) → K (a.put o.dst (.slice A (L.length + 1) c)) W1) :
  if Region.wanted o (yielded ops a.tmps) = true then Oper.wp Tryd.prog o a W K Q else K (a.put o.dst undef) W := by
 have Y := J.HY rfl
 have hvs : ∀ k, vs.ownBlock = some k → k < N := fun k hk => ((Kd.S_R J.HS).1 k hk).2
 have hvr : ∀ k, vr.ownBlock = some k → k < N := fun k hk => (J.HR.1 k hk).2
 have g1 := J.gN
 have g2 := J.NW
 refine Kd.S_append_box (Kd.slice 25 k25) (w0 := w) w.heap.size hw s' x 28 27 (.slice none 0 0) 24 ho Tryd.underlying28 info27 rfl (show (0 : Nat) < 1 by decide) (by decide) vs L y [vy] bx (fun k => k ≠ gc ∧ some k ≠ vr.ownBlock) (fun k => N ≤ k) hs hx (J.HX rfl) rfl (Kd.M_row Y) ?_ ?_ ?_ J.HB (Nat.le_trans J.wN J.NW) (by omega) ?_
 ·intro k hk
  exact ⟨⟨by omega, fun e => by have := hvr k e.symm; omega⟩, fun e => by have := hvs k e.symm; omega⟩
 ·intro k hk
  exact ⟨by omega, fun e => by have := hvr k e.symm; omega⟩
 ·exact Kd.S_mono J.HS (fun k hk => ⟨hk.1, by omega⟩)
 ·intro v1 w1 hS hB hg hat
  obtain ⟨A, c, rfl⟩ := Kd.S_slice hS
  rw [List.length_append, List.length_singleton] at hS hat ⊢
  exact h A c w1 ⟨hB, J.gw, blk_grown J.HG hg (Kd.S_ne J.HS J.HG (by decide)), Kd.R_mono (Kd.R_over' J.HR (Kd.S_typed J.HS) (by decide) hg) (fun k hk => hk.1), hS, blk_grown J.H2 hg (Kd.S_ne J.HS J.H2 (by decide)), J.gn⟩
end
end Go.Proofs.YtegjegihcebimaaDoor.P
end
section
namespace Go.Proofs.YtegjegihcebimaaDoor.P
open Go.RowKit Go.Proofs.YtegjegihcebimaaDoorW.PrintWords Go.Proofs.YtegjegihcebimaaDoorW.PrintLast Go.Proofs.YtegjegihcebimaaDoorW.PrintMore
attribute [local go_sem] max2_int min2_int max_two min_two max_three min_three max_four min_four
set_option linter.unusedVariables false
set_option linter.unusedSimpArgs false
theorem eql_nilI (a : Option Addr) (l c : Nat) (W : World) : (binOp .eql 38 (.slice a l c) (.slice none 0 0)).run Tryd.prog W = .ok (.bool a.isNone) W := by
 simp only [binOp]
 simp [run_equal_slice_nil W 38 _ a l c Tryd.underlying38]
theorem R_noneI {w : World} {b B : Nat} {ok : Nat → Prop} (h : w.heap[b]? = some (.cells #[] 3 (0, 0))) (hB : B ≤ b) (hok : ok b) : Kd.R (Kd.int .i64) 3 w B ok (.slice (some ⟨b, 0, none⟩) 0 0) [] := by
 refine ⟨fun k hk => ?_, [], ⟨rfl, .inr ⟨b, 0, #[], rfl, hB, h, Nat.le_refl _, by decide, rfl, rfl⟩⟩, rfl, fun j p hj => by simp at hj⟩
 have : b = k := by simpa [Value.ownBlock] using hk
 subst this; exact hok
set_option maxHeartbeats 8000000 in
set_option maxRecDepth 100000 in
theorem slices_CloneI.calls (A : Option Addr) (c : Nat) (l : List Int) (w : World) (hr : Kd.C (Kd.int .i64) w A l.length l) (hc : l.length ≤ c) (hl : l.length < 1000000) :
  Calls Tryd.prog 75 #[.slice A l.length c] w fun e w' => ∃ v : Value, e = .returned v ∧ Kd.R (Kd.int .i64) 3 w' w.heap.size (fun _ => True) v l ∧ Below w.heap.size w w' := by
 cases A with
 | none =>
  have h0 : l = [] := by
   cases l with
   | nil => rfl
   | cons x l =>
    obtain ⟨ad, e, _⟩ := hr.2.2 (by simp)
    cases e
  subst h0
  have hq := fun W => eql_nilI none 0 c W
  have HB := Aside0.mk (Below.refl w.heap.size w)
  clear hr hc hl
  go_enter Tryd.func75, Tryd.ntmps75
  go_wp2
  go_ret
  exact ⟨_, rfl, Kd.R_nil _ _ _ _ _, HB.out⟩
 | some ad =>
  have hq := fun W => eql_nilI (some ad) l.length c W
  have HR := Aside0.mk (Kd.C_alloc hr (.cells #[] 3)); have HL := Aside0.mk hl
  have HO := Aside0.mk (R_noneI (ok := fun _ => True) (heap_alloc_new w (.cells #[] 3)) (Nat.le_refl _) trivial)
  have HB := Aside0.mk (below_alloc (Below.refl w.heap.size w) (.cells #[] 3))
  clear hr hc hl
  go_enter Tryd.func75, Tryd.ntmps75
  go_wp2_with ((with_reducible refine gate_builtin (b := .append) (xs := #[.tmp 5, .tmp 6]) rfl ?_); at_builtin; refine Kd.R_append_rows (Kd.int .i64) (Rr := fun x cs => cs = [Value.int .i64 x]) (w0 := w) w.heap.size rfl (.tmp 5) (.tmp 6) 38 3 (.int .i64 0) 8 rfl Tryd.underlying38 info3 rfl (show (0 : Nat) < 1 by decide) (by omega) (.slice (some ⟨w.heap.size, 0, none⟩) 0 0) [] l (some ad) l.length c (fun k_ => True) (fun _ => False) rfl rfl HO.out ?aR (fun x cs h => h) (fun _ h => h.elim) (fun _ _ => trivial) HB.out (by simp) ?aL ?_; (case aR => exact ReadsRow.imp_ HR.out (Below.refl _ _) (fun x cs h => h)); (case aL => have := HL.out; simp only [List.length_nil]; omega); intro v1 w1 ho hb hg hat; have HO1 := Aside0.mk ho; have HB1 := Aside0.mk hb; clear ho hb hg hat)
  go_ret
  exact ⟨_, rfl, HO1.out, HB1.out⟩
structure LA (w W : World) (gc : Nat) (r : List Int) (A : Option Addr) (c : Nat) (d1 d2 : Bool) : Prop where
 HB : Below w.heap.size w W
 F : d1 = true → Kd.R (Kd.int .i64) 3 W w.heap.size (fun _ => True) (.slice A r.length c) r
 G : d2 = true → W.heap[gc]? = some (.cells #[.string ⟨#[]⟩, .slice none 0 0, .slice none 0 0] 42 (0, 0)) ∧ w.heap.size ≤ gc
section
variable {w W W1 : World} {gc : Nat} {r : List Int} {A : Option Addr} {c : Nat} {d1 d2 : Bool}
theorem LA.start (w : World) : LA w w 0 r none 0 false false := ⟨Below.refl _ _, fun e => (by cases e), fun e => (by cases e)⟩
theorem LA.below (J : LA w W gc r A c d1 d2) (hb : Below W.heap.size W W1) : LA w W1 gc r A c d1 d2 := ⟨below_step J.HB hb, fun e => Kd.R_below (J.F e) hb, fun e => ⟨blk_below (J.G e).1 hb, (J.G e).2⟩⟩
theorem LA.e1 (J : LA w W gc r A c false d2) {A1 : Option Addr} {c1 : Nat} (hb : Below W.heap.size W W1) (h : Kd.R (Kd.int .i64) 3 W1 W.heap.size (fun _ => True) (.slice A1 r.length c1) r) : LA w W1 gc r A1 c1 true d2 := by
 have J1 := J.below hb
 exact ⟨J1.HB, fun _ => Kd.R_lower h J.HB.size, J1.G⟩
theorem LA.e2 (J : LA w W gc r A c d1 false) : LA w (W.alloc (.cells #[.string ⟨#[]⟩, .slice none 0 0, .slice none 0 0] 42)) W.heap.size r A c d1 true := by
 have J1 := J.below (below_alloc (Below.refl W.heap.size W) (.cells #[.string ⟨#[]⟩, .slice none 0 0, .slice none 0 0] 42))
 exact ⟨J1.HB, J1.F, fun _ => ⟨heap_alloc_new W _, J.HB.size⟩⟩
end
set_option maxHeartbeats 16000000 in
set_option maxRecDepth 100000 in
theorem server_Log.calls (w : World) (P : Nat → Prop) (g : Nat) (s : ByteArray) (r : List Int) (l : List (List S25)) (z : List Int) (h : SI w P g s r l z) (hr : r.length < 1000000) (hl : l.length < 100000) (hx : ∀ x ∈ l, x.length < 1000000) :
  Calls Tryd.prog 37 #[.pointer (some ⟨g, 0, none⟩)] w fun e w' => ∃ Ar cr As cs, e = .returned (.agg #[.string s, .slice Ar r.length cr, .slice As l.length cs]) ∧ Kd.R (Kd.int .i64) 3 w' w.heap.size (fun _ => True) (.slice Ar r.length cr) r ∧ Kd.S (Kd.slice 25 k25) 27 w' w.heap.size (fun _ => True) (.slice As l.length cs) l ∧ Below w.heap.size w w' := by
 obtain ⟨Ar, cr, Al, cl, Az, cz, hg, l1, l2, l3, r1, r2, r3⟩ := h.reads
 have HX := Aside0.mk hx; have HR0 := Aside0.mk r2; have HL := Aside0.mk hl; have HG0 := Aside0.mk hg
 have HCi := Aside0.mk (fun (W : World) (hW : Below w.heap.size w W) => slices_CloneI.calls Ar cr r W (Kd.C_below r1 hW) l1 hr)
 have HB0 := Aside0.mk (below_alloc (Below.refl w.heap.size w) (.cells #[.string ⟨#[]⟩, .slice none 0 0, .slice none 0 0] 42))
 have HN0 := Aside0.mk (heap_alloc_new w (.cells #[.string ⟨#[]⟩, .slice none 0 0, .slice none 0 0] 42))
 clear h r1 r2 r3 l1 l2 l3 hx hl hr hg
 go_enter Tryd.func37, Tryd.ntmps37
 go_upto_region 1 with (fail)
 generalize w.alloc (.cells #[.string ⟨#[]⟩, .slice none 0 0, .slice none 0 0] 42) = w1 at HB0 HN0 ⊢
 have J := (LA.start (r := r) w1).below (below_drew1 (Below.refl _ _))
 refine start_ (n := 14) (S := fun w' => w'.cell? ⟨g, 0, none⟩ = some (.string s) ∧ w'.cell? ⟨g, 1, none⟩ = some (.slice Ar r.length cr)) (ds := [13]) #[false, false, false, false, false, false, false, false, false, false, false, false, false, false] (by kernel_rfl) rfl rfl ⟨(blk_cell (blk_below HG0.out (below_step HB0.out J.HB)) 0).trans rfl, (blk_cell (blk_below HG0.out (below_step HB0.out J.HB)) 1).trans rfl⟩ (fun hHeld => ?_)
 generalize w1.drew = wd at J hHeld ⊢
 refine pure_ (i := 0) (N := some 6) (v := ?_) (a' := ?_) #[true, false, false, false, false, false, false, false, false, false, false, false, false, false] rfl rfl (by kernel_rfl) (fun _ _ _ h => h) (Or.inl ⟨by rfl, ?_⟩) ?_ ?_
 rotate_left
 ·intro w'
  go_simp
  with_reducible rfl
 rotate_left
 ·simp only [Act.put, List.setIfInBounds_toArray, List.set_cons_zero, List.set_cons_succ, i64_w, i32_w]
  rfl
 refine pure_ (i := 1) (N := some 7) (v := ?_) (a' := ?_) #[true, true, false, false, false, false, false, false, false, false, false, false, false, false] rfl rfl (by kernel_rfl) (fun _ _ _ h => h) (Or.inl ⟨by rfl, ?_⟩) ?_ ?_
 rotate_left
 ·intro w'
  go_simp
  with_reducible rfl
 rotate_left
 ·simp only [Act.put, List.setIfInBounds_toArray, List.set_cons_zero, List.set_cons_succ, i64_w, i32_w]
  rfl
 refine pure_ (i := 2) (N := some 8) (v := ?_) (a' := ?_) #[true, true, true, false, false, false, false, false, false, false, false, false, false, false] rfl rfl (by kernel_rfl) (fun _ _ _ h => h) (Or.inl ⟨by rfl, ?_⟩) ?_ ?_
 rotate_left
 ·intro w'
  go_simp
  with_reducible rfl
 rotate_left
 ·simp only [Act.put, List.setIfInBounds_toArray, List.set_cons_zero, List.set_cons_succ, i64_w, i32_w]
  rfl
 refine pure_ (i := 3) (N := some 9) (v := ?_) (a' := ?_) #[true, true, true, true, false, false, false, false, false, false, false, false, false, false] rfl rfl (by kernel_rfl) (fun _ _ _ h => h) (Or.inl ⟨by rfl, ?_⟩) ?_ ?_
 rotate_left
 ·intro w'
  go_simp
  with_reducible rfl
 rotate_left
 ·simp only [Act.put, List.setIfInBounds_toArray, List.set_cons_zero, List.set_cons_succ, i64_w, i32_w]
  rfl
 refine pure_ (i := 5) (N := some 11) (v := ?_) (a' := ?_) #[true, true, true, true, false, true, false, false, false, false, false, false, false, false] rfl rfl (by kernel_rfl) (fun _ _ _ h => h) (Or.inl ⟨by rfl, ?_⟩) ?_ ?_
 rotate_left
 ·intro w'
  go_simp
  with_reducible rfl
 rotate_left
 ·simp only [Act.put, List.setIfInBounds_toArray, List.set_cons_zero, List.set_cons_succ, i64_w, i32_w]
  rfl
 refine pure_ (i := 6) (N := some 12) (v := ?_) (a' := ?_) #[true, true, true, true, false, true, true, false, false, false, false, false, false, false] rfl rfl (by kernel_rfl) (fun _ _ _ h => h) (Or.inl ⟨by rfl, ?_⟩) ?_ ?_
 rotate_left
 ·intro w'
  go_simp
  with_reducible rfl
 rotate_left
 ·simp only [Act.put, List.setIfInBounds_toArray, List.set_cons_zero, List.set_cons_succ, i64_w, i32_w]
  rfl
 refine pure_ (i := 7) (N := some 13) (v := ?_) (a' := ?_) #[true, true, true, true, false, true, true, true, false, false, false, false, false, false] rfl rfl (by kernel_rfl) (fun _ _ _ h => h) (Or.inl ⟨by rfl, ?_⟩) ?_ ?_
 rotate_left
 ·intro w'
  go_simp
  with_reducible rfl
 rotate_left
 ·simp only [Act.put, List.setIfInBounds_toArray, List.set_cons_zero, List.set_cons_succ, i64_w, i32_w]
  rfl
 refine pure_ (i := 8) (N := some 14) (v := ?_) (a' := ?_) #[true, true, true, true, false, true, true, true, true, false, false, false, false, false] rfl rfl (by kernel_rfl) (fun _ _ _ h => h) (Or.inl ⟨by rfl, ?_⟩) ?_ ?_
 rotate_left
 ·intro w'
  go_simp
  with_reducible rfl
 rotate_left
 ·simp only [Act.put, List.setIfInBounds_toArray, List.set_cons_zero, List.set_cons_succ, i64_w, i32_w]
  rfl
 refine take_ (i := 4) (N := some 10) (v := ?_) (a' := ?_) #[true, true, true, true, true, true, true, true, true, false, false, false, false, false] rfl rfl (by kernel_rfl) (fun _ _ _ h => h) (Or.inl ⟨by rfl, ?_⟩) hHeld ?_ ?_
 rotate_left
 ·rintro w' ⟨s0, s1⟩
  go_simp
  with_reducible rfl
 rotate_left
 ·simp only [Act.put, List.setIfInBounds_toArray, List.set_cons_zero, List.set_cons_succ, i64_w, i32_w]
  rfl
 refine take_ (i := 9) (N := some 15) (v := ?_) (a' := ?_) #[true, true, true, true, true, true, true, true, true, true, false, false, false, false] rfl rfl (by kernel_rfl) (fun _ _ _ h => h) (Or.inl ⟨by rfl, ?_⟩) hHeld ?_ ?_
 rotate_left
 ·rintro w' ⟨s0, s1⟩
  go_simp
  with_reducible rfl
 rotate_left
 ·simp only [Act.put, List.setIfInBounds_toArray, List.set_cons_zero, List.set_cons_succ, i64_w, i32_w]
  rfl
 refine join_ (σ := Option Addr × Nat × Nat) 1 #[true, true, true, true, true, true, true, true, true, true, true, true, true, false] (fun s_ => [(16, .slice s_.1 r.length s_.2.1), (17, .agg #[.string s, .slice s_.1 r.length s_.2.1, .slice none 0 0]), (3, .pointer (some ⟨s_.2.2, 0, none⟩))]) (fun s_ w' => (w'.cell? ⟨g, 0, none⟩ = some (.string s) ∧ w'.cell? ⟨g, 1, none⟩ = some (.slice Ar r.length cr)) ∧ LA w1 w' s_.2.2 r s_.1 s_.2.1 true true) ?_ ?_
 rotate_left
 ·intro hCont
  refine two_ (i := 10) (j := 12) (Ni := some 16) (Nj := some 3) #[true, true, true, true, true, true, true, true, true, true, true, false, false, false] #[true, true, true, true, true, true, true, true, true, true, false, false, true, false] rfl rfl rfl rfl (by kernel_rfl) (by decide) (by decide) (fun K hK => ?_) (fun K hK => ?_)
  ·skip
   refine goes_ Tryd.func75 (by kernel_rfl) rfl #[.slice Ar r.length cr] (by rfl) rfl rfl (by simp only [List.map_toArray, List.map_cons, List.map_nil]; rfl) ?_
   with_reducible refine (HCi.out _ (below_step HB0.out J.HB)).mono ?_
   rintro e w4 ⟨v8, rfl, ho, hb⟩
   refine ⟨_, rfl, ?_⟩
   obtain ⟨A8, c8, rfl⟩ := Kd.R_slice ho
   have J1 := J.e1 hb ho
   clear J
   have J := J1
   clear J1
   refine hK.out _ _ ⟨(blk_cell (blk_below HG0.out (below_step HB0.out J.HB)) 0).trans rfl, (blk_cell (blk_below HG0.out (below_step HB0.out J.HB)) 1).trans rfl⟩ (fun hHeld => ?_)
   clear hK K
   refine norm_ (a' := ?_) ?_ ?_
   rotate_left
   ·show Act.put _ (some 16) _ = _
    simp only [Act.put, List.setIfInBounds_toArray, List.set_cons_zero, List.set_cons_succ, i64_w, i32_w]
    rfl
   refine pure_ (i := 11) (N := some 17) (v := ?_) (a' := ?_) #[true, true, true, true, true, true, true, true, true, true, true, true, false, false] rfl rfl (by kernel_rfl) (fun _ _ _ h => h) (Or.inl ⟨by rfl, ?_⟩) ?_ ?_
   rotate_left
   ·intro w'
    go_simp
    with_reducible rfl
   rotate_left
   ·simp only [Act.put, List.setIfInBounds_toArray, List.set_cons_zero, List.set_cons_succ, i64_w, i32_w]
    rfl
   refine one_ (i := 12) (N := some 3) #[true, true, true, true, true, true, true, true, true, true, true, true, true, false] rfl rfl (by kernel_rfl) (by decide) (fun K hK => ?_)
   refine value_ (w1 := ?_) (v := ?_) (by rfl) rfl ?_ ?_
   rotate_left 2
   ·go_simp
    constructor
    ·rfl
    ·rfl
   have J1 := J.e2
   try simp only [alloc_heap_size] at J1
   clear J
   have J := J1
   clear J1
   refine hK.out _ _ ⟨(blk_cell (blk_below HG0.out (below_step HB0.out J.HB)) 0).trans rfl, (blk_cell (blk_below HG0.out (below_step HB0.out J.HB)) 1).trans rfl⟩ (fun hHeld => ?_)
   clear hK K
   refine norm_ (a' := ?_) ?_ ?_
   rotate_left
   ·show Act.put _ (some 3) _ = _
    simp only [Act.put, List.setIfInBounds_toArray, List.set_cons_zero, List.set_cons_succ, i64_w, i32_w]
    rfl
   refine norm_ ?_ (hCont (_, _, _) _ ⟨⟨(blk_cell (blk_below HG0.out (below_step HB0.out J.HB)) 0).trans rfl, (blk_cell (blk_below HG0.out (below_step HB0.out J.HB)) 1).trans rfl⟩, J⟩)
   first | (simp only [putAll, Act.put, List.setIfInBounds_toArray, List.set_cons_zero, List.set_cons_succ]; done) | (simp only [putAll, Act.put, List.setIfInBounds_toArray, List.set_cons_zero, List.set_cons_succ]; rfl)
  ·skip
   refine value_ (w1 := ?_) (v := ?_) (by rfl) rfl ?_ ?_
   rotate_left 2
   ·go_simp
    constructor
    ·rfl
    ·rfl
   have J1 := J.e2
   try simp only [alloc_heap_size] at J1
   clear J
   have J := J1
   clear J1
   refine hK.out _ _ ⟨(blk_cell (blk_below HG0.out (below_step HB0.out J.HB)) 0).trans rfl, (blk_cell (blk_below HG0.out (below_step HB0.out J.HB)) 1).trans rfl⟩ (fun hHeld => ?_)
   clear hK K
   refine norm_ (a' := ?_) ?_ ?_
   rotate_left
   ·show Act.put _ (some 3) _ = _
    simp only [Act.put, List.setIfInBounds_toArray, List.set_cons_zero, List.set_cons_succ, i64_w, i32_w]
    rfl
   refine one_ (i := 10) (N := some 16) #[true, true, true, true, true, true, true, true, true, true, true, false, true, false] rfl rfl (by kernel_rfl) (by decide) (fun K hK => ?_)
   refine goes_ Tryd.func75 (by kernel_rfl) rfl #[.slice Ar r.length cr] (by rfl) rfl rfl (by simp only [List.map_toArray, List.map_cons, List.map_nil]; rfl) ?_
   with_reducible refine (HCi.out _ (below_step HB0.out J.HB)).mono ?_
   rintro e w4 ⟨v8, rfl, ho, hb⟩
   refine ⟨_, rfl, ?_⟩
   obtain ⟨A8, c8, rfl⟩ := Kd.R_slice ho
   have J1 := J.e1 hb ho
   clear J
   have J := J1
   clear J1
   refine hK.out _ _ ⟨(blk_cell (blk_below HG0.out (below_step HB0.out J.HB)) 0).trans rfl, (blk_cell (blk_below HG0.out (below_step HB0.out J.HB)) 1).trans rfl⟩ (fun hHeld => ?_)
   clear hK K
   refine norm_ (a' := ?_) ?_ ?_
   rotate_left
   ·show Act.put _ (some 16) _ = _
    simp only [Act.put, List.setIfInBounds_toArray, List.set_cons_zero, List.set_cons_succ, i64_w, i32_w]
    rfl
   refine pure_ (i := 11) (N := some 17) (v := ?_) (a' := ?_) #[true, true, true, true, true, true, true, true, true, true, true, true, true, false] rfl rfl (by kernel_rfl) (fun _ _ _ h => h) (Or.inl ⟨by rfl, ?_⟩) ?_ ?_
   rotate_left
   ·intro w'
    go_simp
    with_reducible rfl
   rotate_left
   ·simp only [Act.put, List.setIfInBounds_toArray, List.set_cons_zero, List.set_cons_succ, i64_w, i32_w]
    rfl
   refine norm_ ?_ (hCont (_, _, _) _ ⟨⟨(blk_cell (blk_below HG0.out (below_step HB0.out J.HB)) 0).trans rfl, (blk_cell (blk_below HG0.out (below_step HB0.out J.HB)) 1).trans rfl⟩, J⟩)
   first | (simp only [putAll, Act.put, List.setIfInBounds_toArray, List.set_cons_zero, List.set_cons_succ]; done) | (simp only [putAll, Act.put, List.setIfInBounds_toArray, List.set_cons_zero, List.set_cons_succ]; rfl)
 rintro ⟨A8, c8, gc⟩ wj ⟨hHeld, J⟩
 refine norm_ (a' := ?_) ?_ ?_
 rotate_left
 ·simp only [putAll, Act.put, List.setIfInBounds_toArray, List.set_cons_zero, List.set_cons_succ]
  rfl
 refine last_ (i := 13) (N := none) #[true, true, true, true, true, true, true, true, true, true, true, true, true, true] rfl rfl (by kernel_rfl) (by decide) (fun K hK => ?_)
 have hz0 : wj.cell? ⟨gc, 0, none⟩ = some (.string ⟨#[]⟩) := (blk_cell (J.G rfl).1 0).trans rfl
 have hz1 : wj.cell? ⟨gc, 1, none⟩ = some (.slice none 0 0) := (blk_cell (J.G rfl).1 1).trans rfl
 have hz2 : wj.cell? ⟨gc, 2, none⟩ = some (.slice none 0 0) := (blk_cell (J.G rfl).1 2).trans rfl
 have hy0 := blk_frozen (J.G rfl).1 0
 have hy1 := blk_frozen (J.G rfl).1 1
 have hy2 := blk_frozen (J.G rfl).1 2
 refine skip_ (w1 := ?_) (by rfl) rfl ?_ ?_
 rotate_left
 ·go_simp
  rfl
 clear hz0 hz1 hz2 hy0 hy1 hy2
 refine hK.out _ _ ?_
 clear hK K
 refine done_ (by kernel_rfl) ?_
 have hgc : w1.heap.size ≤ gc := (J.G rfl).2
 have hw1 := blk_lt HN0.out
 have J2 : LP w (((wj.setCell ⟨gc, 0, none⟩ (.string s)).setCell ⟨gc, 1, none⟩ (.slice A8 r.length c8)).setCell ⟨gc, 2, none⟩ (.slice none 0 0)) gc s (.slice A8 r.length c8) (.slice none 0 0) (.slice A8 r.length c8) (.slice none 0 0) r [] :=
  ⟨(((below_step HB0.out J.HB).setCell (show w.heap.size ≤ gc by omega) _).setCell (show w.heap.size ≤ gc by omega) _).setCell (show w.heap.size ≤ gc by omega) _, by omega, blk_put (blk_put (blk_put (J.G rfl).1 0 (.string s) rfl) 1 (.slice A8 r.length c8) rfl) 2 (.slice none 0 0) rfl,
   Kd.R_lower (Kd.R_mono (Kd.R_far (p := ⟨gc, 2, none⟩) (Kd.R_far (p := ⟨gc, 1, none⟩) (Kd.R_far (p := ⟨gc, 0, none⟩) (Kd.R_types (J.F rfl) (J.G rfl).1 (by decide)) (fun _ hk => hk.2) (.string s)) (fun _ hk => hk.2) (.slice A8 r.length c8)) (fun _ hk => hk.2) (.slice none 0 0)) (fun k hk => hk.2)) HB0.out.size, Kd.S_nil _ _ _ _ _, blk_far (blk_far (blk_far (blk_below HN0.out J.HB) (show w.heap.size ≠ gc by omega) _) (show w.heap.size ≠ gc by omega) _) (show w.heap.size ≠ gc by omega) _, by omega⟩
 have HJ : Aside0 (∃ (As : Option Addr) (cs : Nat), LP w (((wj.setCell ⟨gc, 0, none⟩ (.string s)).setCell ⟨gc, 1, none⟩ (.slice A8 r.length c8)).setCell ⟨gc, 2, none⟩ (.slice none 0 0)) gc s (.slice A8 r.length c8) (.slice As 0 cs) (.slice A8 r.length c8) (.slice As 0 cs) r (l.take 0)) := ⟨⟨none, 0, J2⟩⟩
 have c2 := (blk_cell (blk_below HG0.out J2.HB) 2).trans rfl
 clear J J2 hgc hw1 hHeld HCi
 generalize ((wj.setCell ⟨gc, 0, none⟩ (.string s)).setCell ⟨gc, 1, none⟩ (.slice A8 r.length c8)).setCell ⟨gc, 2, none⟩ (.slice none 0 0) = wS at HJ c2 ⊢
 go_wp2
 go_loopw [5, 24] (fun _ v24 wr => ∃ (j : Nat), v24 = .int .i64 j ∧ j ≤ l.length ∧ Aside0 (∃ (As : Option Addr) (cs : Nat), LP w wr gc s (.slice A8 r.length c8) (.slice As j cs) (.slice A8 r.length c8) (.slice As j cs) r (l.take j))) (fun _ v24 _ => l.length - (intOf v24).toNat)
 case atStart => exact ⟨0, rfl, Nat.zero_le _, HJ⟩
 case round =>
  obtain ⟨j, rfl, hj, HJ2⟩ := hrel
  clear HJ c2
  by_cases hlt : j < l.length
  ·have hltb : decide ((j : Int) < (l.length : Int)) = true := decide_eq_true (by omega)
   have HLT := Aside0.mk hlt
   have p1 : ((j : Int) < (l.length : Int)) = True := eq_true (by omega)
   have p2 : (j < l.length) = True := eq_true hlt
   obtain ⟨xj, exj⟩ : ∃ xj, xj = rd_L3 l (j : Int) := ⟨_, rfl⟩
   have EXJ := Aside0.mk exj
   have EW : Aside0 (wrap64 ((j : Int) + 1) = ((j + 1 : Nat) : Int)) := ⟨by have := HL.out; unfold wrap64; omega⟩
   have HTL : Aside0 ((l.take j).length = j) := ⟨by rw [List.length_take]; omega⟩
   obtain ⟨As, cs, J⟩ := HJ2.out
   obtain ⟨ad, Ax, cx, eAl, hcx, lx, rx⟩ := at_L3 HR0.out (j : Int) (by omega) (by omega)
   rw [← exj] at hcx lx rx
   have hxl : xj.length < 1000000 := HX.out xj (by rw [exj]; unfold rd_L3; rw [Int.toNat_natCast, List.getD_eq_getElem?_getD, List.getElem?_eq_getElem hlt]; exact List.getElem_mem _)
   have HCl := Aside0.mk (fun (W : World) (hW : Below w.heap.size w W) => slices_Clone.calls Ax cx xj W (Kd.C_below rx hW) lx hxl)
   subst eAl
   have hce : wr.cell? (ad.add j) = some (.slice Ax xj.length cx) := cell_past J.HB (by rw [Int.toNat_natCast] at hcx; exact hcx)
   have JA := Aside0.mk J
   clear J hcx lx rx hxl exj hlt hj HJ2
   go_wp2
   have J := JA.out.q (y := xj)
   clear JA
   replace J := J.below (below_drew1 (Below.refl _ _))
   refine start_ (n := 8) (S := fun w' => w'.cell? ⟨gc, 2, none⟩ = some (.slice As j cs)) (ds := [7]) #[false, false, false, false, false, false, false, false] (by kernel_rfl) rfl rfl ((blk_cell J.HG 2).trans rfl) (fun hHeld => ?_)
   generalize wr.drew = wd at J hHeld ⊢
   refine pure_ (i := 0) (N := some 28) (v := ?_) (a' := ?_) #[true, false, false, false, false, false, false, false] rfl rfl (by kernel_rfl) (fun _ _ _ h => h) (Or.inl ⟨by rfl, ?_⟩) ?_ ?_
   rotate_left
   ·intro w'
    go_simp
    with_reducible rfl
   rotate_left
   ·simp only [Act.put, List.setIfInBounds_toArray, List.set_cons_zero, List.set_cons_succ, i64_w, i32_w]
    rfl
   refine pure_ (i := 2) (N := some 30) (v := ?_) (a' := ?_) #[true, false, true, false, false, false, false, false] rfl rfl (by kernel_rfl) (fun _ _ _ h => h) (Or.inl ⟨by rfl, ?_⟩) ?_ ?_
   rotate_left
   ·intro w'
    go_simp
    with_reducible rfl
   rotate_left
   ·simp only [Act.put, List.setIfInBounds_toArray, List.set_cons_zero, List.set_cons_succ, i64_w, i32_w]
    rfl
   refine take_ (i := 1) (N := some 29) (v := ?_) (a' := ?_) #[true, true, true, false, false, false, false, false] rfl rfl (by kernel_rfl) (fun _ _ _ h => h) (Or.inl ⟨by rfl, ?_⟩) hHeld ?_ ?_
   rotate_left
   ·intro w' s0
    go_simp
    with_reducible rfl
   rotate_left
   ·simp only [Act.put, List.setIfInBounds_toArray, List.set_cons_zero, List.set_cons_succ, i64_w, i32_w]
    rfl
   refine one_ (i := 3) (N := some 31) #[true, true, true, true, false, false, false, false] rfl rfl (by kernel_rfl) (by decide) (fun K hK => ?_)
   refine goes_ Tryd.func64 (by kernel_rfl) rfl #[.slice Ax xj.length cx] (by rfl) rfl rfl (by simp only [List.map_toArray, List.map_cons, List.map_nil]; rfl) ?_
   with_reducible refine (HCl.out _ J.HB).mono ?_
   rintro e w4 ⟨v8, rfl, ho, hb⟩
   refine ⟨_, rfl, ?_⟩
   obtain ⟨A8, c8, rfl⟩ := Kd.R_slice ho
   have J1 := J.e8 hb ho
   clear J
   have J := J1
   clear J1
   refine hK.out _ _ ((blk_cell J.HG 2).trans rfl) (fun hHeld => ?_)
   clear hK K
   refine norm_ (a' := ?_) ?_ ?_
   rotate_left
   ·show Act.put _ (some 31) _ = _
    simp only [Act.put, List.setIfInBounds_toArray, List.set_cons_zero, List.set_cons_succ, i64_w, i32_w]
    rfl
   refine one_ (i := 4) (N := some 32) #[true, true, true, true, true, false, false, false] rfl rfl (by kernel_rfl) (by decide) (fun K hK => ?_)
   refine value_ (w1 := ?_) (v := ?_) (by rfl) rfl ?_ ?_
   rotate_left 2
   ·go_simp
    constructor
    ·rfl
    ·rfl
   have J1 := J.e9
   try simp only [alloc_heap_size] at J1
   clear J
   have J := J1
   clear J1
   refine hK.out _ _ ((blk_cell J.HG 2).trans rfl) (fun hHeld => ?_)
   clear hK K
   refine norm_ (a' := ?_) ?_ ?_
   rotate_left
   ·show Act.put _ (some 32) _ = _
    simp only [Act.put, List.setIfInBounds_toArray, List.set_cons_zero, List.set_cons_succ, i64_w, i32_w]
    rfl
   refine one_ (i := 5) (N := some 33) #[true, true, true, true, true, true, false, false] rfl rfl (by kernel_rfl) (by decide) (fun K hK => ?_)
   refine LQ.e10 J ?hl (by rfl) (.tmp 29) (.tmp 32) rfl rfl rfl ?_
   (case hl => rw [HTL.out]; have := HLT.out; have := HL.out; omega)
   rw [HTL.out]
   intro A42 c42 w5 J1
   clear J
   have J := Aside0.mk J1
   clear J1
   refine hK.out _ _ ((blk_cell J.out.HG 2).trans rfl) (fun hHeld => ?_)
   clear hK K
   refine norm_ (a' := ?_) ?_ ?_
   rotate_left
   ·show Act.put _ (some 33) _ = _
    simp only [Act.put, List.setIfInBounds_toArray, List.set_cons_zero, List.set_cons_succ, i64_w, i32_w]
    rfl
   refine pure_ (i := 6) (N := some 34) (v := ?_) (a' := ?_) #[true, true, true, true, true, true, true, false] rfl rfl (by kernel_rfl) (fun _ _ _ h => h) (Or.inl ⟨by rfl, ?_⟩) ?_ ?_
   rotate_left
   ·intro w'
    go_simp
    with_reducible rfl
   rotate_left
   ·simp only [Act.put, List.setIfInBounds_toArray, List.set_cons_zero, List.set_cons_succ, i64_w, i32_w]
    rfl
   refine last_ (i := 7) (N := none) #[true, true, true, true, true, true, true, true] rfl rfl (by kernel_rfl) (by decide) (fun K hK => ?_)
   have hc22 : w5.cell? ⟨gc, 2, none⟩ = some (.slice As j cs) := (blk_cell J.out.HG 2).trans rfl
   have hf22 := blk_frozen J.out.HG 2
   refine skip_ (w1 := ?_) (by rfl) rfl ?_ ?_
   rotate_left
   ·go_simp
    rfl
   have J1 := Aside0.mk J.out.set2
   clear J hc22 hf22
   have J := J1
   clear J1
   refine hK.out _ _ ?_
   clear hK K
   refine done_ (by kernel_rfl) ?_
   go_wp2
   go_round
   case measure => exact op_sum.less HLT.out EW.out
   case rel =>
    refine ⟨j + 1, by rw [EW.out], HLT.out, ⟨⟨A42, c42, ?_⟩⟩⟩
    have h1 := J.out
    have e2 : l.take j ++ [xj] = l.take (j + 1) := by rw [List.take_succ_eq_append_getElem HLT.out, EXJ.out]; unfold rd_L3; rw [Int.toNat_natCast, List.getD_eq_getElem?_getD, List.getElem?_eq_getElem HLT.out]; rfl
    rw [e2] at h1
    exact h1
  ·have ej : j = l.length := by omega
   subst ej
   have hltb : decide ((l.length : Int) < (l.length : Int)) = false := decide_eq_false (by omega)
   obtain ⟨As, cs, J⟩ := HJ2.out
   have hc0 : wr.cell? ⟨gc, 0, none⟩ = some (.string s) := (blk_cell J.HG 0).trans rfl
   have hc1 : wr.cell? ⟨gc, 1, none⟩ = some (.slice A8 r.length c8) := (blk_cell J.HG 1).trans rfl
   have hc2 : wr.cell? ⟨gc, 2, none⟩ = some (.slice As l.length cs) := (blk_cell J.HG 2).trans rfl
   have hd0 : wr.cell? ⟨w.heap.size, 0, none⟩ = some (.string ⟨#[]⟩) := (blk_cell J.H2 0).trans rfl
   have hd1 : wr.cell? ⟨w.heap.size, 1, none⟩ = some (.slice none 0 0) := (blk_cell J.H2 1).trans rfl
   have hd2 : wr.cell? ⟨w.heap.size, 2, none⟩ = some (.slice none 0 0) := (blk_cell J.H2 2).trans rfl
   have hf0 := blk_frozen J.H2 0
   have hf1 := blk_frozen J.H2 1
   have hf2 := blk_frozen J.H2 2
   have JA := Aside0.mk J
   clear J HJ2 hlt hj
   go_wp2
   have HE := Aside0.mk (blk_put (blk_put (blk_put JA.out.H2 0 (.string s) rfl) 1 (.slice A8 r.length c8) rfl) 2 (.slice As l.length cs) rfl)
   refine bodyPost_ret (results_cell_row rfl _ _ w.heap.size 42 #[.string s, .slice A8 r.length c8, .slice As l.length cs] (0, 0) _ rfl HE.out Tryd.underlying42 rfl (by kernel_rfl)) rfl ?_
   have J := JA.out
   rw [List.take_length] at J
   have hb : Below w.heap.size w (((wr.setCell ⟨w.heap.size, 0, none⟩ (.string s)).setCell ⟨w.heap.size, 1, none⟩ (.slice A8 r.length c8)).setCell ⟨w.heap.size, 2, none⟩ (.slice As l.length cs)) := ((J.HB.setCell (Nat.le_refl _) _).setCell (Nat.le_refl _) _).setCell (Nat.le_refl _) _
   have r1 := Kd.R_far (p := ⟨w.heap.size, 2, none⟩) (Kd.R_far (p := ⟨w.heap.size, 1, none⟩) (Kd.R_far (p := ⟨w.heap.size, 0, none⟩) (Kd.R_types J.HR J.H2 (by decide)) (fun _ hk => hk.2) (.string s)) (fun _ hk => hk.2) (.slice A8 r.length c8)) (fun _ hk => hk.2) (.slice As l.length cs)
   have r2 := Kd.S_far (p := ⟨w.heap.size, 2, none⟩) (Kd.S_far (p := ⟨w.heap.size, 1, none⟩) (Kd.S_far (p := ⟨w.heap.size, 0, none⟩) (Kd.S_types J.HS J.H2 (by decide)) (fun _ hk => hk.2) (.string s)) (fun _ hk => hk.2) (.slice A8 r.length c8)) (fun _ hk => hk.2) (.slice As l.length cs)
   exact ⟨A8, c8, As, cs, rfl, Kd.R_mono r1 (fun _ _ => trivial), Kd.S_mono r2 (fun _ _ => trivial), hb⟩
end Go.Proofs.YtegjegihcebimaaDoor.P
end
