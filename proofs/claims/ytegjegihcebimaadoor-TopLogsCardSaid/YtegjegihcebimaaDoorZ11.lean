/- Part 11 of the proof of topLogs_holds: out of the texts that this session's programs wrote, what the theorem reaches. -/
import Derived.Test.YtegjegihcebimaaDoorZ10
import Derived.Test.YtegjegihcebimaaDoorZ4
section
namespace Go.Proofs.YtegjegihcebimaaDoor.P
open Go.RowKit Go.Proofs.YtegjegihcebimaaDoorW.PrintWords Go.Proofs.YtegjegihcebimaaDoorW.PrintLast Go.Proofs.YtegjegihcebimaaDoorW.PrintMore
attribute [local go_sem] max2_int min2_int max_two min_two max_three min_three max_four min_four
set_option linter.unusedVariables false
set_option linter.unusedSimpArgs false
set_option maxHeartbeats 8000000 in
set_option maxRecDepth 100000 in
theorem server_of.calls (k : Nat) (s : ByteArray) (Ar : Option Addr) (cr : Nat) (r : List Int) (Al : Option Addr) (cl : Nat) (l : List (List S25)) (z : List Int) (w : World) (hr : Kd.C (Kd.int .i64) w Ar r.length r) (hcr : r.length ≤ cr) (hl : Kd.C (Kd.slice 25 k25) w Al l.length l) (hcl : l.length ≤ cl) (hT : Tabs w) (h : chain_Sizes.f k s r l = some (z, 0)) :
  Calls Tryd.prog 67 #[.agg #[.string s, .slice Ar r.length cr, .slice Al l.length cl]] w fun e w' => ∃ (g : Nat) (vz : Value), e = .returned (.pointer (some ⟨g, 0, none⟩)) ∧ w'.heap[g]? = some (.cells #[.string s, .slice Ar r.length cr, .slice Al l.length cl, vz, .func (.func 89) #[] #[]] 120 (0, 0)) ∧ w.heap.size ≤ g ∧ Kd.R (Kd.int .i64) 3 w' w.heap.size (fun k => k ≠ g) vz z ∧ Below w.heap.size w w' := by
 have HC := Aside0.mk (chain_Sizes.calls k s Ar cr r Al cl l z 0 (w.alloc (.cells #[.string s, .slice Ar r.length cr, .slice Al l.length cl] 42)) (Kd.C_alloc hr _) hcr (Kd.C_alloc hl _) hcl (Tabs.below hT (below_alloc (Below.refl _ _) _)) h)
 have HB0 := Aside0.mk (below_alloc (Below.refl w.heap.size w) (.cells #[.string s, .slice Ar r.length cr, .slice Al l.length cl] 42))
 have HN := Aside0.mk (heap_alloc_new w (.cells #[.string s, .slice Ar r.length cr, .slice Al l.length cl] 42))
 clear hr hcr hl hcl hT h
 go_enter Tryd.func67, Tryd.ntmps67
 go_upto_region 1 with (fail)
 generalize w.alloc (.cells #[.string s, .slice Ar r.length cr, .slice Al l.length cl] 42) = w1 at HC HB0 HN ⊢
 generalize w.heap.size = g0 at HN ⊢
 have x0 : w1.cell? ⟨g0, 0, none⟩ = some (.string s) := (blk_cell HN.out 0).trans rfl
 have x1 : w1.cell? ⟨g0, 1, none⟩ = some (.slice Ar r.length cr) := (blk_cell HN.out 1).trans rfl
 have x2 : w1.cell? ⟨g0, 2, none⟩ = some (.slice Al l.length cl) := (blk_cell HN.out 2).trans rfl
 go_wp2_with (go_at_call 54; (with_reducible refine HC.out.mono ?_); rintro e w2 ⟨v2, rfl, ho, hb⟩; obtain ⟨A2, c2, rfl⟩ := Kd.R_slice ho; have HO := Aside0.mk ho; have HB := Aside0.mk hb; clear ho; have y0 := cell_past hb x0; have y1 := cell_past hb x1; have y2 := cell_past hb x2; clear hb x0 x1 x2)
 go_ret
 have b2 := heap_alloc_new w2 (.cells #[.string s, .slice Ar r.length cr, .slice Al l.length cl, .slice A2 z.length c2, .func (.func 89) #[] #[]] 120)
 have hs := HB.out.size
 have hs0 := HB0.out.size
 exact ⟨w2.heap.size, .slice A2 z.length c2, rfl, b2, by omega, Kd.R_lower (Kd.R_alloc (Kd.R_mono (Kd.R_bound HO.out) (fun k hk => by have := hk.2.2.1; omega)) _) hs0, below_then HB0.out hs0 (below_alloc HB.out _)⟩
theorem SI_of {w w' : World} {P : Nat → Prop} {g : Nat} {s : ByteArray} {r z : List Int} {l : List (List S25)} {vr vl vz : Value} (hP : ∀ k, P k → k < w.heap.size) (hr : Kd.R (Kd.int .i64) 3 w 0 P vr r) (hl : Kd.S (Kd.slice 25 k25) 27 w 0 P vl l)
  (hg : w'.heap[g]? = some (.cells #[.string s, vr, vl, vz, .func (.func 89) #[] #[]] 120 (0, 0))) (hgw : w.heap.size ≤ g) (hz : Kd.R (Kd.int .i64) 3 w' w.heap.size (fun k => k ≠ g) vz z) (hb : Below w.heap.size w w') :
  SI w' (fun k => P k ∨ (w.heap.size ≤ k ∧ k < w'.heap.size)) g s r l z := by
 have hs := hb.size
 have hgl := blk_lt hg
 refine ⟨.inr ⟨hgw, hgl⟩, fun k hk => ?_, vr, vl, vz, hg, Kd.S_mono (Kd.S_below hl hb) (fun k hk => ⟨.inl hk, by have := hP k hk; omega⟩), Kd.R_mono (Kd.R_below hr hb) (fun k hk => ⟨⟨.inl hk, by have := hP k hk; omega⟩, fun e => ?_⟩), Kd.R_lower (Kd.R_mono (Kd.R_bound hz) (fun k hk => ⟨.inr ⟨hk.2.1, hk.2.2.1⟩, hk.1⟩)) (Nat.zero_le _)⟩
 ·rcases hk with hk | hk
  ·have := hP k hk; omega
  ·exact hk.2
 ·have h1 := hP k hk
  have h2 := Kd.R_base hz k e.symm
  omega
set_option maxHeartbeats 8000000 in
set_option maxRecDepth 100000 in
theorem server_New.calls (k : Nat) (s : ByteArray) (n : Int) (w : World) (hT : Tabs w) (h : points_Count.f s = some n) (h0 : 0 ≤ n) (h1 : n ≤ 1048576) (h2 : chain_Sizes.f k s [0] [] = some ([n], 0)) :
  Calls Tryd.prog 30 #[.string s] w fun e w' => ∃ g, e = .returned (.tuple #[.pointer (some ⟨g, 0, none⟩), .int .i64 0]) ∧ SI w' (fun k => w.heap.size ≤ k ∧ k < w'.heap.size) g s [0] [] [n] ∧ Below w.heap.size w w' := by
 have H := Aside0.mk h
 have HT := Aside0.mk hT
 have H2 := Aside0.mk h2
 have d0 : decide (n < 0) = false := decide_eq_false (by omega)
 have d1 : decide (1048576 < n) = false := decide_eq_false (by omega)
 clear h hT h2
 go_enter Tryd.func30, Tryd.ntmps30
 go_upto_region 6 with (go_at_call 10; (with_reducible refine (points_Count.calls s n _ HT.out H.out).mono ?_); rintro e w1 ⟨rfl, hb⟩; have HB1 := Aside0.mk hb; clear hb)
 have b1 := heap_alloc_new w1 (.cells #[.int .i64 0] 3)
 have HBA := Aside0.mk (below_alloc HB1.out (.cells #[.int .i64 0] 3))
 have hr := R_one (B := 0) (ok := fun k => w.heap.size ≤ k ∧ k < (w1.alloc (.cells #[.int .i64 0] 3)).heap.size) b1 (Nat.zero_le _) ⟨HB1.out.size, by simp⟩
 have HR := Aside0.mk hr
 have HC := Aside0.mk (by have h9 := server_of.calls k s (some ⟨w1.heap.size, 0, none⟩) 1 [0] none 0 [] [n] (w1.alloc (.cells #[.int .i64 0] 3)) (Kd.R_reads' hr).2.2 (by decide) (Kd.C_nil _ _) (Nat.le_refl _) (Tabs.below HT.out HBA.out) H2.out; rw [List.length_singleton, List.length_nil] at h9; exact h9)
 clear hr b1
 go_wp2_with (go_at_call 67; (with_reducible refine HC.out.mono ?_); rintro e w3 ⟨g, vz, rfl, hg, hgw, hz, hb⟩; have HG := Aside0.mk (SI_of (fun k hk => hk.2) HR.out (Kd.S_nil _ _ _ _ _) hg hgw hz hb); have HB3 := Aside0.mk hb; clear hg hgw hz hb)
 go_ret2
 have hs := HBA.out.size
 have hs3 := HB3.out.size
 obtain ⟨q1, q2, vr, vl, vz, q3, q4, q5, q6⟩ := HG.out
 have hm : ∀ k, ((w.heap.size ≤ k ∧ k < (w1.alloc (.cells #[.int .i64 0] 3)).heap.size) ∨ ((w1.alloc (.cells #[.int .i64 0] 3)).heap.size ≤ k ∧ k < w3.heap.size)) → w.heap.size ≤ k ∧ k < w3.heap.size := fun k hk => by omega
 exact ⟨g, rfl, ⟨hm _ q1, fun k hk => hk.2, vr, vl, vz, q3, Kd.S_mono q4 (fun k hk => ⟨hm k hk.1, hk.2⟩), Kd.R_mono q5 (fun k hk => ⟨⟨hm k hk.1.1, hk.1.2⟩, hk.2⟩), Kd.R_mono q6 (fun k hk => ⟨hm k hk.1, hk.2⟩)⟩, below_step HBA.out HB3.out⟩
set_option maxHeartbeats 8000000 in
set_option maxRecDepth 100000 in
theorem server_Head.calls (w : World) (P : Nat → Prop) (g : Nat) (s : ByteArray) (r : List Int) (l : List (List S25)) (z : List Int) (m : Nat) (hd : Int) (h : SI w P g s r l z) (hm : r.length = m + 1) (hb : m < 1000000) (hh : rd r (m : Int) = hd) :
  Calls Tryd.prog 68 #[.pointer (some ⟨g, 0, none⟩)] w fun e w' => e = .returned (.int .i64 hd) ∧ Below w.heap.size w w' := by
 obtain ⟨Ar, cr, Al, cl, Az, cz, hg, l1, l2, l3, r1, r2, r3⟩ := h.reads
 have EW : wrap64 ((r.length : Int) - 1) = (m : Int) := by unfold wrap64; omega
 obtain ⟨ad, hA, hc⟩ := Kd.at_int r1 (m : Int) (by omega) (by omega)
 subst hA
 rw [Int.toNat_natCast, hh] at hc
 have c1 : w.cell? ⟨g, 1, none⟩ = some (.slice (some ad) r.length cr) := (blk_cell hg 1).trans rfl
 have p1 : (0 : Int) ≤ (m : Int) := by omega
 have p2 : (m : Int) < (r.length : Int) := by omega
 have p3 : m < r.length := by omega
 have HB := Aside0.mk (Below.refl w.heap.size w)
 clear h hg l1 l2 l3 r1 r2 r3 hh hm hb
 go_enter Tryd.func68, Tryd.ntmps68
 go_wp2
 go_quiet (fail)
 go_wp2
 go_ret
 exact ⟨rfl, pw_below_drewN HB.out _⟩
end Go.Proofs.YtegjegihcebimaaDoor.P
end
