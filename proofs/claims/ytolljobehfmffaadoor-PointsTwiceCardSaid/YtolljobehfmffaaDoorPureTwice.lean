import Derived.Test.YtolljobehfmffaaDoorPx1
import Derived.Test.YtolljobehfmffaaDoorPx2
import Derived.Test.YtolljobehfmffaaDoorPx7
import Derived.Test.YtolljobehfmffaaDoorPureOf
import Derived.Lib.Walk
import Derived.Outline
namespace Go.Proofs.YtolljobehfmffaaDoor.Pure
open Go.RowKit Go.Proofs.YtolljobehfmffaaDoor.P Go.Proofs.YtolljobehfmffaaDoorW.PrintWords Go.Proofs.YtolljobehfmffaaDoorW.PrintLast Go.Proofs.YtolljobehfmffaaDoorW.PrintMore

/-- The four numbers, where the call has put them. -/
def Four (x0 x1 x2 x3 : Int) (b : Nat) (w : World) : Prop :=
  w.cell? ⟨b, 0, none⟩ = some (.int .u16 x0) ∧ w.cell? ⟨b, 1, none⟩ = some (.int .u16 x1) ∧ w.cell? ⟨b, 2, none⟩ = some (.int .u16 x2) ∧ w.cell? ⟨b, 3, none⟩ = some (.int .u16 x3)
theorem Four.kept {x0 x1 x2 x3 : Int} {b : Nat} {w w' : World} (h : Four x0 x1 x2 x3 b w) (hb : Below w.heap.size w w') : Four x0 x1 x2 x3 b w' :=
  ⟨(hb.cell (World.block_lt_of_cell? w _ h.1)).trans h.1, (hb.cell (World.block_lt_of_cell? w _ h.2.1)).trans h.2.1, (hb.cell (World.block_lt_of_cell? w _ h.2.2.1)).trans h.2.2.1, (hb.cell (World.block_lt_of_cell? w _ h.2.2.2)).trans h.2.2.2⟩
theorem four_new (w : World) (x0 x1 x2 x3 : Int) : Four x0 x1 x2 x3 w.heap.size (w.alloc (.cells #[.int .u16 x0, .int .u16 x1, .int .u16 x2, .int .u16 x3] 34)) := by
  have h := heap_alloc_new w (.cells #[.int .u16 x0, .int .u16 x1, .int .u16 x2, .int .u16 x3] 34)
  exact ⟨(blk_cell h 0).trans rfl, (blk_cell h 1).trans rfl, (blk_cell h 2).trans rfl, (blk_cell h 3).trans rfl⟩
set_option maxRecDepth 100000 in
set_option maxHeartbeats 8000000 in
theorem twice_walk (a0 r W A B : ByteArray) (x0 x1 x2 x3 n n1 I m1 m2 D K q1 q2 J s1 s2 E M P Q : Int) (w : World) (hT : Tabs w)
    (h0 : epitomelaw01_few.f a0 = some r) (h1 : ∃ k, epitomeref01_Fit.f k r = some W) (h2 : points_Count.f W = some n) (hn0 : decide (n < 0) = false)
    (e0 : wrap64 x0 = x0) (e1 : wrap64 x1 = x1) (e2 : wrap64 x2 = x2) (e3 : wrap64 x3 = x3)
    (f1 : wrap64 (n + 1) = n1) (g1 : ¬ n1 = 0) (f2 : Int.tmod x0 n1 = I) (f3 : wrap64 (n - I) = m1) (f4 : wrap64 (m1 + 1) = m2) (g2 : ¬ m2 = 0) (f5 : Int.tmod x1 m2 = D) (f6 : wrap64 (I + D) = K)
    (h3 : points_Cut.f W I K = some (A, 0)) (f7 : wrap64 (K - I) = q1) (f8 : wrap64 (q1 + 1) = q2) (g3 : ¬ q2 = 0) (f9 : Int.tmod x2 q2 = J)
    (f10 : wrap64 (q1 - J) = s1) (f11 : wrap64 (s1 + 1) = s2) (g4 : ¬ s2 = 0) (f12 : Int.tmod x3 s2 = E) (f13 : wrap64 (J + E) = M)
    (h4 : points_Cut.f A J M = some (B, 0)) (f14 : wrap64 (I + J) = P) (f15 : wrap64 (I + M) = Q) (h5 : points_Cut.f W P Q = some (B, 0)) :
    Calls Tryd.prog 6 #[.string a0, .agg #[.int .u16 x0, .int .u16 x1, .int .u16 x2, .int .u16 x3]] w fun e w' => e = .returned (.bool true) ∧ Below w.heap.size w w' := by
  have HT := Aside0.mk hT
  have H0 := Aside0.mk h0
  obtain ⟨k, h1⟩ := h1
  have H1 := Aside0.mk h1; have H2 := Aside0.mk h2; have H3 := Aside0.mk h3; have H4 := Aside0.mk h4; have H5 := Aside0.mk h5
  clear hT h0 h1 h2 h3 h4 h5
  have HB := Aside0.mk (Below.refl w.heap.size w)
  go_enter Tryd.func6, Tryd.ntmps6
  go_upto_region 1 with (fail)
  have HF := Aside0.mk (four_new w x0 x1 x2 x3)
  have n0_ := Aside0.mk (below_alloc HB.out (.cells #[.int .u16 x0, .int .u16 x1, .int .u16 x2, .int .u16 x3] 34))
  clear HB
  have HB := n0_
  clear n0_
  go_wp2_with (first | (go_at_call 14; (with_reducible refine (epitomelaw01_shown.calls true _ (Tabs.below HT.out HB.out) shown_ok).mono ?_); rintro e w1 ⟨rfl, hb⟩; have hf_ := Aside0.mk (HF.out.kept hb); have hb_ := Aside0.mk (below_step HB.out hb); clear HB HF; have HB := hb_; have HF := hf_; clear hb_ hf_ hb; obtain ⟨c0, c1, c2, c3⟩ := HF.out) | (go_at_call 15; (with_reducible refine (epitomelaw01_few.calls a0 r _ H0.out).mono ?_); rintro e w1 ⟨rfl, hb⟩; have hf_ := Aside0.mk (HF.out.kept hb); have hb_ := Aside0.mk (below_step HB.out hb); clear HB HF; have HB := hb_; have HF := hf_; clear hb_ hf_ hb; obtain ⟨c0, c1, c2, c3⟩ := HF.out) | (go_at_call 22; (with_reducible refine (epitomeref01_Fit.calls k r W _ H1.out).mono ?_); rintro e w1 ⟨rfl, hb⟩; have hf_ := Aside0.mk (HF.out.kept hb); have hb_ := Aside0.mk (below_step HB.out hb); clear HB HF; have HB := hb_; have HF := hf_; clear hb_ hf_ hb; obtain ⟨c0, c1, c2, c3⟩ := HF.out) | (go_at_call 20; (with_reducible refine (points_Count.calls W n _ (Tabs.below HT.out HB.out) H2.out).mono ?_); rintro e w1 ⟨rfl, hb⟩; have hf_ := Aside0.mk (HF.out.kept hb); have hb_ := Aside0.mk (below_step HB.out hb); clear HB HF; have HB := hb_; have HF := hf_; clear hb_ hf_ hb; obtain ⟨c0, c1, c2, c3⟩ := HF.out) | (go_at_call 16; (with_reducible refine (points_Cut.calls W I K A 0 _ (Tabs.below HT.out HB.out) H3.out).mono ?_); rintro e w1 ⟨rfl, hb⟩; have hf_ := Aside0.mk (HF.out.kept hb); have hb_ := Aside0.mk (below_step HB.out hb); clear HB HF; have HB := hb_; have HF := hf_; clear hb_ hf_ hb; obtain ⟨c0, c1, c2, c3⟩ := HF.out) | (go_at_call 16; (with_reducible refine (points_Cut.calls A J M B 0 _ (Tabs.below HT.out HB.out) H4.out).mono ?_); rintro e w1 ⟨rfl, hb⟩; have hf_ := Aside0.mk (HF.out.kept hb); have hb_ := Aside0.mk (below_step HB.out hb); clear HB HF; have HB := hb_; have HF := hf_; clear hb_ hf_ hb; obtain ⟨c0, c1, c2, c3⟩ := HF.out) | (go_at_call 16; (with_reducible refine (points_Cut.calls W P Q B 0 _ (Tabs.below HT.out HB.out) H5.out).mono ?_); rintro e w1 ⟨rfl, hb⟩; have hf_ := Aside0.mk (HF.out.kept hb); have hb_ := Aside0.mk (below_step HB.out hb); clear HB HF; have HB := hb_; have HF := hf_; clear hb_ hf_ hb; obtain ⟨c0, c1, c2, c3⟩ := HF.out))
  go_ret
  exact ⟨by simp, HB.out⟩
end Go.Proofs.YtolljobehfmffaaDoor.Pure
