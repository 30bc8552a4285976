-- WRITTEN BY A PROGRAM OF THIS SESSION (wip/pp in its repo), made after the kit's print
import Derived.Test.YtolljobehfmffaaDoorPx0
import Derived.Test.YtolljobehfmffaaDoorPx1
import Derived.Test.YtolljobehfmffaaDoorPx14
namespace Go.Proofs.YtolljobehfmffaaDoor.P
open Go.RowKit Go.Proofs.YtolljobehfmffaaDoorW.PrintWords Go.Proofs.YtolljobehfmffaaDoorW.PrintLast Go.Proofs.YtolljobehfmffaaDoorW.PrintMore
attribute [local go_sem] max2_int min2_int max_two min_two max_three min_three max_four min_four   -- for this text's walks alone
set_option linter.unusedVariables false
set_option linter.unusedSimpArgs false

/-! ### snap_Take: function 35 -/
def snap_Take.g (l l2 : List Int) (n e : Int) : Option (ByteArray × Int × Int) :=
  if e = 0 then (if (l2.length : Int) < n then some ((⟨#[]⟩ : ByteArray), 0, 7) else if 0 ≤ n then (if validT (strOfNums (l2.take n.toNat)) then some (strOfNums (l2.take n.toNat), (l.length : Int) - (l2.length : Int) + n, 0) else some ((⟨#[]⟩ : ByteArray), 0, 8)) else none) else some ((⟨#[]⟩ : ByteArray), 0, e)
def snap_Take.f (k : Nat) (l : List Int) : Option (ByteArray × Int × Int) :=
  if l.length < 140737488355328 then (snap_reader_number.f k l 0 65536).bind fun t => snap_Take.g l (l.drop t.2.1.toNat) t.1 t.2.2 else none
theorem snap_Take.mono (l : List Int) (k : Nat) : LeO (snap_Take.f k l) (snap_Take.f (k + 1) l) := by
  unfold snap_Take.f
  exact LeO.ite (LeO.bind (snap_reader_number.mono _ _ _ _) fun t => LeO.refl _) (LeO.none _)
/-- The reader, made of a row. -/
def snap_Take.made (w : World) (A : Option Addr) (n c : Nat) : World := ((w.alloc (.cells #[.slice none 0 0, .int .i64 0] 69)).setCell ⟨w.heap.size, 0, none⟩ (.slice A n c)).setCell ⟨w.heap.size, 1, none⟩ (.int .i64 0)
theorem snap_Take.made_at (w : World) (A : Option Addr) (n c : Nat) : (snap_Take.made w A n c).heap[w.heap.size]? = some (.cells #[.slice A n c, .int .i64 0] 69 (0, 0)) :=
  blk_put (blk_put (heap_alloc_new w _) 0 _ rfl) 1 _ rfl
theorem snap_Take.made_below (w : World) (A : Option Addr) (n c : Nat) : Below w.heap.size w (snap_Take.made w A n c) :=
  ((below_alloc (Below.refl w.heap.size w) _).setCell (Nat.le_refl _) _).setCell (Nat.le_refl _) _
set_option maxHeartbeats 8000000 in
set_option maxRecDepth 100000 in
theorem snap_Take.calls (k : Nat) (A0 : Option Addr) (c0 : Nat) (l0 : List Int) (r1 : ByteArray) (r2 r3 : Int) (w : World) (hr0 : Kd.C (Kd.int .u8) w A0 l0.length l0) (hc0 : l0.length ≤ c0) (hT : Tabs w) (h : snap_Take.f k l0 = some (r1, r2, r3)) :
    Calls Tryd.prog 35 #[.slice A0 l0.length c0] w fun e w' => e = .returned (.tuple #[.string r1, .int .i64 r2, .int .i64 r3]) ∧ Below w.heap.size w w' := by
  unfold snap_Take.f at h
  by_cases c : l0.length < 140737488355328
  · rw [if_pos c] at h
    obtain ⟨⟨n, u, e1⟩, hN, h⟩ := Option.bind_eq_some_iff.mp h
    dsimp only at h
    obtain ⟨l2, hl2⟩ : ∃ l2, l0.drop u.toNat = l2 := ⟨_, rfl⟩
    have HLL : Aside0 (l2.length ≤ l0.length) := ⟨by rw [← hl2, List.length_drop]; omega⟩
    rw [hl2] at h
    have HL2 := Aside0.mk hl2
    have HR0 := Aside0.mk hr0; have HC0 := Aside0.mk hc0; have HT := Aside0.mk hT; have HZ := Aside0.mk c
    clear hr0 hc0 hT c hl2
    unfold snap_Take.g at h
    by_cases g : e1 = 0
    · subst g
      have HN := Aside0.mk hN
      clear hN
      rw [if_pos rfl] at h
      by_cases g1 : (l2.length : Int) < n
      · rw [if_pos g1] at h
        simp only [Option.some.injEq, Prod.mk.injEq] at h
        obtain ⟨rfl, rfl, rfl⟩ := h
        have g1b : decide ((l2.length : Int) < n) = true := decide_eq_true g1
        clear g1
        go_enter Tryd.func35, Tryd.ntmps35
        go_wp2_with (first | (go_at_call 45; (with_reducible refine (snap_reader_number.calls k l0 0 65536 n u 0 A0 c0 w.heap.size w _ HN.out (heap_alloc_new w _) HR0.out HC0.out (below_alloc (Below.refl _ _) _) (Nat.le_refl _)).mono ?_); rintro e w1 ⟨rfl, A1, c1, hf, hc, hl, hb, _⟩; rw [HL2.out] at hf hc hl; have HF := Aside0.mk hf; have HR1 := Aside0.mk hc; have HC1 := Aside0.mk hl; have HB1 := Aside0.mk hb; clear hf hc hl hb; have k0 : w1.cell? ⟨w.heap.size, 0, none⟩ = some (.slice A1 l2.length c1) := (blk_cell HF.out 0).trans rfl; have k1 : w1.cell? ⟨w.heap.size, 1, none⟩ = some (.int .i64 0) := (blk_cell HF.out 1).trans rfl))
        go_ret3
        exact ⟨rfl, HB1.out⟩
      · rw [if_neg g1] at h
        by_cases g2 : 0 ≤ n
        · rw [if_pos g2] at h
          have g1b : decide ((l2.length : Int) < n) = false := decide_eq_false g1
          have G := Aside0.mk (And.intro g2 (show n ≤ (l2.length : Int) by omega))
          obtain ⟨q, hq⟩ : ∃ q, l2.take n.toNat = q := ⟨_, rfl⟩
          have hql : q.length = n.toNat := by rw [← hq, List.length_take]; omega
          have HQ := Aside0.mk hq
          rw [hq] at h
          clear g1 hq
          have HI : Aside0 (∃ i, Tryd.prog.info? 5 = some i ∧ i.size = 1) := ⟨by obtain ⟨i0, hi0, _, hsz, _⟩ := info_parts info5; exact ⟨i0, hi0, hsz⟩⟩
          have hs : (strOfNums q).size < 9223372036854775807 := by have := HZ.out; have := HLL.out; have := G.out; rw [strOfNums_size]; omega
          by_cases v : validT (strOfNums q) = true
          · rw [if_pos v] at h
            simp only [Option.some.injEq, Prod.mk.injEq] at h
            obtain ⟨rfl, rfl, rfl⟩ := h
            have HV : Aside0 (points_Valid.f (strOfNums q) = some true) := ⟨by unfold points_Valid.f; rw [if_pos hs, v]⟩
            have e5 : wrap64 ((l0.length : Int) - (l2.length : Int)) = (l0.length : Int) - (l2.length : Int) := by have := HZ.out; have := HLL.out; unfold wrap64; omega
            have e6 : wrap64 ((l0.length : Int) - (l2.length : Int) + n) = (l0.length : Int) - (l2.length : Int) + n := by have := HZ.out; have := HLL.out; have := G.out; unfold wrap64; omega
            clear hs v g2 hql
            go_enter Tryd.func35, Tryd.ntmps35
            go_wp2_with (first | (go_at_call 45; (with_reducible refine (snap_reader_number.calls k l0 0 65536 n u 0 A0 c0 w.heap.size w _ HN.out (heap_alloc_new w _) HR0.out HC0.out (below_alloc (Below.refl _ _) _) (Nat.le_refl _)).mono ?_); rintro e w1 ⟨rfl, A1, c1, hf, hc, hl, hb, _⟩; rw [HL2.out] at hf hc hl; have HF := Aside0.mk hf; have HR1 := Aside0.mk hc; have HC1 := Aside0.mk hl; have HB1 := Aside0.mk hb; clear hf hc hl hb; have k0 : w1.cell? ⟨w.heap.size, 0, none⟩ = some (.slice A1 l2.length c1) := (blk_cell HF.out 0).trans rfl; have k1 : w1.cell? ⟨w.heap.size, 1, none⟩ = some (.int .i64 0) := (blk_cell HF.out 1).trans rfl; obtain ⟨hcut, hA, hC⟩ := print_take_of (P := Tryd.prog) (Value.int .u8) 0 32 5 .i64 Tryd.underlying32 HI.out.choose_spec.1 HI.out.choose_spec.2 A1 c1 l2 n G.out.1 G.out.2 HC1.out; rw [HQ.out] at hcut hA hC; have HR2 := Aside0.mk (Kd.C_of_reads (h1 := fun _ => rfl) (hA _ (Kd.reads_of_C HR1.out))); have hcv := Kd.C_string (P := Tryd.prog) (A := A1) (c := c1) Tryd.underlying32 Tryd.underlying5 Tryd.underlying9 (Kd.C_below HR2.out HB1.out); clear hA hC) | (go_at_call 18; (with_reducible refine (points_Valid.calls (strOfNums q) true _ (Tabs.below HT.out HB1.out) HV.out).mono ?_); rintro e w2 ⟨rfl, hb⟩; have HB2 := Aside0.mk (below_then HB1.out HB1.out.size hb); have HF2 := Aside0.mk (blk_below HF.out hb); clear hb; have k0 : w2.cell? ⟨w.heap.size, 0, none⟩ = some (.slice A1 l2.length c1) := (blk_cell HF2.out 0).trans rfl; have hcv2 := Kd.C_string (P := Tryd.prog) (A := A1) (c := c1) Tryd.underlying32 Tryd.underlying5 Tryd.underlying9 (Kd.C_below HR2.out HB2.out); have hcv3 := fun (m_ : Nat) => Kd.C_string (P := Tryd.prog) (A := A1) (c := c1) Tryd.underlying32 Tryd.underlying5 Tryd.underlying9 (Kd.C_drewN (Kd.C_below HR2.out HB2.out) m_)))
            have E6 := Aside0.mk e6
            go_quiet (fail)
            go_wp2
            go_ret3
            exact ⟨congrArg (fun z => Ending.returned (.tuple #[.string (strOfNums q), .int .i64 z, .int .i64 0])) E6.out, pw_below_drewN HB2.out _⟩
          · rw [if_neg v] at h
            simp only [Option.some.injEq, Prod.mk.injEq] at h
            obtain ⟨rfl, rfl, rfl⟩ := h
            have HV : Aside0 (points_Valid.f (strOfNums q) = some false) := ⟨by unfold points_Valid.f; rw [if_pos hs, Bool.eq_false_iff.mpr v]⟩
            clear hs v g2 hql
            go_enter Tryd.func35, Tryd.ntmps35
            go_wp2_with (first | (go_at_call 45; (with_reducible refine (snap_reader_number.calls k l0 0 65536 n u 0 A0 c0 w.heap.size w _ HN.out (heap_alloc_new w _) HR0.out HC0.out (below_alloc (Below.refl _ _) _) (Nat.le_refl _)).mono ?_); rintro e w1 ⟨rfl, A1, c1, hf, hc, hl, hb, _⟩; rw [HL2.out] at hf hc hl; have HF := Aside0.mk hf; have HR1 := Aside0.mk hc; have HC1 := Aside0.mk hl; have HB1 := Aside0.mk hb; clear hf hc hl hb; have k0 : w1.cell? ⟨w.heap.size, 0, none⟩ = some (.slice A1 l2.length c1) := (blk_cell HF.out 0).trans rfl; have k1 : w1.cell? ⟨w.heap.size, 1, none⟩ = some (.int .i64 0) := (blk_cell HF.out 1).trans rfl; obtain ⟨hcut, hA, hC⟩ := print_take_of (P := Tryd.prog) (Value.int .u8) 0 32 5 .i64 Tryd.underlying32 HI.out.choose_spec.1 HI.out.choose_spec.2 A1 c1 l2 n G.out.1 G.out.2 HC1.out; rw [HQ.out] at hcut hA hC; have HR2 := Aside0.mk (Kd.C_of_reads (h1 := fun _ => rfl) (hA _ (Kd.reads_of_C HR1.out))); have hcv := Kd.C_string (P := Tryd.prog) (A := A1) (c := c1) Tryd.underlying32 Tryd.underlying5 Tryd.underlying9 (Kd.C_below HR2.out HB1.out); clear hA hC) | (go_at_call 18; (with_reducible refine (points_Valid.calls (strOfNums q) false _ (Tabs.below HT.out HB1.out) HV.out).mono ?_); rintro e w2 ⟨rfl, hb⟩; have HB2 := Aside0.mk (below_then HB1.out HB1.out.size hb); have HF2 := Aside0.mk (blk_below HF.out hb); clear hb; have k0 : w2.cell? ⟨w.heap.size, 0, none⟩ = some (.slice A1 l2.length c1) := (blk_cell HF2.out 0).trans rfl; have hcv2 := Kd.C_string (P := Tryd.prog) (A := A1) (c := c1) Tryd.underlying32 Tryd.underlying5 Tryd.underlying9 (Kd.C_below HR2.out HB2.out); have hcv3 := fun (m_ : Nat) => Kd.C_string (P := Tryd.prog) (A := A1) (c := c1) Tryd.underlying32 Tryd.underlying5 Tryd.underlying9 (Kd.C_drewN (Kd.C_below HR2.out HB2.out) m_)))
            go_ret3
            exact ⟨rfl, HB2.out⟩
        · rw [if_neg g2] at h; cases h
    · rw [if_neg g] at h
      simp only [Option.some.injEq, Prod.mk.injEq] at h
      obtain ⟨rfl, rfl, rfl⟩ := h
      have HN := Aside0.mk hN
      clear hN
      have gb : (e1 != 0) = true := bne_iff_ne.mpr g
      clear g
      go_enter Tryd.func35, Tryd.ntmps35
      go_wp2_with (first | (go_at_call 45; (with_reducible refine (snap_reader_number.calls k l0 0 65536 n u e1 A0 c0 w.heap.size w _ HN.out (heap_alloc_new w _) HR0.out HC0.out (below_alloc (Below.refl _ _) _) (Nat.le_refl _)).mono ?_); rintro e w1 ⟨rfl, A1, c1, hf, hc, hl, hb, _⟩; rw [HL2.out] at hf hc hl; have HF := Aside0.mk hf; have HR1 := Aside0.mk hc; have HC1 := Aside0.mk hl; have HB1 := Aside0.mk hb; clear hf hc hl hb; have k0 : w1.cell? ⟨w.heap.size, 0, none⟩ = some (.slice A1 l2.length c1) := (blk_cell HF.out 0).trans rfl; have k1 : w1.cell? ⟨w.heap.size, 1, none⟩ = some (.int .i64 e1) := (blk_cell HF.out 1).trans rfl))
      go_quiet (fail)
      go_wp2
      go_ret3
      exact ⟨rfl, pw_below_drewN HB1.out _⟩
  · rw [if_neg c] at h; cases h

/-! ### snap_TakeRow: function 29 -/
def snap_TakeRow.l : Nat → Int → Int → List Int → Int → Int → List Int → Option (List Int × List Int × Int)
  | 0, _, _, _, _, _, _ => none
  | k + 1, i, many, l2, e, was, out => if i < many then (snap_reader_number.f k l2 e 268435455).bind fun t => (if t.2.2 = 0 then (if wrap64 (was + wrap64 (1 + t.1)) > 268435455 then some (out, l2.drop t.2.1.toNat, 8) else if out.length < 1000000 then snap_TakeRow.l k (wrap64 (i + 1)) many (l2.drop t.2.1.toNat) 0 (wrap64 (was + wrap64 (1 + t.1))) (out ++ [wrap64 (was + wrap64 (1 + t.1))]) else none) else some (out, l2.drop t.2.1.toNat, t.2.2)) else some (out, l2, e)
theorem snap_TakeRow.mono_l : ∀ (k : Nat) (i many : Int) (l2 : List Int) (e was : Int) (out : List Int), LeO (snap_TakeRow.l k i many l2 e was out) (snap_TakeRow.l (k + 1) i many l2 e was out)
  | 0, _, _, _, _, _, _ => fun r h => by simp [snap_TakeRow.l] at h
  | k + 1, i, many, l2, e, was, out => by
    have ih := snap_TakeRow.mono_l k
    unfold snap_TakeRow.l
    refine LeO.ite (LeO.bind (snap_reader_number.mono _ _ _ _) fun t => ?_) (LeO.refl _)
    exact LeO.ite (LeO.ite (LeO.refl _) (LeO.ite (ih _ _ _ _ _ _) (LeO.none _))) (LeO.refl _)
def snap_TakeRow.g (l : List Int) (z : List Int × List Int × Int) : Option (List Int × Int × Int) := if z.2.2 = 0 then some (z.1, wrap64 ((l.length : Int) - (z.2.1.length : Int)), 0) else some ([], 0, z.2.2)
def snap_TakeRow.f (k : Nat) (l : List Int) : Option (List Int × Int × Int) :=
  (snap_reader_number.f k l 0 65536).bind fun t => (snap_TakeRow.l k 0 t.1 (l.drop t.2.1.toNat) (if t.2.2 = 0 ∧ t.1 = 0 then 8 else t.2.2) (-1) []).bind (snap_TakeRow.g l)
theorem snap_TakeRow.mono (l : List Int) (k : Nat) : LeO (snap_TakeRow.f k l) (snap_TakeRow.f (k + 1) l) := by
  unfold snap_TakeRow.f
  exact LeO.bind (snap_reader_number.mono _ _ _ _) fun t => LeO.bind (snap_TakeRow.mono_l _ _ _ _ _ _ _) fun z => LeO.refl _
theorem snap_TakeRow.kept {w w1 : World} {base B : Nat} {v : Value} {out : List Int} {cells : Array Value} (h : Kd.R (Kd.int .i64) 3 w base (fun _ => True) v out) (hB : w.heap[B]? = some (.cells cells 69 (0, 0))) (hk : ∀ g, g ≠ B → w1.heap[g]? = w.heap[g]?) :
    Kd.R (Kd.int .i64) 3 w1 base (fun _ => True) v out := by
  refine Kd.R_mono (Kd.R_move (Kd.R_bound h) (fun k hk' => hk k ?_)) (fun _ _ => trivial)
  rintro rfl
  obtain ⟨_, _, _, q, hq, cells', hc⟩ := hk'
  rw [hB] at hc
  injection hc with hc
  injection hc with _ hq2
  exact (show ∀ q, q ∈ 3 :: (Kd.int .i64).E → q ≠ 69 by decide) q hq hq2.symm
/-- What holds at the loop's head. -/
def snap_TakeRow.J (w : World) (l0 r1 : List Int) (r2 r3 many : Int) (kq : Nat) (i was : Int) (v : Value) (wr : World) : Prop :=
  ∃ (l2 out : List Int) (e : Int) (A : Option Addr) (c : Nat), (snap_TakeRow.l kq i many l2 e was out).bind (snap_TakeRow.g l0) = some (r1, r2, r3) ∧ wr.heap[w.heap.size]? = some (.cells #[.slice A l2.length c, .int .i64 e] 69 (0, 0)) ∧
    Kd.C (Kd.int .u8) w A l2.length l2 ∧ l2.length ≤ c ∧ Kd.R (Kd.int .i64) 3 wr w.heap.size (fun _ => True) v out ∧ Below w.heap.size w wr
set_option maxHeartbeats 8000000 in
set_option maxRecDepth 100000 in
theorem snap_TakeRow.calls (k : Nat) (A0 : Option Addr) (c0 : Nat) (l0 : List Int) (r1 : List Int) (r2 r3 : Int) (w : World) (hr0 : Kd.C (Kd.int .u8) w A0 l0.length l0) (hc0 : l0.length ≤ c0) (h : snap_TakeRow.f k l0 = some (r1, r2, r3)) :
    Calls Tryd.prog 29 #[.slice A0 l0.length c0] w fun e w' => ∃ v0_ : Value, e = .returned (.tuple #[v0_, .int .i64 r2, .int .i64 r3]) ∧ Kd.R (Kd.int .i64) 3 w' w.heap.size (fun _ => True) v0_ r1 ∧ Below w.heap.size w w' := by
  unfold snap_TakeRow.f at h
  obtain ⟨⟨n, u, e1⟩, hN, h⟩ := Option.bind_eq_some_iff.mp h
  dsimp only at h
  obtain ⟨l2, hl2⟩ : ∃ l2, l0.drop u.toNat = l2 := ⟨_, rfl⟩
  rw [hl2] at h
  have HL2 := Aside0.mk hl2
  have HR0 := Aside0.mk hr0; have HC0 := Aside0.mk hc0; have HN := Aside0.mk hN; have H := Aside0.mk h
  clear hr0 hc0 hl2 hN h
  go_enter Tryd.func29, Tryd.ntmps29
  go_upto_region 4 with (first | (go_at_call 45; (with_reducible refine (snap_reader_number.calls k l0 0 65536 n u e1 A0 c0 w.heap.size w _ HN.out (heap_alloc_new w _) HR0.out HC0.out (below_alloc (Below.refl _ _) _) (Nat.le_refl _)).mono ?_); rintro e w1 ⟨rfl, A1, c1, hf, hc, hl, hb, _⟩; rw [HL2.out] at hf hc hl; have HF := Aside0.mk hf; have HR1 := Aside0.mk hc; have HC1 := Aside0.mk hl; have HB1 := Aside0.mk hb; clear hf hc hl hb))
  have k1 : w1.cell? ⟨w.heap.size, 1, none⟩ = some (.int .i64 e1) := (blk_cell HF.out 1).trans rfl
  go_cut [20] (fun v20 wc => ∃ b : Bool, v20 = .bool b ∧ Aside0 (b = decide (e1 = 0 ∧ n = 0)) ∧ wc = w1)
  case first =>
    by_cases g : e1 = 0
    · have gb : (e1 == 0) = true := beq_iff_eq.mpr g
      by_cases g2 : n = 0
      · have g2b : (n == 0) = true := beq_iff_eq.mpr g2
        have HG : Aside0 (true = decide (e1 = 0 ∧ n = 0)) := ⟨(decide_eq_true ⟨g, g2⟩).symm⟩
        clear g g2
        go_wp2
        go_meet
        case rel => exact ⟨true, rfl, HG, rfl⟩
      · have g2b : (n == 0) = false := beq_eq_false_iff_ne.mpr g2
        have HG : Aside0 (false = decide (e1 = 0 ∧ n = 0)) := ⟨(decide_eq_false (fun q => g2 q.2)).symm⟩
        clear g g2
        go_wp2
        go_meet
        case rel => exact ⟨false, rfl, HG, rfl⟩
    · have gb : (e1 == 0) = false := beq_eq_false_iff_ne.mpr g
      have HG : Aside0 (false = decide (e1 = 0 ∧ n = 0)) := ⟨(decide_eq_false (fun q => g q.1)).symm⟩
      clear g
      go_wp2
      go_meet
      case rel => exact ⟨false, rfl, HG, rfl⟩
  case rest =>
    obtain ⟨b, rfl, HG, rfl⟩ := hcut
    refine (‹∀ (a : Act) (w : World), Code.wp Tryd.prog (Code.cond _ _ _) _ a w → _›) _ _ ?_
    go_cut [20] (fun v20 wc => Aside0 (wc.heap[w.heap.size]? = some (.cells #[.slice A1 l2.length c1, .int .i64 (if e1 = 0 ∧ n = 0 then 8 else e1)] 69 (0, 0)) ∧ Below w.heap.size w wc))
    case first =>
      have k3 := blk_frozen HF.out 1
      cases b with
      | true =>
        have g := of_decide_eq_true HG.out.symm
        have HG2 : Aside0 ((if e1 = 0 ∧ n = 0 then 8 else e1) = 8) := ⟨if_pos g⟩
        clear g
        go_wp2
        go_meet
        case rel => exact ⟨⟨by rw [HG2.out]; exact blk_put HF.out 1 _ rfl, HB1.out.setCell (Nat.le_refl _) _⟩⟩
      | false =>
        have g := of_decide_eq_false HG.out.symm
        have HG2 : Aside0 ((if e1 = 0 ∧ n = 0 then 8 else e1) = e1) := ⟨if_neg g⟩
        clear g
        go_wp2
        go_meet
        case rel => exact ⟨⟨by rw [HG2.out]; exact HF.out, HB1.out⟩⟩
    case rest =>
      clear k1 HF HB1 HG
      obtain ⟨hf, hb⟩ := hcut.out
      have HJ := Aside0.mk (show snap_TakeRow.J w l0 r1 r2 r3 n k 0 (-1) (.slice none 0 0) wc from ⟨l2, [], _, A1, c1, H.out, hf, HR1.out, HC1.out, Kd.R_nil _ _ _ _ _, hb⟩)
      clear hcut hf hb HR1 HC1
      generalize (if e1 = 0 ∧ n = 0 then 8 else e1) = E at *
      go_wp2
      go_loopg [2, 8, 23] k (fun kq v2 v8 v23 wr => ∃ (i was : Int), v8 = .int .i64 was ∧ v23 = .int .i64 i ∧ Aside0 (snap_TakeRow.J w l0 r1 r2 r3 n kq i was v2 wr) ∧ Aside0 (kq ≤ k))
      case atStart => exact ⟨0, -1, rfl, rfl, HJ, ⟨Nat.le_refl _⟩⟩
      case round =>
        obtain ⟨i, was, rfl, rfl, HJ1, HK1⟩ := hrel
        obtain ⟨l2, out, e, A, c, hH, hf, hc, hl, ho, hb⟩ := HJ1.out
        have H := Aside0.mk hH; have HF := Aside0.mk hf; have HR1 := Aside0.mk hc; have HC1 := Aside0.mk hl; have HO := Aside0.mk ho; have HB := Aside0.mk hb
        clear hH hf hc hl ho hb HJ1
        cases gk with
        | zero => exact absurd H.out (by simp [snap_TakeRow.l])
        | succ kp =>
          have hH := H.out
          clear H
          simp only [snap_TakeRow.l] at hH
          obtain ⟨A', c', rfl⟩ : ∃ A' c', u2 = .slice A' out.length c' := Kd.R_slice HO.out
          by_cases g : i < n
          · rw [if_pos g] at hH
            have gb : decide (i < n) = true := decide_eq_true g
            clear g
            obtain ⟨z, hz, hH⟩ := Option.bind_eq_some_iff.mp hH
            obtain ⟨⟨t1, t2, t3⟩, hr, hz⟩ := Option.bind_eq_some_iff.mp hz
            dsimp only at hz
            obtain ⟨l3, hl3⟩ : ∃ l3, l2.drop t2.toNat = l3 := ⟨_, rfl⟩
            obtain ⟨was2, hw2⟩ : ∃ x, wrap64 (was + wrap64 (1 + t1)) = x := ⟨_, rfl⟩
            rw [hl3, hw2] at hz
            have HL3 := Aside0.mk hl3
            clear hl3
            by_cases g3 : t3 = 0
            · subst g3
              have RN := Aside0.mk hr
              clear hr
              rw [if_pos rfl] at hz
              by_cases g4 : was2 > 268435455
              · rw [if_pos g4] at hz
                have g4b : decide (268435455 < was2) = true := decide_eq_true g4
                obtain rfl := Option.some.inj hz
                simp only [snap_TakeRow.g] at hH
                rw [if_neg (by decide)] at hH
                simp only [Option.some.injEq, Prod.mk.injEq] at hH
                obtain ⟨rfl, rfl, rfl⟩ := hH
                clear g4 hz
                go_wp2_with (first | (go_at_call 45; (with_reducible refine (snap_reader_number.calls kp l2 e 268435455 t1 t2 0 A c w.heap.size w _ RN.out HF.out HR1.out HC1.out HB.out (Nat.le_refl _)).mono ?_); rintro e w1 ⟨rfl, A2, c2, hf, hc, hl, hb, hk⟩; rw [HL3.out] at hf hc hl; have HF1 := Aside0.mk hf; have HR2 := Aside0.mk hc; have HC2 := Aside0.mk hl; have HB1 := Aside0.mk hb; have HO1 := Aside0.mk (snap_TakeRow.kept HO.out HF.out hk); clear hf hc hl hb hk; have j1 : w1.cell? ⟨w.heap.size, 1, none⟩ = some (.int .i64 0) := (blk_cell HF1.out 1).trans rfl; have j3 : w1.frozen? ⟨w.heap.size, 1, none⟩ = false := blk_frozen HF1.out 1; have j5 : (w1.setCell ⟨w.heap.size, 1, none⟩ (.int .i64 8)).cell? ⟨w.heap.size, 1, none⟩ = some (.int .i64 8) := (blk_cell (blk_put HF1.out 1 (.int .i64 8) rfl) 1).trans rfl))
                go_quiet (fail)
                go_wp2
                go_ret3
                exact ⟨_, rfl, Kd.R_nil _ _ _ _ _, pw_below_drewN (HB1.out.setCell (Nat.le_refl _) _) _⟩
              · rw [if_neg g4] at hz
                have g4b : decide (268435455 < was2) = false := decide_eq_false g4
                clear g4
                by_cases g5 : out.length < 1000000
                · rw [if_pos g5] at hz
                  have LO := Aside0.mk g5
                  have HH := Aside0.mk (show (snap_TakeRow.l kp (wrap64 (i + 1)) n l3 0 was2 (out ++ [was2])).bind (snap_TakeRow.g l0) = some (r1, r2, r3) by rw [hz]; exact hH)
                  clear g5 hz hH
                  go_wp2_with (first | (go_at_call 45; (with_reducible refine (snap_reader_number.calls kp l2 e 268435455 t1 t2 0 A c w.heap.size w _ RN.out HF.out HR1.out HC1.out HB.out (Nat.le_refl _)).mono ?_); rintro e w1 ⟨rfl, A2, c2, hf, hc, hl, hb, hk⟩; rw [HL3.out] at hf hc hl; have HF1 := Aside0.mk hf; have HR2 := Aside0.mk hc; have HC2 := Aside0.mk hl; have HB1 := Aside0.mk hb; have HO1 := Aside0.mk (snap_TakeRow.kept HO.out HF.out hk); clear hf hc hl hb hk; have j1 : w1.cell? ⟨w.heap.size, 1, none⟩ = some (.int .i64 0) := (blk_cell HF1.out 1).trans rfl; have j3 : w1.frozen? ⟨w.heap.size, 1, none⟩ = false := blk_frozen HF1.out 1) | ((with_reducible refine gate_builtin (b := .append) (xs := #[.tmp 41, .tmp 43]) rfl ?_); (at_builtin; refine Kd.R_append (Kd.int .i64) (w0 := w) w.heap.size rfl (.tmp 41) (.tmp 43) 41 3 (.int .i64 0) 8 rfl Tryd.underlying41 info3 rfl (by decide) (by omega) (.slice A' out.length c') out was2 [.int .i64 was2] (fun _ => True) (fun _ => False) rfl rfl ?aP (fun _ hk => hk.elim) ?aF ?aO ?aB ?aS ?aL ?_; (case aP => exact rfl); (case aB => exact HB1.out); (case aF => exact (fun _ _ => trivial)); (case aO => exact HO1.out); (case aS => exact (below_size HB1.out)); (case aL => have := LO.out; omega); intro v3 w3 ho hb hg hat; have HB3 := Aside0.mk hb; have HO3 := Aside0.mk ho; have HF3 := Aside0.mk (blk_grown HF1.out hg (Kd.R_ne HO1.out HF1.out (by decide))); clear ho hb hg hat)))
                  go_roundg kp
                  case measure => have := HK1.out; omega
                  case rel => exact ⟨wrap64 (i + 1), was2, rfl, rfl, ⟨l3, _, 0, A2, c2, HH.out, HF3.out, HR2.out, HC2.out, HO3.out, HB3.out⟩, ⟨by have := HK1.out; omega⟩⟩
                · rw [if_neg g5] at hz; cases hz
            · rw [if_neg g3] at hz
              obtain rfl := Option.some.inj hz
              simp only [snap_TakeRow.g] at hH
              rw [if_neg g3] at hH
              simp only [Option.some.injEq, Prod.mk.injEq] at hH
              obtain ⟨rfl, rfl, rfl⟩ := hH
              have g3b : (t3 == 0) = false := beq_eq_false_iff_ne.mpr g3
              have g3c : (t3 != 0) = true := bne_iff_ne.mpr g3
              have RN := Aside0.mk hr
              clear hr hz g3
              go_wp2_with (first | (go_at_call 45; (with_reducible refine (snap_reader_number.calls kp l2 e 268435455 t1 t2 t3 A c w.heap.size w _ RN.out HF.out HR1.out HC1.out HB.out (Nat.le_refl _)).mono ?_); rintro e w1 ⟨rfl, A2, c2, hf, hc, hl, hb, hk⟩; rw [HL3.out] at hf hc hl; have HF1 := Aside0.mk hf; have HR2 := Aside0.mk hc; have HC2 := Aside0.mk hl; have HB1 := Aside0.mk hb; have HO1 := Aside0.mk (snap_TakeRow.kept HO.out HF.out hk); clear hf hc hl hb hk; have j1 : w1.cell? ⟨w.heap.size, 1, none⟩ = some (.int .i64 t3) := (blk_cell HF1.out 1).trans rfl; have j3 : w1.frozen? ⟨w.heap.size, 1, none⟩ = false := blk_frozen HF1.out 1))
              go_quiet (fail)
              go_wp2
              go_ret3
              exact ⟨_, rfl, Kd.R_nil _ _ _ _ _, pw_below_drewN HB1.out _⟩
          · rw [if_neg g] at hH
            have gb : decide (i < n) = false := decide_eq_false g
            have j1 : wr.cell? ⟨w.heap.size, 1, none⟩ = some (.int .i64 e) := (blk_cell HF.out 1).trans rfl
            have j0 : wr.cell? ⟨w.heap.size, 0, none⟩ = some (.slice A l2.length c) := (blk_cell HF.out 0).trans rfl
            clear g
            rw [Option.bind_some] at hH
            simp only [snap_TakeRow.g] at hH
            by_cases g3 : e = 0
            · rw [if_pos g3] at hH
              subst g3
              simp only [Option.some.injEq, Prod.mk.injEq] at hH
              obtain ⟨rfl, rfl, rfl⟩ := hH
              go_wp2
              go_quiet (fail)
              go_wp2
              go_ret3
              exact ⟨_, rfl, Kd.R_drewN HO.out _, pw_below_drewN HB.out _⟩
            · rw [if_neg g3] at hH
              simp only [Option.some.injEq, Prod.mk.injEq] at hH
              obtain ⟨rfl, rfl, rfl⟩ := hH
              have g3c : (e != 0) = true := bne_iff_ne.mpr g3
              clear g3
              go_wp2
              go_quiet (fail)
              go_wp2
              go_ret3
              exact ⟨_, rfl, Kd.R_nil _ _ _ _ _, pw_below_drewN HB.out _⟩

end Go.Proofs.YtolljobehfmffaaDoor.P
