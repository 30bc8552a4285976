-- WRITTEN BY A PROGRAM OF THIS SESSION (wip/pp in its repo), made after the kit's print
import Derived.Test.YtolljobehfmffaaDoorPx0
import Derived.Test.YtolljobehfmffaaDoorPx6
namespace Go.Proofs.YtolljobehfmffaaDoor.P
open Go.RowKit Go.Proofs.YtolljobehfmffaaDoorW.PrintWords Go.Proofs.YtolljobehfmffaaDoorW.PrintLast Go.Proofs.YtolljobehfmffaaDoorW.PrintMore
attribute [local go_sem] max2_int min2_int max_two min_two max_three min_three max_four min_four   -- for this text's walks alone
set_option linter.unusedVariables false
set_option linter.unusedSimpArgs false

/-! ### epitomeref01_Fit: function 22 -/
def epitomeref01_Fit.tab : List Int := [97, 98, 99, 120, 121, 233, 8364, 128512]
/-- Each byte, made one of eight code points. -/
def epitomeref01_Fit.l (s : ByteArray) : List Int := s.data.toList.map fun b => epitomeref01_Fit.tab.getD (b.toNat % 8) 0
def epitomeref01_Fit.f (k : Nat) (a0 : ByteArray) : Option ByteArray := if a0.size < 35184372088832 then epitomeref01_Of.f k (epitomeref01_Fit.l a0) else none
theorem epitomeref01_Fit.mono (a0 : ByteArray) (k : Nat) : LeO (epitomeref01_Fit.f k a0) (epitomeref01_Fit.f (k + 1) a0) := by
  unfold epitomeref01_Fit.f
  exact LeO.ite (epitomeref01_Of.mono _ _) (LeO.none _)
theorem epitomeref01_Fit.len (s : ByteArray) : (epitomeref01_Fit.l s).length = s.size := by
  unfold epitomeref01_Fit.l; rw [List.length_map, Array.length_toList]; rfl
theorem epitomeref01_Fit.next (s : ByteArray) (k : Nat) (h : k < s.size) : (epitomeref01_Fit.l s).take (k + 1) = (epitomeref01_Fit.l s).take k ++ [epitomeref01_Fit.tab.getD ((s[k]'h).toNat % 8) 0] := by
  have hl := epitomeref01_Fit.len s
  rw [List.take_succ_eq_append_getElem (by omega)]
  congr 2
  simp only [epitomeref01_Fit.l, List.getElem_map, Array.getElem_toList]
  rfl
def epitomeref01_Fit.arr : Array Value := #[.int .i32 97, .int .i32 98, .int .i32 99, .int .i32 120, .int .i32 121, .int .i32 233, .int .i32 8364, .int .i32 128512]
theorem epitomeref01_Fit.cell {W : World} {B : Nat} {T : TypeId} (h : W.heap[B]? = some (.cells epitomeref01_Fit.arr T (0, 0))) (m : Nat) (hm : m < 8) : W.cell? ⟨B, m, none⟩ = some (.int .i32 (epitomeref01_Fit.tab.getD m 0)) := by
  rw [cell_of_row W B m _ T (0, 0) h]
  rcases (by omega : m = 0 ∨ m = 1 ∨ m = 2 ∨ m = 3 ∨ m = 4 ∨ m = 5 ∨ m = 6 ∨ m = 7) with rfl | rfl | rfl | rfl | rfl | rfl | rfl | rfl <;> rfl
set_option maxHeartbeats 8000000 in
set_option maxRecDepth 100000 in
theorem epitomeref01_Fit.calls (k : Nat) (a0 : ByteArray) (r : ByteArray) (w : World) (h : epitomeref01_Fit.f k a0 = some r) :
    Calls Tryd.prog 22 #[.string a0] w fun e w' => e = .returned (.string r) ∧ Below w.heap.size w w' := by
  unfold epitomeref01_Fit.f at h
  by_cases c : a0.size < 35184372088832
  · rw [if_pos c] at h
    have A1 := Aside0.mk h
    have HS := Aside0.mk c
    clear h c
    go_enter Tryd.func22, Tryd.ntmps22
    go_wp2
    go_loopw [4, 5] (fun v4 v5 wr => ∃ j : Nat, v5 = .int .i64 j ∧ j ≤ a0.size ∧ Aside0 (Kd.R (Kd.int .i32) 21 wr w.heap.size (fun _ => True) v4 ((epitomeref01_Fit.l a0).take j)) ∧ Aside0 (wr.heap[w.heap.size]? = some (.cells epitomeref01_Fit.arr 60 (0, 0))) ∧ Aside0 (Below w.heap.size w wr)) (fun _ v5 _ => a0.size - (intOf v5).toNat)
    case atStart =>
      have ho := own_lit (w.alloc (.cells epitomeref01_Fit.arr 60)) w.heap.size 21 .i32 [] (by simp) (by simp)
      have e : (w.alloc (.cells epitomeref01_Fit.arr 60)).heap.size = w.heap.size + 1 := by simp
      rw [e] at ho
      refine ⟨0, rfl, Nat.zero_le _, ⟨⟨fun _ _ => trivial, [], ho, Reps.none _ _⟩⟩, ⟨?_⟩, ⟨below_alloc (below_alloc (Below.refl _ _) _) _⟩⟩
      exact blk_alloc (heap_alloc_new w (.cells epitomeref01_Fit.arr 60)) _
    case round =>
      obtain ⟨j, rfl, hj, HO, HC, HB⟩ := hrel
      have hsz := HS.out
      by_cases hlt : j < a0.size
      · have hm : (a0[j]'hlt).toNat % 8 < 8 := Nat.mod_lt _ (by decide)
        have hcell := epitomeref01_Fit.cell HC.out _ hm
        have N1 := Aside0.mk (epitomeref01_Fit.next a0 j hlt)
        generalize epitomeref01_Fit.tab.getD ((a0[j]'hlt).toNat % 8) 0 = x at hcell N1
        have HL : Aside0 (((epitomeref01_Fit.l a0).take j).length < 35184372088832) := ⟨by rw [List.length_take]; omega⟩
        go_wp2_with (first | ((with_reducible refine gate_builtin (b := .append) (xs := #[.tmp 14, .tmp 21]) rfl ?_); at_builtin; refine Kd.R_append (Kd.int .i32) (w0 := w) w.heap.size rfl (.tmp 14) (.tmp 21) 36 21 (.int .i32 0) 4 rfl Tryd.underlying36 info21 rfl (by decide) (by omega) u4 ((epitomeref01_Fit.l a0).take j) (x) [.int .i32 (x)] (fun _ => True) (fun _ => False) rfl rfl ?aP (fun _ hk => hk.elim) ?aF ?aO ?aB ?aS ?aL ?_; (case aP => exact rfl); (case aB => exact (by repeat (first | (with_reducible first | exact HB.out | apply below_alloc | apply pw_below_drewN | apply below_drew1) | exact HB.out))); (case aF => exact (fun _ _ => trivial)); (case aO => exact (by (with_reducible repeat (first | apply Kd.R_alloc | apply Kd.R_drewN | apply Kd.R_drew)); exact HO.out)); (case aS => exact (below_size (by repeat (first | (with_reducible first | exact HB.out | apply below_alloc | apply pw_below_drewN | apply below_drew1) | exact HB.out)))); (case aL => have := HL.out; omega); intro v100 w100 ho hb hg hat; have HB1 := Aside0.mk hb; have HO1 := Aside0.mk ho; have HC1 := Aside0.mk (blk_grown HC.out hg (Kd.R_ne HO.out HC.out (by decide))); clear ho hb hg hat hcell))
        go_roundw
        case rel => exact ⟨j + 1, by go_num, by omega, ⟨by rw [N1.out]; exact HO1.out⟩, HC1, HB1⟩
        case measure => simp [intOf]; omega
      · obtain rfl : j = a0.size := by omega
        have HL : Aside0 (List.take a0.size (epitomeref01_Fit.l a0) = epitomeref01_Fit.l a0) := ⟨by rw [List.take_of_length_le]; rw [epitomeref01_Fit.len]; exact Nat.le_refl _⟩
        rw [HL.out] at HO
        obtain ⟨A, q, e, hq, hc⟩ := Kd.R_reads HO.out
        subst e
        have HQ := Aside0.mk hq; have HR := Aside0.mk hc
        clear hq hc HO
        go_wp2_with (go_at_call 24; (with_reducible refine (epitomeref01_Of.calls k _ _ (epitomeref01_Fit.l a0) r _ HR.out HQ.out A1.out).mono ?_); rintro e w1 ⟨rfl, hb⟩)
        go_ret
        exact ⟨rfl, below_then HB.out HB.out.size hb⟩
  · rw [if_neg c] at h; cases h

end Go.Proofs.YtolljobehfmffaaDoor.P
