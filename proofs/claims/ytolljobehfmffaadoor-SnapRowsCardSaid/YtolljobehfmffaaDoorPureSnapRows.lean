/- What SnapRows tells. -/
import Derived.Test.YtolljobehfmffaaDoorPx23
import Derived.Test.YtolljobehfmffaaDoorPureSnapTake
import Derived.Test.YtolljobehfmffaaDoorPureOf
namespace Go.Proofs.YtolljobehfmffaaDoor.Pure
open Go.RowKit Go.Proofs.YtolljobehfmffaaDoor.P Go.Proofs.YtolljobehfmffaaDoorW.PrintWords Go.Proofs.YtolljobehfmffaaDoorW.PrintLast Go.Proofs.YtolljobehfmffaaDoorW.PrintMore

theorem takeRow_step {k : Nat} (hk : 6 ≤ k) {i many was n u : Int} {l2 out : List Int} (hb : Bytes l2) (ht : takeS l2 = (n, u, 0)) (hi : i < many) (i0 : 0 ≤ i) (i1 : many ≤ 65536) (w0 : -1 ≤ was) (n0 : 0 ≤ n) (hw : was + 1 + n ≤ 268435455) (ho : out.length ≤ 999) :
    snap_TakeRow.l (k + 1) i many l2 0 was out = snap_TakeRow.l k (i + 1) many (l2.drop u.toNat) 0 (was + 1 + n) (out ++ [was + 1 + n]) := by
  rw [snap_TakeRow.l, if_pos hi, reader_f hk _ hb, ht, Option.bind_some]
  dsimp only
  have em : (if (0 : Int) = 0 ∧ n > 268435455 then (8 : Int) else 0) = 0 := by rw [if_neg (by omega)]
  rw [em, if_pos rfl, w64 (x := 1 + n) (by omega) (by omega), w64 (x := was + (1 + n)) (by omega) (by omega), w64 (x := i + 1) (by omega) (by omega), show was + (1 + n) = was + 1 + n by omega, if_neg (by omega), if_pos (by omega)]
theorem small_bytes (l : List Int) (h : l.all (fun x => decide (0 ≤ x ∧ x ≤ 255)) = true) : Bytes l := fun x hx => by
  have := List.all_eq_true.mp h x hx
  simpa using this
theorem shownRow (m : Nat) : snap_TakeRow.f (m + 20) [3, 3, 0, 4, 7] = some ([3, 4, 9], 4, 0) := by
  unfold snap_TakeRow.f
  rw [reader_f (by omega) _ (small_bytes _ (by decide)), show takeS [3, 3, 0, 4, 7] = (3, 1, 0) from rfl, Option.bind_some]
  dsimp only
  rw [if_neg (show ¬ ((0 : Int) = 0 ∧ (3 : Int) > 65536) by omega), if_neg (show ¬ ((0 : Int) = 0 ∧ (3 : Int) = 0) by omega)]
  rw [show ([3, 3, 0, 4, 7] : List Int).drop (1 : Int).toNat = [3, 0, 4, 7] from rfl]
  rw [takeRow_step (k := m + 19) (n := 3) (u := 1) (by omega) (small_bytes _ (by decide)) rfl (by omega) (by omega) (by omega) (by omega) (by omega) (by omega) (by simp)]
  rw [show ([3, 0, 4, 7] : List Int).drop (1 : Int).toNat = [0, 4, 7] from rfl]
  rw [takeRow_step (k := m + 18) (n := 0) (u := 1) (by omega) (small_bytes _ (by decide)) rfl (by omega) (by omega) (by omega) (by omega) (by omega) (by omega) (by simp)]
  rw [show ([0, 4, 7] : List Int).drop (1 : Int).toNat = [4, 7] from rfl]
  rw [takeRow_step (k := m + 17) (n := 4) (u := 1) (by omega) (small_bytes _ (by decide)) rfl (by omega) (by omega) (by omega) (by omega) (by omega) (by omega) (by simp)]
  rw [snap_TakeRow.l, if_neg (by omega), Option.bind_some]
  unfold snap_TakeRow.g
  rw [if_pos rfl]
  rw [w64 (by simp) (by simp)]
  rfl
theorem shownPut : snap_Put.f (⟨#[97, 98]⟩ : ByteArray) = some ([2, 97, 98], 0) := by
  have hl : (⟨#[97, 98]⟩ : ByteArray) = enc [97, 98] := by decide
  have hr : Runes [97, 98] := by
    intro c hc
    simp only [List.mem_cons, List.not_mem_nil, or_false] at hc
    unfold isRune
    omega
  have hv : validT (⟨#[97, 98]⟩ : ByteArray) = true := by rw [hl]; exact validT_enc hr
  unfold snap_Put.f
  rw [if_pos (by decide), if_pos hv, if_neg (by decide)]
  rfl
theorem shown15 (m : Nat) : epitomelaw15_shown.f (m + 20) = some true := by
  have e1 : snap_PutRow.f [3, 4, 9] = some ([3, 3, 0, 4], 0) := by rw [putRow_f]; rfl
  unfold epitomelaw15_shown.f
  rw [e1, Option.bind_some, shownRow, Option.bind_some, shownPut, Option.bind_some, if_pos (by rw [ByteArray.toList_eq]; rfl), if_pos rfl, same_f _ (by simp) _ (by simp), Option.bind_some, if_pos rfl, if_pos rfl, if_pos rfl, if_pos (by rw [ByteArray.toList_eq]; rfl)]
  rfl
theorem SnapRows : epitomelaw15_SnapRows.Pure := by
  intro l0 l1 _ _ _ _ _ hw
  refine ⟨500 + 20, ?_⟩
  unfold epitomelaw15_SnapRows.f
  have hb : Bytes (l1.take 200) := (bytes_wf hw).take 200
  have hl1 : (l1.take 200).length ≤ 200 := by rw [List.length_take]; omega
  have hl0 : (l0.take 40).length ≤ 40 := by rw [List.length_take]; omega
  obtain ⟨x, hx⟩ : ∃ x, snap_PutRow.f (l0.take 40) = some x := ⟨_, putRow_f _⟩
  obtain ⟨y, hy, hyl⟩ := takeRow_some (l1.take 200) hb hl1
  rw [shown15, Option.bind_some, short_f, Option.bind_some, hx, Option.bind_some, Option.bind_some, ref_putRow _ _ (by omega) (by omega), hx, Option.bind_some, few_fS, Option.bind_some, hy, Option.bind_some, Option.bind_some, ← ref_takeRow _ hb (by omega) _ (by omega), hy, Option.bind_some]
  rw [if_pos rfl, if_pos rfl, if_pos rfl, same_f _ (by omega) _ (by omega), Option.bind_some, if_pos rfl, if_pos rfl]
  simp
end Go.Proofs.YtolljobehfmffaaDoor.Pure
