/- What PointsOne tells. -/
import Derived.Test.YtolljobehfmffaaDoorPx12
import Derived.Test.YtolljobehfmffaaDoorPureOf
namespace Go.Proofs.YtolljobehfmffaaDoor.Pure
open Go.RowKit Go.Proofs.YtolljobehfmffaaDoor.P Go.Proofs.YtolljobehfmffaaDoorW.PrintWords Go.Proofs.YtolljobehfmffaaDoorW.PrintLast Go.Proofs.YtolljobehfmffaaDoorW.PrintMore

theorem one_len {c : Int} (h : isRune c) : ((enc [c]).size : Int) = if c < 128 then 1 else if c < 2048 then 2 else if c < 65536 then 3 else 4 := by
  have e : (enc [c]).size = (Lib.encodeRuneZ c).length := by
    rw [enc_size, encB_cons, encB_nil, List.append_nil, Lib.encodeRune, List.length_map]
  rw [e]
  unfold isRune at h
  unfold Lib.encodeRuneZ
  rcases (by omega : (0 ≤ c ∧ c ≤ 127) ∨ (128 ≤ c ∧ c ≤ 2047) ∨ ((2048 ≤ c ∧ c < 55296) ∨ (57343 < c ∧ c ≤ 65535)) ∨ (65536 ≤ c ∧ c ≤ 1114111)) with g | g | g | g
  · rw [if_pos g, if_pos (by omega)]; rfl
  · rw [if_neg (by omega), if_pos g, if_neg (by omega), if_pos (by omega)]; rfl
  · rw [if_neg (by omega), if_neg (by omega), if_pos g, if_neg (by omega), if_neg (by omega), if_pos (by omega)]; rfl
  · rw [if_neg (by omega), if_neg (by omega), if_neg (by omega), if_pos g, if_neg (by omega), if_neg (by omega), if_neg (by omega)]; rfl
theorem of_ok (l : List Int) (h : l.length ≤ 9999) : points_Of.f l = some (enc (l.filter fun c => decide (isRune c))) := by
  unfold points_Of.f; rw [if_pos (by omega)]
theorem PointsOne : epitomelaw01_PointsOne.Pure := by
  intro c hw
  have hb := i32_wf hw
  refine ⟨9, ?_⟩
  unfold epitomelaw01_PointsOne.f
  rw [shown_ok, Option.bind_some, of_ok _ (by simp), Option.bind_some]
  by_cases r : isRune c
  · have hr : Runes [c] := by intro x hx; simp at hx; subst hx; exact r
    have hr2 : Runes [c, c] := by intro x hx; simp at hx; subst hx; exact r
    have hlen := one_len r
    have hlt : (enc [c]).size ≤ 4 := by
      rw [enc_size, encB_cons, encB_nil, List.append_nil]; exact (encodeRune_length c).2
    rw [filter_runes hr]
    unfold isRune at r
    have go : epitomelaw01_PointsOne.j0 9 c true (enc [c]) false = some true := by
      simp only [epitomelaw01_PointsOne.j0, Bool.false_eq_true, if_false, if_true]
      rw [of_ok _ (by simp), filter_runes hr2, valid_ok hr (by omega), count_ok hr (by omega), enc_append]
      simp only [Option.bind_some, if_true, List.length_cons, List.length_nil]
      have s1 : (((0 + 1 : Nat) : Int) = 1) = True := by simp
      have s2 : ((enc [c]).size + (enc [c]).size ≤ 9223372036854775807) = True := eq_true (by omega)
      simp only [s1, s2, if_true]
      by_cases c1 : c < 128
      · rw [if_pos c1] at hlen ⊢; rw [if_pos hlen]; simp
      · rw [if_neg c1] at hlen ⊢
        by_cases c2 : c < 2048
        · rw [if_pos c2] at hlen ⊢; rw [if_pos hlen]; simp
        · rw [if_neg c2] at hlen ⊢
          by_cases c3 : c < 65536
          · rw [if_pos c3] at hlen ⊢; rw [if_pos hlen]; simp
          · rw [if_neg c3] at hlen ⊢; rw [if_pos hlen]; simp
    rw [if_neg (by omega), if_neg (by omega)]
    by_cases g : c ≥ 55296
    · rw [if_pos g, decide_eq_false (by omega)]; exact go
    · rw [if_neg g]; exact go
  · have e : ([c].filter fun c => decide (isRune c)) = [] := by simp [r]
    rw [e]
    have go : epitomelaw01_PointsOne.j0 9 c true (enc []) true = some true := by
      simp only [epitomelaw01_PointsOne.j0, if_true]
      rw [ByteArray.toList_eq]; rfl
    unfold isRune at r
    by_cases g0 : c < 0
    · rw [if_pos g0]; exact go
    · rw [if_neg g0]
      by_cases g1 : c > 1114111
      · rw [if_pos g1]; exact go
      · rw [if_neg g1, if_pos (by omega), decide_eq_true (by omega)]; exact go
end Go.Proofs.YtolljobehfmffaaDoor.Pure
