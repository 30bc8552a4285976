/- What PointsJoin tells. -/
import Derived.Test.YtolljobehfmffaaDoorPx9
import Derived.Test.YtolljobehfmffaaDoorPureOf
import Derived.Lib.TrimUEq
import Derived.Lib.Bytes
namespace Go.Proofs.YtolljobehfmffaaDoor.Pure
open Go.RowKit Go.Proofs.YtolljobehfmffaaDoor.P Go.Proofs.YtolljobehfmffaaDoorW.PrintWords Go.Proofs.YtolljobehfmffaaDoorW.PrintLast Go.Proofs.YtolljobehfmffaaDoorW.PrintMore

/-- A byte from 128 on, alone, is no text. -/
theorem odd_bad (b : UInt8) (r : List UInt8) (hb : 128 ≤ b.toNat) : Lib.validD (b :: 97 :: r) = false := by
  rw [Lib.validD_step _ (by simp), Lib.decodeL_N, Lib.decodeN_alone _ _ _ _ _ (by simpa using hb) (.inr (by simp))]
  rfl
set_option maxRecDepth 10000 in
theorem or_256 : ∀ m : Fin 256, 128 ≤ (128 ||| m.val) ∧ (128 ||| m.val) ≤ 255 := by decide
theorem or_big {x : Int} (h0 : 0 ≤ x) (h1 : x ≤ 255) : 128 ≤ Go.bits .or .u8 128 x ∧ Go.bits .or .u8 128 x ≤ 255 := by
  obtain ⟨a, rfl⟩ := Int.eq_ofNat_of_zero_le h0
  have ha : a < 256 := by omega
  have h := or_256 ⟨a, ha⟩
  have e : Go.bits .or .u8 128 (a : Int) = ((128 ||| a : Nat) : Int) := (bits_nat .u8 8 (by decide) wraps_u8 128 a (by decide) ha).2
  rw [e]
  exact ⟨Int.ofNat_le.mpr h.1, Int.ofNat_le.mpr h.2⟩
theorem PointsJoin : epitomelaw01_PointsJoin.Pure := by
  intro a0 a1 a2 _ _ h2
  obtain ⟨r, e, hr⟩ := few_ok a0
  obtain ⟨r', e', hr'⟩ := few_ok a1
  obtain ⟨l, el, hl, hn, hs⟩ := fit_ok r hr 201 (by omega)
  obtain ⟨m, em, hm, hn', hs'⟩ := fit_ok r' hr' 201 (by omega)
  have b2 := u8_wf h2
  obtain ⟨o0, o1⟩ := or_big b2.1 b2.2
  refine ⟨201, ?_⟩
  unfold epitomelaw01_PointsJoin.f
  rw [shown_ok, Option.bind_some, e, Option.bind_some, el, Option.bind_some, e', Option.bind_some, em, Option.bind_some, Option.bind_some]
  generalize Go.bits .or .u8 128 a2 = o at *
  have so : (strOfNums [o]).size = 1 := by rw [strOfNums_size]; rfl
  have hodd : ∀ k, (((enc l ++ strOfNums [o]) ++ (⟨#[97]⟩ : ByteArray)) ++ enc m).size = k → k ≤ 9999 ∧ validT (((enc l ++ strOfNums [o]) ++ (⟨#[97]⟩ : ByteArray)) ++ enc m) = false := by
    intro k hk
    refine ⟨?_, ?_⟩
    · rw [← hk]
      simp only [ByteArray.size_append, so]
      have : (⟨#[97]⟩ : ByteArray).size = 1 := by decide
      omega
    · unfold validT
      have e1 : (((enc l ++ strOfNums [o]) ++ (⟨#[97]⟩ : ByteArray)) ++ enc m).data.toList = encB l ++ ((UInt8.ofNat o.toNat) :: 97 :: encB m) := by
        simp only [ByteArray.data_append, Array.toList_append, enc_list, strOfNums_data]
        simp
      rw [e1, validD_enc l hl]
      refine odd_bad _ _ ?_
      rw [UInt8.toNat_ofNat']; omega
  obtain ⟨k9, hbad⟩ := hodd _ rfl
  have sj : (enc (l ++ m)).size ≤ 9999 := by
    rw [← enc_append, ByteArray.size_append]; omega
  rw [if_pos (by omega), if_pos (by omega), if_pos (by omega), enc_append l m]
  generalize (((enc l ++ strOfNums [o]) ++ (⟨#[97]⟩ : ByteArray)) ++ enc m) = odd at *
  have c1 : points_Cut.f odd 0 0 = some (⟨#[]⟩, 3) := by
    unfold points_Cut.f cutF countT; rw [if_pos (by omega), hbad]; simp
  have c2 : points_Valid.f odd = some false := by unfold points_Valid.f; rw [if_pos (by omega), hbad]
  have c3 : points_Count.f odd = some (-1) := by unfold points_Count.f countT; rw [if_pos (by omega), hbad]; simp
  rw [c1, c2, c3, valid_ok (hl.append hm) sj, count_ok (hl.append hm) sj, count_ok hl (by omega), count_ok hm (by omega)]
  rw [Option.bind_some, if_pos rfl, if_pos (by omega), Option.bind_some, if_pos rfl, Option.bind_some, Option.bind_some, Option.bind_some, w64 (by omega) (by omega), if_pos (by rw [List.length_append]; omega), Option.bind_some, if_neg (by decide), Option.bind_some, if_pos rfl]
  rfl
end Go.Proofs.YtolljobehfmffaaDoor.Pure
