/- The reference's texts are the model's texts; what the laws' own helpers tell. -/
import Derived.Test.YtolljobehfmffaaDoorPx4
import Derived.Test.YtolljobehfmffaaDoorPx5
import Derived.Test.YtolljobehfmffaaDoorPx6
import Derived.Test.YtolljobehfmffaaDoorPx7
import Derived.Test.YtolljobehfmffaaDoorPureStarts
namespace Go.Proofs.YtolljobehfmffaaDoor.Pure
open Go.RowKit Go.Proofs.YtolljobehfmffaaDoor.P Go.Proofs.YtolljobehfmffaaDoorW.PrintWords Go.Proofs.YtolljobehfmffaaDoorW.PrintLast Go.Proofs.YtolljobehfmffaaDoorW.PrintMore

theorem first_at (k : Nat) (s : ByteArray) (p : Nat) (hp : p < s.size) (hs : s.size ≤ 9223372036854775806) :
    epitomeref01_first.f (k + 12) (s.extract p s.size) = some (if Utf8.decode s p = (65533, 1) then (0, 0) else (((Utf8.decode s p).1 : Int), ((Utf8.decode s p).2 : Int))) := by
  have z : (s.extract p s.size).size = s.size - p := by rw [ByteArray.size_extract]; omega
  have hl : (s.extract p s.size).data.toList = s.data.toList.drop p := by
    rw [extract_list, List.take_of_length_le (by rw [size_list]; omega)]
  rw [first_f k _ (by omega) (by omega), firstS, hl]
  have e : Lib.decodeN (s.extract p s.size).size ((s.data.toList.drop p).getD 0 0).toNat ((s.data.toList.drop p).getD 1 0).toNat ((s.data.toList.drop p).getD 2 0).toNat ((s.data.toList.drop p).getD 3 0).toNat = Utf8.decode s p := by
    rw [← Lib.decodeL_drop, Lib.decodeL_N, z]
    rw [show (s.data.toList.drop p).length = s.size - p by rw [List.length_drop, size_list]]
  rw [e]

theorem valid_at (s : ByteArray) (p : Nat) (hp : p < s.size) :
    Lib.validD (s.data.toList.drop p) = if Utf8.decode s p = (65533, 1) then false else Lib.validD (s.data.toList.drop (p + (Utf8.decode s p).2)) := by
  have hne : s.data.toList.drop p ≠ [] := by
    intro e0
    have := congrArg List.length e0
    rw [List.length_drop, size_list, List.length_nil] at this
    omega
  rw [Lib.validD_step _ hne, Lib.decodeL_drop, List.drop_drop]
  by_cases c : Utf8.decode s p = (65533, 1)
  · rw [if_pos c, c]; rfl
  · rw [if_neg c, if_neg]
    rintro ⟨h1, h2⟩
    exact c (Prod.ext h1 h2)

def startsL (s : ByteArray) (n : Nat) : List Int := (List.range n).map fun k => (posT s k : Int)
theorem startsL_len (s : ByteArray) (n : Nat) : (startsL s n).length = n := by simp [startsL]
theorem startsL_succ (s : ByteArray) (n : Nat) : startsL s (n + 1) = startsL s n ++ [(posT s n : Int)] := by simp [startsL, List.range_succ]
theorem startsL_at (s : ByteArray) (n : Nat) (i : Int) (h0 : 0 ≤ i) (h1 : i < n) : rd (startsL s n) i = (posT s i.toNat : Int) := by
  unfold rd startsL
  rw [List.getD_eq_getElem?_getD, List.getElem?_map, List.getElem?_range (by omega)]
  rfl
/-- Where code points begin, as the reference has it. -/
def startsS (s : ByteArray) : List Int × Bool := if validT s then (startsL s (Lib.runeCount s + 1), true) else ([], false)

theorem starts_l (s : ByteArray) (hs : s.size ≤ 17592186044414) : ∀ (d j k : Nat), s.size - posT s j = d → d + 14 ≤ k → j ≤ posT s j → validT s = Lib.validD (s.data.toList.drop (posT s j)) →
    (∃ b, j + Lib.runeCountFrom s b (posT s j) = Lib.runeCount s ∧ s.size ≤ posT s j + b) → epitomeref01_Starts.l0 k s (startsL s (j + 1)) (posT s j : Int) = some (startsS s) := by
  intro d
  induction d using Nat.strongRecOn with
  | _ d ih =>
    intro j k hd hk hj hv hb
    obtain ⟨k, rfl⟩ : ∃ m, k = m + 1 := ⟨k - 1, by omega⟩
    have hp0 := posT_le s j
    simp only [epitomeref01_Starts.l0]
    by_cases c : posT s j < s.size
    · rw [if_pos (by omega), if_pos (by omega), if_pos (by omega), Int.toNat_natCast]
      obtain ⟨m, rfl⟩ : ∃ m, k = m + 12 := ⟨k - 12, by omega⟩
      rw [first_at m s _ c (by omega), Option.bind_some]
      have hw := Lib.decode_width_pos s _ c
      have hpos : posT s (j + 1) = posT s j + (Utf8.decode s (posT s j)).2 := by rw [posT, if_pos c]
      have hle := posT_le s (j + 1)
      rw [valid_at s _ c] at hv
      by_cases g : Utf8.decode s (posT s j) = (65533, 1)
      · rw [if_pos g] at hv ⊢
        rw [if_pos rfl]
        unfold startsS
        rw [hv]; rfl
      · rw [if_neg g] at hv ⊢
        rw [if_neg (show ¬ (((Utf8.decode s (posT s j)).2 : Int) = 0) by omega), if_pos (by rw [startsL_len]; omega)]
        rw [w64 (by omega) (by omega), show ((posT s j : Int) + ((Utf8.decode s (posT s j)).2 : Int)) = (posT s (j + 1) : Int) by omega, ← startsL_succ]
        obtain ⟨b, hb1, hb2⟩ := hb
        obtain ⟨r1, r2⟩ := runeCount_from s j b hb1 hb2 c
        exact ih _ (by omega) (j + 1) _ rfl (by omega) (by omega) (by rw [hv, hpos]) ⟨b - 1, r1, r2⟩
    · rw [if_neg (by omega)]
      obtain ⟨b, hb1, hb2⟩ := hb
      have he := posT_end s c
      have hz : Lib.runeCountFrom s b (posT s j) = 0 := by
        cases b with
        | zero => rfl
        | succ b => simp only [Lib.runeCountFrom]; rw [if_neg c]
      rw [hz] at hb1
      rw [List.drop_of_length_le (by rw [size_list]; omega)] at hv
      unfold startsS
      rw [hv, show j = Lib.runeCount s by omega]; rfl
theorem starts_f (s : ByteArray) (hs : s.size ≤ 17592186044414) (k : Nat) (hk : s.size + 14 ≤ k) : epitomeref01_Starts.f k s = some (startsS s) :=
  starts_l s hs s.size 0 k (by rw [posT]; omega) (by omega) (Nat.zero_le _) (by rw [posT]; rfl) ⟨s.size, by rw [posT]; simp only [Nat.zero_add]; rfl, by rw [posT]; omega⟩

theorem refValid (s : ByteArray) (hs : s.size ≤ 17592186044414) (k : Nat) (hk : s.size + 14 ≤ k) : epitomeref01_Valid.f k s = some (validT s) := by
  unfold epitomeref01_Valid.f
  rw [starts_f s hs k hk, Option.bind_some, startsS]
  cases validT s <;> rfl
theorem refCount (s : ByteArray) (hs : s.size ≤ 17592186044414) (k : Nat) (hk : s.size + 14 ≤ k) : epitomeref01_Count.f k s = some (countT s) := by
  have hc := runeCount_lt s
  unfold epitomeref01_Count.f countT
  rw [starts_f s hs k hk, Option.bind_some, startsS]
  cases validT s
  · simp only [Bool.false_eq_true, if_false, List.length_nil]; rw [w64 (by omega) (by omega)]; rfl
  · simp only [if_true, startsL_len]
    rw [w64 (by omega) (by omega)]
    refine congrArg some ?_
    omega
theorem refCut (s : ByteArray) (hs : s.size ≤ 17592186044414) (k : Nat) (hk : s.size + 14 ≤ k) (a b : Int) : epitomeref01_Cut.f k s a b = some (cutF s a b) := by
  have hc := runeCount_lt s
  unfold epitomeref01_Cut.f cutF countT
  rw [starts_f s hs k hk, Option.bind_some, startsS]
  cases validT s
  · rfl
  · simp only [if_true, startsL_len]
    rw [w64 (by omega) (by omega), if_neg (show ¬ ((Lib.runeCount s : Int) < 0) by omega)]
    by_cases c1 : a < 0
    · rw [if_pos c1, if_pos (.inl c1)]
    · rw [if_neg c1]
      by_cases c2 : b < a
      · rw [if_pos c2, if_pos (.inr (.inl c2))]
      · rw [if_neg c2]
        by_cases c3 : b > ((Lib.runeCount s + 1 : Nat) : Int) - 1
        · rw [if_pos c3, if_pos (.inr (.inr (by omega)))]
        · have hm := posT_mono' s (show a.toNat ≤ b.toNat by omega)
          have hl := posT_le s b.toNat
          rw [if_neg c3, if_pos (by omega), if_pos (by omega), if_pos (by omega), if_pos (by omega),
            startsL_at s _ a (by omega) (by omega), startsL_at s _ b (by omega) (by omega), if_pos (by omega), if_pos (by omega), if_pos (by omega), if_neg (by omega)]
          rfl

theorem ext_nil : (⟨#[]⟩ : ByteArray) = enc [] := rfl
theorem shown_ok : epitomelaw01_shown.f = some true := by
  have hl : (⟨#[97, 195, 169, 98]⟩ : ByteArray) = enc [97, 233, 98] := by decide
  have hr : Runes [97, 233, 98] := by
    intro c hc
    simp only [List.mem_cons, List.not_mem_nil, or_false] at hc
    unfold isRune
    omega
  have e1 : points_Cut.f (enc [97, 233, 98]) 1 2 = some (enc [233], 0) := by
    unfold points_Cut.f
    rw [if_pos (by rw [← hl]; decide), cutF_enc hr (by decide) (by decide) (by decide)]; rfl
  have e2 : points_Count.f (enc [97, 233, 98]) = some 3 := by
    unfold points_Count.f
    rw [if_pos (by rw [← hl]; decide), countT_enc hr]; rfl
  unfold epitomelaw01_shown.f
  rw [hl, e1, Option.bind_some, e2, if_pos (by rw [ByteArray.toList_eq]; decide), if_pos rfl]
  rfl
theorem few_ok (s : ByteArray) : ∃ r, epitomelaw01_few.f s = some r ∧ r.size ≤ 120 := by
  unfold epitomelaw01_few.f
  refine ⟨s.extract 0 (mn (s.size : Int) 120).toNat, ?_, ?_⟩
  · rw [if_pos (by unfold mn; split <;> omega), if_pos (by unfold mn; split <;> omega)]
  · rw [ByteArray.size_extract]
    have : (mn (s.size : Int) 120).toNat ≤ 120 := by unfold mn; split <;> omega
    omega
end Go.Proofs.YtolljobehfmffaaDoor.Pure
