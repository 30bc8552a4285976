/- The reference's texts: where code points begin, and whether all is a text: as the model's decoder has it. -/
import Derived.Test.YtolljobehfmffaaDoorPx4
import Derived.Test.YtolljobehfmffaaDoorTextEnc
import Derived.Test.YtolljobehfmffaaDoorPureNum
namespace Go.Proofs.YtolljobehfmffaaDoor.Pure
open Go.RowKit Go.Proofs.YtolljobehfmffaaDoor.P Go.Proofs.YtolljobehfmffaaDoorW.PrintWords Go.Proofs.YtolljobehfmffaaDoorW.PrintLast Go.Proofs.YtolljobehfmffaaDoorW.PrintMore

/-- How many bytes a code point has; 0: it is none. -/
def sizeS (n : Int) : Int := if n < 0 ∨ 1114111 < n ∨ (55296 ≤ n ∧ n ≤ 57343) then 0 else if n < 128 then 1 else if n < 2048 then 2 else if n < 65536 then 3 else 4
theorem size_f (k : Nat) (n : Int) : epitomeref01_size.f (k + 1) n = some (sizeS n) := by
  have e : ∀ b, epitomeref01_size.j0 (k + 1) n b = if b = true then some 0 else some (if n < 128 then 1 else if n < 2048 then 2 else if n < 65536 then 3 else 4) := by
    intro b
    simp only [epitomeref01_size.j0]
    cases b
    · simp only [Bool.false_eq_true, if_false]
      repeat' split
      all_goals rfl
    · simp only [if_true]
  unfold epitomeref01_size.f sizeS
  by_cases c : n < 0
  · rw [if_pos c, if_pos (.inl c), e, if_pos rfl]
  · rw [if_neg c]
    by_cases c1 : n > 1114111
    · rw [if_pos c1, if_pos (.inr (.inl c1)), e, if_pos rfl]
    · rw [if_neg c1]
      by_cases c2 : n ≥ 55296
      · rw [if_pos c2, e]
        by_cases c3 : n ≤ 57343
        · rw [if_pos (by simpa using c3), if_pos (.inr (.inr ⟨c2, c3⟩))]
        · rw [if_neg (by simpa using c3), if_neg (show ¬ (n < 0 ∨ 1114111 < n ∨ (55296 ≤ n ∧ n ≤ 57343)) by omega)]
      · rw [if_neg c2, e, if_neg (by decide), if_neg (show ¬ (n < 0 ∨ 1114111 < n ∨ (55296 ≤ n ∧ n ≤ 57343)) by omega)]

theorem bt_get (s : ByteArray) (i : Nat) : bt s (i : Int) = ((s.data.toList.getD i 0).toNat : Int) := by
  unfold bt
  rw [Int.toNat_natCast]
  split
  · rename_i h
    rw [List.getD_eq_getElem?_getD, List.getElem?_eq_getElem (by rw [Array.length_toList]; exact h)]
    rfl
  · rename_i h
    rw [List.getD_eq_getElem?_getD, List.getElem?_eq_none (by rw [Array.length_toList]; exact Nat.le_of_not_lt h)]
    rfl
theorem size_list (s : ByteArray) : s.data.toList.length = s.size := by rw [Array.length_toList]; rfl

/-- What first tells, of the length and the first four bytes: the model's decoder, and (0, 0) where that fails. -/
def firstS (n b0 b1 b2 b3 : Nat) : Int × Int := if Lib.decodeN n b0 b1 b2 b3 = (65533, 1) then (0, 0) else (((Lib.decodeN n b0 b1 b2 b3).1 : Int), ((Lib.decodeN n b0 b1 b2 b3).2 : Int))

/-- One round of first's loop. -/
theorem first_round (k : Nat) (s : ByteArray) (m c : Int) (i : Nat) (hs : s.size ≤ 9223372036854775806) (hi : (i : Int) ≤ m) (hl : i < s.size) (hc0 : 0 ≤ c) (hc : c < 16777216) :
    epitomeref01_first.l0 (k + 1) s m c (i : Int) = if bt s (i : Int) < 128 ∨ 191 < bt s (i : Int) then some (0, 0) else epitomeref01_first.l0 k s m (c * 64 + bt s (i : Int) - 128) ((i + 1 : Nat) : Int) := by
  have hb := bt_range s (i : Int)
  simp only [epitomeref01_first.l0]
  rw [if_pos hi, if_pos (by omega), if_pos (by omega), w64 (x := bt s (i : Int)) (by omega) (by omega), w64 (x := c * 64) (by omega) (by omega), w64 (x := c * 64 + bt s (i : Int)) (by omega) (by omega), w64 (x := c * 64 + bt s (i : Int) - 128) (by omega) (by omega), w64 (x := (i : Int) + 1) (by omega) (by omega)]
  by_cases c1 : bt s (i : Int) < 128
  · rw [if_pos c1, if_pos (.inl c1)]
  · rw [if_neg c1]
    by_cases c2 : bt s (i : Int) > 191
    · rw [if_pos c2, if_pos (.inr c2)]
    · rw [if_neg c2, if_neg (by omega)]; rfl
theorem first_end (k : Nat) (s : ByteArray) (m : Nat) (c : Int) (i : Int) (hm : m < 8) (hi : ¬ i ≤ (m : Int)) :
    epitomeref01_first.l0 (k + 2) s (m : Int) c i = if sizeS c = (m : Int) + 1 then some (c, (m : Int) + 1) else some (0, 0) := by
  simp only [epitomeref01_first.l0]
  rw [if_neg hi, size_f, w64 (by omega) (by omega)]
  rfl
set_option maxHeartbeats 2000000 in
theorem first_f (k : Nat) (s : ByteArray) (h0 : 0 < s.size) (hs : s.size ≤ 9223372036854775806) :
    epitomeref01_first.f (k + 12) s = some (firstS s.size (s.data.toList.getD 0 0).toNat (s.data.toList.getD 1 0).toNat (s.data.toList.getD 2 0).toNat (s.data.toList.getD 3 0).toNat) := by
  have e0 := bt_get s 0
  have e1 := bt_get s 1
  have e2 := bt_get s 2
  have e3 := bt_get s 3
  have hb0 : (s.data.toList.getD 0 0).toNat < 256 := (s.data.toList.getD 0 0).toNat_lt
  have hb1 : (s.data.toList.getD 1 0).toNat < 256 := (s.data.toList.getD 1 0).toNat_lt
  have hb2 : (s.data.toList.getD 2 0).toNat < 256 := (s.data.toList.getD 2 0).toNat_lt
  have hb3 : (s.data.toList.getD 3 0).toNat < 256 := (s.data.toList.getD 3 0).toNat_lt
  generalize (s.data.toList.getD 0 0).toNat = b0 at *
  generalize (s.data.toList.getD 1 0).toNat = b1 at *
  generalize (s.data.toList.getD 2 0).toNat = b2 at *
  generalize (s.data.toList.getD 3 0).toNat = b3 at *
  unfold epitomeref01_first.f
  rw [if_neg (by omega), if_pos (by omega), show (0 : Int) = ((0 : Nat) : Int) from rfl, e0, w64 (by omega) (by omega)]
  -- the lead byte settles how many follow
  have lead : (if (b0 : Int) ≥ 240 then epitomeref01_first.j0 (k + 12) s (b0 : Int) ((0 : Nat) : Int) (b0 : Int) (decide ((b0 : Int) < 248)) else epitomeref01_first.j0 (k + 12) s (b0 : Int) ((0 : Nat) : Int) (b0 : Int) false) =
      if 240 ≤ b0 ∧ b0 < 248 then epitomeref01_first.j3 (k + 11) s 3 ((b0 : Int) - 240)
      else if 224 ≤ b0 ∧ b0 < 240 then epitomeref01_first.j3 (k + 10) s 2 ((b0 : Int) - 224)
      else if 192 ≤ b0 ∧ b0 < 224 then epitomeref01_first.j3 (k + 9) s 1 ((b0 : Int) - 192)
      else if 128 ≤ b0 then some (0, 0) else epitomeref01_first.j3 (k + 9) s 0 (b0 : Int) := by
    rcases (by omega : b0 < 128 ∨ (128 ≤ b0 ∧ b0 < 192) ∨ (192 ≤ b0 ∧ b0 < 224) ∨ (224 ≤ b0 ∧ b0 < 240) ∨ (240 ≤ b0 ∧ b0 < 248) ∨ 248 ≤ b0) with g | g | g | g | g | g
    · rw [if_neg (by omega), if_neg (by omega), if_neg (by omega), if_neg (by omega), if_neg (by omega)]
      simp only [epitomeref01_first.j0, Bool.false_eq_true, if_false]
      rw [if_neg (by omega)]
      simp only [epitomeref01_first.j1, Bool.false_eq_true, if_false]
      rw [if_neg (by omega)]
      simp only [epitomeref01_first.j2, Bool.false_eq_true, if_false]
      rw [if_neg (by omega)]; rfl
    · rw [if_neg (by omega), if_neg (by omega), if_neg (by omega), if_neg (by omega), if_pos (by omega)]
      simp only [epitomeref01_first.j0, Bool.false_eq_true, if_false]
      rw [if_neg (by omega)]
      simp only [epitomeref01_first.j1, Bool.false_eq_true, if_false]
      rw [if_neg (by omega)]
      simp only [epitomeref01_first.j2, Bool.false_eq_true, if_false]
      rw [if_pos (by omega)]
    · rw [if_neg (by omega), if_neg (by omega), if_neg (by omega), if_pos (by omega)]
      simp only [epitomeref01_first.j0, Bool.false_eq_true, if_false]
      rw [if_neg (by omega)]
      simp only [epitomeref01_first.j1, Bool.false_eq_true, if_false]
      rw [if_pos (by omega), decide_eq_true (by omega)]
      simp only [epitomeref01_first.j2, if_true]
      rw [w64 (by omega) (by omega)]
    · rw [if_neg (by omega), if_neg (by omega), if_pos (by omega)]
      simp only [epitomeref01_first.j0, Bool.false_eq_true, if_false]
      rw [if_pos (by omega), decide_eq_true (by omega)]
      simp only [epitomeref01_first.j1, if_true]
      rw [w64 (by omega) (by omega)]
    · rw [if_pos (by omega), if_pos (by omega), decide_eq_true (by omega)]
      simp only [epitomeref01_first.j0, if_true]
      rw [w64 (by omega) (by omega)]
    · rw [if_pos (by omega), if_neg (by omega), if_neg (by omega), if_neg (by omega), if_pos (by omega), decide_eq_false (by omega)]
      simp only [epitomeref01_first.j0, Bool.false_eq_true, if_false]
      rw [if_pos (by omega), decide_eq_false (by omega)]
      simp only [epitomeref01_first.j1, Bool.false_eq_true, if_false]
      rw [if_pos (by omega), decide_eq_false (by omega)]
      simp only [epitomeref01_first.j2, Bool.false_eq_true, if_false]
      rw [if_pos (by omega)]
  rw [lead]
  clear lead
  unfold firstS
  rcases (by omega : b0 < 128 ∨ (128 ≤ b0 ∧ b0 < 192) ∨ (192 ≤ b0 ∧ b0 < 224) ∨ (224 ≤ b0 ∧ b0 < 240) ∨ (240 ≤ b0 ∧ b0 < 248) ∨ 248 ≤ b0) with g | g | g | g | g | g
  · rw [if_neg (by omega), if_neg (by omega), if_neg (by omega), if_neg (by omega)]
    simp only [epitomeref01_first.j3]
    rw [w64 (by omega) (by omega), if_neg (by omega), show (0 : Int) = ((0 : Nat) : Int) from rfl]
    rw [show epitomeref01_first.l0 (k + 8) s ((0 : Nat) : Int) (b0 : Int) 1 = _ from first_end (k + 6) s 0 (b0 : Int) 1 (by omega) (by omega)]
    have e : Lib.decodeN s.size b0 b1 b2 b3 = (b0, 1) := Lib.decodeN_ascii _ _ _ _ _ g
    have z : sizeS (b0 : Int) = 1 := by unfold sizeS; rw [if_neg (by omega), if_pos (by omega)]
    rw [z, if_pos (by rfl), e, if_neg (by simp; omega)]
    rfl
  · rw [if_neg (by omega), if_neg (by omega), if_neg (by omega), if_pos (by omega)]
    have e : Lib.decodeN s.size b0 b1 b2 b3 = (65533, 1) := by unfold Lib.decodeN; rw [if_neg (by omega), if_neg (by omega), if_neg (by omega), if_neg (by omega)]
    rw [e, if_pos rfl]
  · rw [if_neg (by omega), if_neg (by omega), if_pos (by omega)]
    simp only [epitomeref01_first.j3]
    rw [w64 (by omega) (by omega)]
    by_cases n1 : s.size < 2
    · rw [if_pos (by omega)]
      have e : Lib.decodeN s.size b0 b1 b2 b3 = (65533, 1) := by unfold Lib.decodeN; rw [if_neg (by omega), if_neg (by omega), if_neg (by omega), if_neg (by omega)]
      rw [e, if_pos rfl]
    · rw [if_neg (by omega), show (1 : Int) = ((1 : Nat) : Int) from rfl, first_round _ s _ _ 1 hs (by omega) (by omega) (by omega) (by omega), e1]
      by_cases c1 : (b1 : Int) < 128 ∨ 191 < (b1 : Int)
      · rw [if_pos c1]
        have e : Lib.decodeN s.size b0 b1 b2 b3 = (65533, 1) := by unfold Lib.decodeN; rw [if_neg (by omega), if_neg (by omega), if_neg (by omega), if_neg (by omega)]
        rw [e, if_pos rfl]
      · rw [if_neg c1, first_end _ s 1 _ _ (by omega) (by omega)]
        have e : Lib.decodeN s.size b0 b1 b2 b3 = if b0 % 32 * 64 + b1 % 64 ≥ 128 then (b0 % 32 * 64 + b1 % 64, 2) else (65533, 1) := by unfold Lib.decodeN; rw [if_neg (by omega), if_pos (by omega)]
        rw [e]
        clear e
        by_cases v : b0 % 32 * 64 + b1 % 64 ≥ 128
        · have z : sizeS (((b0 : Int) - 192) * 64 + (b1 : Int) - 128) = ((1 : Nat) : Int) + 1 := by unfold sizeS; rw [if_neg (by omega), if_neg (by omega), if_pos (by omega)]; rfl
          rw [if_pos z, if_pos v, if_neg (by simp)]
          refine congrArg some (Prod.ext ?_ ?_) <;> simp only [] <;> omega
        · have z : ¬ sizeS (((b0 : Int) - 192) * 64 + (b1 : Int) - 128) = ((1 : Nat) : Int) + 1 := by unfold sizeS; rw [if_neg (by omega), if_pos (by omega)]; omega
          rw [if_neg z, if_neg v, if_pos rfl]
  · rw [if_neg (by omega), if_pos (by omega)]
    simp only [epitomeref01_first.j3]
    rw [w64 (by omega) (by omega)]
    by_cases n1 : s.size < 3
    · rw [if_pos (by omega)]
      have e : Lib.decodeN s.size b0 b1 b2 b3 = (65533, 1) := by unfold Lib.decodeN; rw [if_neg (by omega), if_neg (by omega), if_neg (by omega), if_neg (by omega)]
      rw [e, if_pos rfl]
    · rw [if_neg (by omega), show (1 : Int) = ((1 : Nat) : Int) from rfl, first_round _ s _ _ 1 hs (by omega) (by omega) (by omega) (by omega), e1]
      by_cases c1 : (b1 : Int) < 128 ∨ 191 < (b1 : Int)
      · rw [if_pos c1]
        have e : Lib.decodeN s.size b0 b1 b2 b3 = (65533, 1) := by unfold Lib.decodeN; rw [if_neg (by omega), if_neg (by omega), if_neg (by omega), if_neg (by omega)]
        rw [e, if_pos rfl]
      · rw [if_neg c1, show ((1 + 1 : Nat) : Int) = ((2 : Nat) : Int) from rfl, first_round _ s _ _ 2 hs (by omega) (by omega) (by omega) (by omega), e2]
        by_cases c2 : (b2 : Int) < 128 ∨ 191 < (b2 : Int)
        · rw [if_pos c2]
          have e : Lib.decodeN s.size b0 b1 b2 b3 = (65533, 1) := by unfold Lib.decodeN; rw [if_neg (by omega), if_neg (by omega), if_neg (by omega), if_neg (by omega)]
          rw [e, if_pos rfl]
        · rw [if_neg c2, show (2 : Int) = ((2 : Nat) : Int) from rfl, first_end _ s 2 _ _ (by omega) (by omega)]
          have e : Lib.decodeN s.size b0 b1 b2 b3 = if b0 % 16 * 4096 + b1 % 64 * 64 + b2 % 64 ≥ 2048 ∧ (b0 % 16 * 4096 + b1 % 64 * 64 + b2 % 64 < 55296 ∨ (57344 ≤ b0 % 16 * 4096 + b1 % 64 * 64 + b2 % 64 ∧ b0 % 16 * 4096 + b1 % 64 * 64 + b2 % 64 ≤ 1114111)) then (b0 % 16 * 4096 + b1 % 64 * 64 + b2 % 64, 3) else (65533, 1) := by unfold Lib.decodeN; rw [if_neg (by omega), if_neg (by omega), if_pos (by omega)]
          rw [e]
          clear e
          by_cases v : b0 % 16 * 4096 + b1 % 64 * 64 + b2 % 64 ≥ 2048 ∧ (b0 % 16 * 4096 + b1 % 64 * 64 + b2 % 64 < 55296 ∨ (57344 ≤ b0 % 16 * 4096 + b1 % 64 * 64 + b2 % 64 ∧ b0 % 16 * 4096 + b1 % 64 * 64 + b2 % 64 ≤ 1114111))
          · have z : sizeS ((((b0 : Int) - 224) * 64 + (b1 : Int) - 128) * 64 + (b2 : Int) - 128) = ((2 : Nat) : Int) + 1 := by unfold sizeS; rw [if_neg (by omega), if_neg (by omega), if_neg (by omega), if_pos (by omega)]; rfl
            rw [if_pos z, if_pos v, if_neg (by simp)]
            refine congrArg some (Prod.ext ?_ ?_) <;> simp only [] <;> omega
          · have z : ¬ sizeS ((((b0 : Int) - 224) * 64 + (b1 : Int) - 128) * 64 + (b2 : Int) - 128) = ((2 : Nat) : Int) + 1 := by
              unfold sizeS
              split
              · omega
              · split
                · omega
                · rw [if_pos (by omega)]; omega
            rw [if_neg z, if_neg v, if_pos rfl]
  · rw [if_pos (by omega)]
    simp only [epitomeref01_first.j3]
    rw [w64 (by omega) (by omega)]
    by_cases n1 : s.size < 4
    · rw [if_pos (by omega)]
      have e : Lib.decodeN s.size b0 b1 b2 b3 = (65533, 1) := by unfold Lib.decodeN; rw [if_neg (by omega), if_neg (by omega), if_neg (by omega), if_neg (by omega)]
      rw [e, if_pos rfl]
    · rw [if_neg (by omega), show (1 : Int) = ((1 : Nat) : Int) from rfl, first_round _ s _ _ 1 hs (by omega) (by omega) (by omega) (by omega), e1]
      by_cases c1 : (b1 : Int) < 128 ∨ 191 < (b1 : Int)
      · rw [if_pos c1]
        have e : Lib.decodeN s.size b0 b1 b2 b3 = (65533, 1) := by unfold Lib.decodeN; rw [if_neg (by omega), if_neg (by omega), if_neg (by omega), if_neg (by omega)]
        rw [e, if_pos rfl]
      · rw [if_neg c1, show ((1 + 1 : Nat) : Int) = ((2 : Nat) : Int) from rfl, first_round _ s _ _ 2 hs (by omega) (by omega) (by omega) (by omega), e2]
        by_cases c2 : (b2 : Int) < 128 ∨ 191 < (b2 : Int)
        · rw [if_pos c2]
          have e : Lib.decodeN s.size b0 b1 b2 b3 = (65533, 1) := by unfold Lib.decodeN; rw [if_neg (by omega), if_neg (by omega), if_neg (by omega), if_neg (by omega)]
          rw [e, if_pos rfl]
        · rw [if_neg c2, show ((2 + 1 : Nat) : Int) = ((3 : Nat) : Int) from rfl, first_round _ s _ _ 3 hs (by omega) (by omega) (by omega) (by omega), e3]
          by_cases c3 : (b3 : Int) < 128 ∨ 191 < (b3 : Int)
          · rw [if_pos c3]
            have e : Lib.decodeN s.size b0 b1 b2 b3 = (65533, 1) := by unfold Lib.decodeN; rw [if_neg (by omega), if_neg (by omega), if_neg (by omega), if_neg (by omega)]
            rw [e, if_pos rfl]
          · rw [if_neg c3, show (3 : Int) = ((3 : Nat) : Int) from rfl, first_end _ s 3 _ _ (by omega) (by omega)]
            have e : Lib.decodeN s.size b0 b1 b2 b3 = if b0 % 8 * 262144 + b1 % 64 * 4096 + b2 % 64 * 64 + b3 % 64 ≥ 65536 ∧ (b0 % 8 * 262144 + b1 % 64 * 4096 + b2 % 64 * 64 + b3 % 64 < 55296 ∨ (57344 ≤ b0 % 8 * 262144 + b1 % 64 * 4096 + b2 % 64 * 64 + b3 % 64 ∧ b0 % 8 * 262144 + b1 % 64 * 4096 + b2 % 64 * 64 + b3 % 64 ≤ 1114111)) then (b0 % 8 * 262144 + b1 % 64 * 4096 + b2 % 64 * 64 + b3 % 64, 4) else (65533, 1) := by unfold Lib.decodeN; rw [if_neg (by omega), if_neg (by omega), if_neg (by omega), if_pos (by omega)]
            rw [e]
            clear e
            by_cases v : b0 % 8 * 262144 + b1 % 64 * 4096 + b2 % 64 * 64 + b3 % 64 ≥ 65536 ∧ (b0 % 8 * 262144 + b1 % 64 * 4096 + b2 % 64 * 64 + b3 % 64 < 55296 ∨ (57344 ≤ b0 % 8 * 262144 + b1 % 64 * 4096 + b2 % 64 * 64 + b3 % 64 ∧ b0 % 8 * 262144 + b1 % 64 * 4096 + b2 % 64 * 64 + b3 % 64 ≤ 1114111))
            · have z : sizeS (((((b0 : Int) - 240) * 64 + (b1 : Int) - 128) * 64 + (b2 : Int) - 128) * 64 + (b3 : Int) - 128) = ((3 : Nat) : Int) + 1 := by unfold sizeS; rw [if_neg (by omega), if_neg (by omega), if_neg (by omega), if_neg (by omega)]; rfl
              rw [if_pos z, if_pos v, if_neg (by simp)]
              refine congrArg some (Prod.ext ?_ ?_) <;> simp only [] <;> omega
            · have z : ¬ sizeS (((((b0 : Int) - 240) * 64 + (b1 : Int) - 128) * 64 + (b2 : Int) - 128) * 64 + (b3 : Int) - 128) = ((3 : Nat) : Int) + 1 := by
                unfold sizeS
                split
                · omega
                · split
                  · omega
                  · split
                    · omega
                    · rw [if_pos (by omega)]; omega
              rw [if_neg z, if_neg v, if_pos rfl]
  · rw [if_neg (by omega), if_neg (by omega), if_neg (by omega), if_pos (by omega)]
    have e : Lib.decodeN s.size b0 b1 b2 b3 = (65533, 1) := by unfold Lib.decodeN; rw [if_neg (by omega), if_neg (by omega), if_neg (by omega), if_neg (by omega)]
    rw [e, if_pos rfl]
end Go.Proofs.YtolljobehfmffaaDoor.Pure
