/- Texts that the top laws make: the reference's text of any bytes. -/
import Derived.Test.YtegjegihcebimaaDoorPx15
import Derived.Test.YtegjegihcebimaaDoorPx16
import Derived.Test.YtegjegihcebimaaDoorPx17
import Derived.Test.YtegjegihcebimaaDoorPx7
import Derived.Test.YtegjegihcebimaaDoorPx5
import Derived.Test.YtegjegihcebimaaDoorTextEnc
import Derived.Lib.Bytes
namespace Go.Proofs.YtegjegihcebimaaDoor.Pure
open Go.RowKit Go.Proofs.YtegjegihcebimaaDoor.P Go.Proofs.YtegjegihcebimaaDoorW.PrintWords Go.Proofs.YtegjegihcebimaaDoorW.PrintLast Go.Proofs.YtegjegihcebimaaDoorW.PrintMore
theorem w64 {x : Int} (h0 : -9223372036854775808 ≤ x) (h1 : x ≤ 9223372036854775807) : wrap64 x = x := by unfold wrap64; omega
/-- How many bytes a code point has; 0: it is none. -/
def sizeS (n : Int) : Int := if n < 0 ∨ 1114111 < n ∨ (55296 ≤ n ∧ n ≤ 57343) then 0 else if n < 128 then 1 else if n < 2048 then 2 else if n < 65536 then 3 else 4
theorem size_f (k : Nat) (n : Int) : epitomeref01_size.f (k + 1) n = some (sizeS n) := by
  have e : ∀ b, epitomeref01_size.j0 (k + 1) n b = if b = true then some 0 else some (if n < 128 then 1 else if n < 2048 then 2 else if n < 65536 then 3 else 4) := by
    intro b
    simp only [epitomeref01_size.j0]
    cases b
    · simp only [Bool.false_eq_true, if_false]
      repeat' split
      all_goals rfl
    · simp only [if_true]
  unfold epitomeref01_size.f sizeS
  by_cases c : n < 0
  · rw [if_pos c, if_pos (.inl c), e, if_pos rfl]
  · rw [if_neg c]
    by_cases c1 : n > 1114111
    · rw [if_pos c1, if_pos (.inr (.inl c1)), e, if_pos rfl]
    · rw [if_neg c1]
      by_cases c2 : n ≥ 55296
      · rw [if_pos c2, e]
        by_cases c3 : n ≤ 57343
        · rw [if_pos (by simpa using c3), if_pos (.inr (.inr ⟨c2, c3⟩))]
        · rw [if_neg (by simpa using c3), if_neg (show ¬ (n < 0 ∨ 1114111 < n ∨ (55296 ≤ n ∧ n ≤ 57343)) by omega)]
      · rw [if_neg c2, e, if_neg (by decide), if_neg (show ¬ (n < 0 ∨ 1114111 < n ∨ (55296 ≤ n ∧ n ≤ 57343)) by omega)]

def ofB (l : List Int) : List Int := (l.filter fun c => decide (isRune c)).flatMap Lib.encodeRuneZ
theorem ofB_len : ∀ l : List Int, (ofB l).length ≤ 4 * l.length
  | [] => by simp [ofB]
  | c :: l => by
    have ih := ofB_len l
    have hc := Lib.encodeRuneZ_length c
    unfold ofB at *
    rw [List.filter_cons]
    split
    · rw [List.flatMap_cons, List.length_append, List.length_cons]; omega
    · rw [List.length_cons]; omega
theorem ofB_next (l : List Int) (k : Nat) (h : k < l.length) : ofB (l.take (k + 1)) = ofB (l.take k) ++ (if isRune (l.getD k 0) then Lib.encodeRuneZ (l.getD k 0) else []) := by
  have e : l.getD k 0 = l[k] := by rw [List.getD_eq_getElem?_getD, List.getElem?_eq_getElem h]; rfl
  rw [e, List.take_succ_eq_append_getElem h]
  unfold ofB
  rw [List.filter_append, List.flatMap_append]
  congr 1
  by_cases c : isRune l[k]
  · rw [if_pos c, List.filter_cons, if_pos (by simpa using c)]; simp
  · rw [if_neg c, List.filter_cons, if_neg (by simpa using c)]; simp
theorem ofB_str (l : List Int) : strOfNums (ofB l) = enc (l.filter fun c => decide (isRune c)) := by
  apply bytes_ext
  rw [strOfNums_data, enc_list, encB, ofB, List.map_flatMap, List.flatMap_def]
  rfl

set_option maxHeartbeats 1000000 in
theorem of_l (l : List Int) (hl : 4 * l.length < 140737488355000) (hw : ∀ x ∈ l, -2147483648 ≤ x ∧ x ≤ 2147483647) :
    ∀ (d i k : Nat), l.length - i = d → i ≤ l.length → d + 3 ≤ k → epitomeref01_Of.l0 k l (ofB (l.take i)) (i : Int) = some (enc (l.filter fun c => decide (isRune c))) := by
  intro d
  induction d with
  | zero =>
    intro i k hd hi hk
    obtain ⟨k, rfl⟩ : ∃ m, k = m + 1 := ⟨k - 1, by omega⟩
    simp only [epitomeref01_Of.l0]
    rw [if_neg (by omega), List.take_of_length_le (by omega), ofB_str]
  | succ d ih =>
    intro i k hd hi hk
    obtain ⟨k, rfl⟩ : ∃ m, k = m + 2 := ⟨k - 2, by omega⟩
    have hb := ofB_len (l.take i)
    rw [List.length_take] at hb
    have hn := ofB_next l i (by omega)
    have hx : -2147483648 ≤ l.getD i 0 ∧ l.getD i 0 ≤ 2147483647 := by
      rw [List.getD_eq_getElem?_getD, List.getElem?_eq_getElem (by omega)]
      exact hw _ (List.getElem_mem _)
    have next := ih (i + 1) (k + 1) (by omega) (by omega) (by omega)
    rw [hn] at next
    simp only [epitomeref01_Of.l0]
    rw [if_pos (by omega), if_pos (by omega), size_f, Option.bind_some, w64 (x := (i : Int) + 1) (by omega) (by omega)]
    rw [show (i : Int) + 1 = ((i + 1 : Nat) : Int) by omega]
    unfold rd
    rw [Int.toNat_natCast]
    generalize l.getD i 0 = x at *
    simp only [w64 (x := x) (by omega) (by omega)]
    by_cases r : isRune x
    · rw [if_pos r] at next
      unfold isRune at r
      rcases (by omega : (0 ≤ x ∧ x ≤ 127) ∨ (128 ≤ x ∧ x ≤ 2047) ∨ ((2048 ≤ x ∧ x < 55296) ∨ (57343 < x ∧ x ≤ 65535)) ∨ (65536 ≤ x ∧ x ≤ 1114111)) with g | g | g | g
      · have z : sizeS x = 1 := by unfold sizeS; rw [if_neg (by omega), if_pos (by omega)]
        rw [Lib.encodeRuneZ_one g.1 g.2] at next
        rw [z, if_pos rfl, if_pos (by omega), Int.emod_eq_of_lt (by omega) (by omega)]
        exact next
      · have z : sizeS x = 2 := by unfold sizeS; rw [if_neg (by omega), if_neg (by omega), if_pos (by omega)]
        rw [Lib.encodeRuneZ_two g.1 g.2] at next
        rw [z, if_neg (by decide), if_pos rfl, Option.bind_some, if_pos (by simp only [List.length_cons, List.length_nil]; omega)]
        rw [Int.tdiv_eq_ediv_of_nonneg (by omega), Int.tmod_eq_emod_of_nonneg (by omega), w64 (x := x / 64) (by omega) (by omega), w64 (x := 192 + x / 64) (by omega) (by omega), w64 (x := 128 + x % 64) (by omega) (by omega), Int.emod_eq_of_lt (a := 192 + x / 64) (by omega) (by omega), Int.emod_eq_of_lt (a := 128 + x % 64) (by omega) (by omega)]
        exact next
      · have z : sizeS x = 3 := by unfold sizeS; rw [if_neg (by omega), if_neg (by omega), if_neg (by omega), if_pos (by omega)]
        have e : Lib.encodeRuneZ x = [224 + x / 4096, 128 + x / 64 % 64, 128 + x % 64] := by
          unfold Lib.encodeRuneZ; rw [if_neg (by omega), if_neg (by omega), if_pos g]
        rw [e] at next
        rw [z, if_neg (by decide), if_neg (by decide), if_pos rfl, Option.bind_some, if_pos (by simp only [List.length_cons, List.length_nil]; omega)]
        rw [Int.tdiv_eq_ediv_of_nonneg (b := 4096) (by omega), Int.tdiv_eq_ediv_of_nonneg (b := 64) (by omega), w64 (x := x / 64) (by omega) (by omega), Int.tmod_eq_emod_of_nonneg (a := x) (by omega), Int.tmod_eq_emod_of_nonneg (a := x / 64) (by omega), w64 (x := x / 4096) (by omega) (by omega), w64 (x := 224 + x / 4096) (by omega) (by omega), w64 (x := 128 + x / 64 % 64) (by omega) (by omega), w64 (x := 128 + x % 64) (by omega) (by omega),
          Int.emod_eq_of_lt (a := 224 + x / 4096) (by omega) (by omega), Int.emod_eq_of_lt (a := 128 + x / 64 % 64) (by omega) (by omega), Int.emod_eq_of_lt (a := 128 + x % 64) (by omega) (by omega)]
        exact next
      · have z : sizeS x = 4 := by unfold sizeS; rw [if_neg (by omega), if_neg (by omega), if_neg (by omega), if_neg (by omega)]
        have e : Lib.encodeRuneZ x = [240 + x / 262144, 128 + x / 4096 % 64, 128 + x / 64 % 64, 128 + x % 64] := by
          unfold Lib.encodeRuneZ; rw [if_neg (by omega), if_neg (by omega), if_neg (by omega), if_pos g]
        rw [e] at next
        rw [z, if_neg (by decide), if_neg (by decide), if_neg (by decide), if_pos rfl, Option.bind_some, if_pos (by simp only [List.length_cons, List.length_nil]; omega)]
        rw [Int.tdiv_eq_ediv_of_nonneg (b := 262144) (by omega), Int.tdiv_eq_ediv_of_nonneg (b := 4096) (by omega), Int.tdiv_eq_ediv_of_nonneg (b := 64) (by omega), w64 (x := x / 64) (by omega) (by omega), w64 (x := x / 4096) (by omega) (by omega), Int.tmod_eq_emod_of_nonneg (a := x) (by omega), Int.tmod_eq_emod_of_nonneg (a := x / 64) (by omega), Int.tmod_eq_emod_of_nonneg (a := x / 4096) (by omega), w64 (x := x / 262144) (by omega) (by omega), w64 (x := 240 + x / 262144) (by omega) (by omega), w64 (x := 128 + x / 4096 % 64) (by omega) (by omega), w64 (x := 128 + x / 64 % 64) (by omega) (by omega), w64 (x := 128 + x % 64) (by omega) (by omega),
          Int.emod_eq_of_lt (a := 240 + x / 262144) (by omega) (by omega), Int.emod_eq_of_lt (a := 128 + x / 4096 % 64) (by omega) (by omega), Int.emod_eq_of_lt (a := 128 + x / 64 % 64) (by omega) (by omega), Int.emod_eq_of_lt (a := 128 + x % 64) (by omega) (by omega)]
        exact next
    · rw [if_neg r, List.append_nil] at next
      have z : sizeS x = 0 := by unfold isRune at r; unfold sizeS; rw [if_pos (by omega)]
      rw [z, if_neg (by decide), if_neg (by decide), if_neg (by decide), if_neg (by decide)]
      exact next
theorem refOf (l : List Int) (hl : 4 * l.length < 140737488355000) (hw : ∀ x ∈ l, -2147483648 ≤ x ∧ x ≤ 2147483647) (k : Nat) (hk : l.length + 3 ≤ k) :
    epitomeref01_Of.f k l = some (enc (l.filter fun c => decide (isRune c))) := by
  unfold epitomeref01_Of.f
  exact of_l l hl hw l.length 0 k rfl (Nat.zero_le _) hk

theorem fit_rune (s : ByteArray) : Runes (epitomeref01_Fit.l s) := by
  intro c hc
  unfold epitomeref01_Fit.l at hc
  obtain ⟨b, _, rfl⟩ := List.mem_map.mp hc
  have h8 : b.toNat % 8 < 8 := Nat.mod_lt _ (by decide)
  generalize b.toNat % 8 = m at *
  rcases (by omega : m = 0 ∨ m = 1 ∨ m = 2 ∨ m = 3 ∨ m = 4 ∨ m = 5 ∨ m = 6 ∨ m = 7) with rfl | rfl | rfl | rfl | rfl | rfl | rfl | rfl <;> decide
theorem filter_runes {l : List Int} (h : Runes l) : (l.filter fun c => decide (isRune c)) = l := List.filter_eq_self.mpr fun c hc => by simpa using h c hc
theorem fit_ok (s : ByteArray) (h : s.size ≤ 120) (k : Nat) (hk : 200 ≤ k) : ∃ l, epitomeref01_Fit.f k s = some (enc l) ∧ Runes l ∧ l.length ≤ 120 ∧ (enc l).size ≤ 480 := by
  have hl := epitomeref01_Fit.len s
  refine ⟨epitomeref01_Fit.l s, ?_, fit_rune s, by omega, ?_⟩
  · unfold epitomeref01_Fit.f
    rw [if_pos (by omega), refOf _ (by omega) _ _ (by omega), filter_runes (fit_rune s)]
    intro x hx
    have := fit_rune s x hx
    unfold isRune at this; omega
  · have := ofB_len (epitomeref01_Fit.l s)
    rw [← filter_runes (fit_rune s), ← ofB_str, strOfNums_size]
    omega
theorem count_ok {l : List Int} (h : Runes l) (hs : (enc l).size ≤ 9999) : points_Count.f (enc l) = some (l.length : Int) := by
  unfold points_Count.f; rw [if_pos (by omega), countT_enc h]
theorem valid_ok {l : List Int} (h : Runes l) (hs : (enc l).size ≤ 9999) : points_Valid.f (enc l) = some true := by
  unfold points_Valid.f; rw [if_pos (by omega), validT_enc h]
end Go.Proofs.YtegjegihcebimaaDoor.Pure
