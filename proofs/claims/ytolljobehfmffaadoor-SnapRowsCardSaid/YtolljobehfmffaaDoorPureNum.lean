/- A number that fits is its own wrapped one. -/
import Derived.Test.YtolljobehfmffaaDoorPx13
import Derived.Test.YtolljobehfmffaaDoorPx14
import Derived.Lib.Bytes
namespace Go.Proofs.YtolljobehfmffaaDoor.Pure
open Go.RowKit Go.Proofs.YtolljobehfmffaaDoor.P Go.Proofs.YtolljobehfmffaaDoorW.PrintWords Go.Proofs.YtolljobehfmffaaDoorW.PrintLast Go.Proofs.YtolljobehfmffaaDoorW.PrintMore
theorem w64 {x : Int} (h0 : -9223372036854775808 ≤ x) (h1 : x ≤ 9223372036854775807) : wrap64 x = x := by unfold wrap64; omega

theorem wrapsi64 (n : Int) (h0 : 0 ≤ n) (h1 : n < 2 ^ 40) : IntKind.i64.wrap n = n := by rw [IntKind.wrap_i64]; omega
/-- The low 28 bits. -/
theorem low28 {x : Int} (h0 : 0 ≤ x) (h1 : x ≤ 4294967295) : Go.bits .and .i64 (wrap64 x) 268435455 = x % 268435456 := by
  rw [w64 (by omega) (by omega)]
  exact bits_mask .i64 40 (by decide) wrapsi64 28 (by decide) x h0 (by omega)
theorem and127 {x : Int} (h0 : 0 ≤ x) (h1 : x ≤ 255) : Go.bits .and .u8 x 127 = x % 128 :=
  bits_mask .u8 8 (by decide) wraps_u8 7 (by decide) x h0 (by omega)
set_option maxRecDepth 10000 in
theorem or128_256 : ∀ m : Fin 256, (m.val ||| 128) = m.val % 128 + 128 := by decide
theorem or128 {n : Int} (h0 : 0 ≤ n) (h1 : n ≤ 268435455) : (Go.bits .or .i64 n 128) % 256 = n % 128 + 128 := by
  obtain ⟨a, rfl⟩ := Int.eq_ofNat_of_zero_le h0
  have ha : a < 2 ^ 40 := by omega
  rw [show (128 : Int) = ((128 : Nat) : Int) from rfl, (bits_nat .i64 40 (by decide) wrapsi64 a 128 ha (by decide)).2]
  have h2 := Nat.or_mod_two_pow (a := a) (b := 128) (n := 8)
  have h3 := or128_256 ⟨a % 256, by omega⟩
  simp only at h3
  have h4 : (a ||| 128) % 256 = a % 256 % 128 + 128 := by
    rw [show (256 : Nat) = 2 ^ 8 from rfl, h2]; simpa using h3
  omega

/-- The bytes of a number, the lowest seven bits first. -/
def putS : Nat → Int → List Int
  | 0, n => [n % 256]
  | k + 1, n => if n ≥ 128 then (n % 128 + 128) :: putS k (n / 128) else [n % 256]
theorem put_l : ∀ (k : Nat) (n : Int) (out : List Int), 0 ≤ n → n ≤ 268435455 → number_Put.l k n out = out ++ putS k n
  | 0, n, out, _, _ => rfl
  | k + 1, n, out, h0, h1 => by
    unfold number_Put.l putS
    by_cases c : n ≥ 128
    · rw [if_pos c, if_pos c, put_l k _ _ (by omega) (by omega), or128 h0 h1]; simp
    · rw [if_neg c, if_neg c]
theorem put_f {n : Int} (h0 : 0 ≤ n) (h1 : n ≤ 268435455) : number_Put.f n = some (putS 3 n, 0) := by
  unfold number_Put.f
  rw [if_neg (by omega), if_neg (by omega), put_l _ _ _ h0 h1]; rfl
theorem put_no {n : Int} (h : n < 0 ∨ 268435455 < n) : number_Put.f n = some ([], 2) := by
  unfold number_Put.f
  by_cases c : n < 0
  · rw [if_pos c]
  · rw [if_neg c, if_pos (by omega)]

/-- What is taken from bytes: the number, how many they are, the error. -/
def takeS : List Int → Int × Int × Int
  | [] => (0, 0, 7)
  | [a] => if a ≥ 128 then (0, 0, 7) else (a, 1, 0)
  | [a, b] => if a ≥ 128 then if b ≥ 128 then (0, 0, 7) else if b = 0 then (0, 0, 8) else (a - 128 + b * 128, 2, 0) else (a, 1, 0)
  | [a, b, c] => if a ≥ 128 then if b ≥ 128 then if c ≥ 128 then (0, 0, 7) else if c = 0 then (0, 0, 8) else (a - 128 + (b - 128) * 128 + c * 16384, 3, 0) else if b = 0 then (0, 0, 8) else (a - 128 + b * 128, 2, 0) else (a, 1, 0)
  | a :: b :: c :: d :: _ => if a ≥ 128 then if b ≥ 128 then if c ≥ 128 then if d ≥ 128 then (0, 0, 8) else if d = 0 then (0, 0, 8) else (a - 128 + (b - 128) * 128 + (c - 128) * 16384 + d * 2097152, 4, 0) else if c = 0 then (0, 0, 8) else (a - 128 + (b - 128) * 128 + c * 16384, 3, 0) else if b = 0 then (0, 0, 8) else (a - 128 + b * 128, 2, 0) else (a, 1, 0)

/-- Every byte is one. -/
def Bytes (l : List Int) : Prop := ∀ x ∈ l, 0 ≤ x ∧ x ≤ 255
theorem Bytes.rd {l : List Int} (h : Bytes l) {i : Int} (h0 : 0 ≤ i) (h1 : i < l.length) : 0 ≤ rd l i ∧ rd l i ≤ 255 := by
  unfold Go.Proofs.YtolljobehfmffaaDoorW.PrintWords.rd
  rw [List.getD_eq_getElem?_getD, List.getElem?_eq_getElem (by omega)]
  exact h _ (List.getElem_mem _)
theorem shl7 {n c : Int} (i : Nat) (hi : i < 5) (hn0 : 0 ≤ n) (hn : n < 2 ^ (7 * i)) (hc0 : 0 ≤ c) (hc : c < 128) :
    Go.bits .or .i64 n (shl .i64 c (7 * (i : Int))) = n + c * 2 ^ (7 * i) := by
  have e : shl .i64 c (7 * (i : Int)) = c * 2 ^ (7 * i) := by
    unfold shl
    rw [show min (7 * (i : Int)).toNat IntKind.i64.bits = 7 * i from by have : IntKind.i64.bits = 64 := rfl; omega, IntKind.wrap_i64]
    rcases (by omega : i = 0 ∨ i = 1 ∨ i = 2 ∨ i = 3 ∨ i = 4) with rfl | rfl | rfl | rfl | rfl <;> simp <;> omega
  rw [e]
  have hj : ∀ n : Int, 0 ≤ n → n < 2 ^ 60 → IntKind.i64.wrap n = n := by intro n h0 h1; rw [IntKind.wrap_i64]; omega
  have comm : ∀ x y : Int, 0 ≤ x → x < 2 ^ 60 → 0 ≤ y → y < 2 ^ 60 → Go.bits .or .i64 x y = Go.bits .or .i64 y x := by
    intro x y hx hx1 hy hy1
    obtain ⟨a, rfl⟩ := Int.eq_ofNat_of_zero_le hx
    obtain ⟨b, rfl⟩ := Int.eq_ofNat_of_zero_le hy
    rw [(bits_nat .i64 60 (by decide) hj a b (by omega) (by omega)).2, (bits_nat .i64 60 (by decide) hj b a (by omega) (by omega)).2, Nat.or_comm]
  have hb : c * 2 ^ (7 * i) < 2 ^ 60 ∧ 0 ≤ c * 2 ^ (7 * i) ∧ (c * 2 ^ (7 * i)) % 2 ^ (7 * i) = 0 ∧ n < 2 ^ 60 := by
    rcases (by omega : i = 0 ∨ i = 1 ∨ i = 2 ∨ i = 3 ∨ i = 4) with rfl | rfl | rfl | rfl | rfl <;> simp at hn ⊢ <;> omega
  rw [comm n _ hn0 hb.2.2.2 hb.2.1 hb.1, bits_join .i64 60 (by decide) hj (7 * i) (c * 2 ^ (7 * i)) n hb.2.1 hb.2.2.1 hb.1 hn0 hn hb.2.2.2]
  omega
/-- One round of number.Take. -/
theorem take_round (k : Nat) (x0 xs : List Int) (n : Int) (i : Nat) (hx : Bytes xs) (hi : i < 4) (hl : i < xs.length) (hn0 : 0 ≤ n) (hn : n < 2 ^ (7 * i)) :
    number_Take.l0 (k + 1) x0 n xs (xs.length : Int) (i : Int) =
      if xs.getD i 0 ≥ 128 then number_Take.l0 k x0 (n + (xs.getD i 0 - 128) * 2 ^ (7 * i)) xs (xs.length : Int) ((i + 1 : Nat) : Int)
      else if xs.getD i 0 = 0 ∧ 0 < i then some (0, 0, 8) else some (n + xs.getD i 0 * 2 ^ (7 * i), (i : Int) + 1, 0) := by
  have hb := hx.rd (i := i) (by omega) (by omega)
  have e : rd xs (i : Int) = xs.getD i 0 := by simp [Go.Proofs.YtolljobehfmffaaDoorW.PrintWords.rd]
  rw [e] at hb
  generalize hb0 : xs.getD i 0 = b at *
  simp only [number_Take.l0]
  rw [if_pos (by omega), if_pos (by omega), if_pos (by omega), if_neg (by omega), w64 (x := 7 * (i : Int)) (by omega) (by omega), if_pos (by omega), e, and127 hb.1 hb.2, w64 (x := (i : Int) + 1) (by omega) (by omega), w64 (x := b % 128) (by omega) (by omega), shl7 i (by omega) hn0 hn (by omega) (by omega)]
  by_cases c : b ≥ 128
  · rw [if_pos c, if_pos c, show b % 128 = b - 128 from by omega]; rfl
  · rw [if_neg c, if_neg c, show b % 128 = b from by omega]
    by_cases c0 : b = 0
    · rw [if_pos c0]
      by_cases c1 : 0 < i
      · rw [if_pos (by omega), if_pos ⟨c0, c1⟩]
      · rw [if_neg (by omega), if_neg (by simp [c1])]
    · rw [if_neg c0, if_neg (by simp [c0])]
theorem take_end (k : Nat) (x0 xs : List Int) (n i : Int) (hi : (xs.length : Int) ≤ i) : number_Take.l0 (k + 1) x0 n xs (xs.length : Int) i = if (x0.length : Int) ≥ 4 then some (0, 0, 8) else some (0, 0, 7) := by
  simp only [number_Take.l0]; rw [if_neg (by omega)]
theorem take_four (k : Nat) (x0 xs : List Int) (n : Int) (h : 4 < xs.length) : number_Take.l0 (k + 1) x0 n xs (xs.length : Int) ((4 : Nat) : Int) = some (0, 0, 8) := by
  simp only [number_Take.l0]; rw [if_pos (by omega), if_pos (by omega), if_pos (by omega), if_pos (by omega)]
set_option maxRecDepth 10000 in
theorem take_f (k : Nat) (l : List Int) (h : Bytes l) : number_Take.f (k + 6) l = some (takeS l) := by
  unfold number_Take.f
  match l, h with
  | [], h => exact (take_end _ _ _ _ _ (by simp)).trans (by simp [takeS])
  | [a], h =>
    have ha := h a (by simp)
    refine (take_round _ _ _ 0 0 h (by decide) (by simp) (by decide) (by decide)).trans ?_
    simp only [List.getD_cons_zero, takeS]
    by_cases c : a ≥ 128
    · rw [if_pos c, if_pos c, take_end _ _ _ _ _ (by simp), if_neg (by simp)]
    · rw [if_neg c, if_neg c, if_neg (by simp)]; simp
  | [a, b], h =>
    have ha := h a (by simp); have hb := h b (by simp)
    refine (take_round _ _ _ 0 0 h (by decide) (by simp) (by decide) (by decide)).trans ?_
    simp only [List.getD_cons_zero, takeS]
    by_cases c : a ≥ 128
    · rw [if_pos c, if_pos c, take_round _ _ _ _ 1 h (by decide) (by simp) (by omega) (by omega)]
      simp only [List.getD_cons_succ, List.getD_cons_zero]
      by_cases c1 : b ≥ 128
      · rw [if_pos c1, if_pos c1, take_end _ _ _ _ _ (by simp), if_neg (by simp)]
      · rw [if_neg c1, if_neg c1]
        by_cases c2 : b = 0 <;> simp [c2]
    · rw [if_neg c, if_neg c, if_neg (by simp)]; simp
  | [a, b, d], h =>
    have ha := h a (by simp); have hb := h b (by simp); have hd := h d (by simp)
    refine (take_round _ _ _ 0 0 h (by decide) (by simp) (by decide) (by decide)).trans ?_
    simp only [List.getD_cons_zero, takeS]
    by_cases c : a ≥ 128
    · rw [if_pos c, if_pos c, take_round _ _ _ _ 1 h (by decide) (by simp) (by omega) (by omega)]
      simp only [List.getD_cons_succ, List.getD_cons_zero]
      by_cases c1 : b ≥ 128
      · rw [if_pos c1, if_pos c1, take_round _ _ _ _ 2 h (by decide) (by simp) (by omega) (by omega)]
        simp only [List.getD_cons_succ, List.getD_cons_zero]
        by_cases c2 : d ≥ 128
        · rw [if_pos c2, if_pos c2, take_end _ _ _ _ _ (by simp), if_neg (by simp)]
        · rw [if_neg c2, if_neg c2]
          by_cases c3 : d = 0 <;> simp [c3]
      · rw [if_neg c1, if_neg c1]
        by_cases c2 : b = 0 <;> simp [c2]
    · rw [if_neg c, if_neg c, if_neg (by simp)]; simp
  | a :: b :: d :: e :: l, h =>
    have ha := h a (by simp); have hb := h b (by simp); have hd := h d (by simp); have he := h e (by simp)
    refine (take_round _ _ _ 0 0 h (by decide) (by simp) (by decide) (by decide)).trans ?_
    simp only [List.getD_cons_zero, takeS]
    by_cases c : a ≥ 128
    · rw [if_pos c, if_pos c, take_round _ _ _ _ 1 h (by decide) (by simp) (by omega) (by omega)]
      simp only [List.getD_cons_succ, List.getD_cons_zero]
      by_cases c1 : b ≥ 128
      · rw [if_pos c1, if_pos c1, take_round _ _ _ _ 2 h (by decide) (by simp) (by omega) (by omega)]
        simp only [List.getD_cons_succ, List.getD_cons_zero]
        by_cases c2 : d ≥ 128
        · rw [if_pos c2, if_pos c2, take_round _ _ _ _ 3 h (by decide) (by simp) (by omega) (by omega)]
          simp only [List.getD_cons_succ, List.getD_cons_zero]
          by_cases c3 : e ≥ 128
          · rw [if_pos c3, if_pos c3]
            cases l with
            | nil => rw [take_end _ _ _ _ _ (by simp), if_pos (by simp)]
            | cons f l => exact take_four _ _ _ _ (by simp)
          · rw [if_neg c3, if_neg c3]
            by_cases c4 : e = 0 <;> simp [c4]
        · rw [if_neg c2, if_neg c2]
          by_cases c3 : d = 0 <;> simp [c3]
      · rw [if_neg c1, if_neg c1]
        by_cases c2 : b = 0 <;> simp [c2]
    · rw [if_neg c, if_neg c, if_neg (by simp)]; simp
theorem take_ge {K : Nat} (hK : 6 ≤ K) {l : List Int} (h : Bytes l) : number_Take.f K l = some (takeS l) := by
  obtain ⟨k, rfl⟩ : ∃ k, K = k + 6 := ⟨K - 6, by omega⟩
  exact take_f k l h
end Go.Proofs.YtolljobehfmffaaDoor.Pure
