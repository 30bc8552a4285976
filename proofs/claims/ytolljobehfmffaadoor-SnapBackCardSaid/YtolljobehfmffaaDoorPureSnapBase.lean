/- Numbers, texts and rows as bytes: what the code and the reference tell, in plain words. -/
import Derived.Test.YtolljobehfmffaaDoorPx13
import Derived.Test.YtolljobehfmffaaDoorPx14
import Derived.Lib.Bytes
import Derived.Test.YtolljobehfmffaaDoorPx19
import Derived.Test.YtolljobehfmffaaDoorPx21
import Derived.Test.YtolljobehfmffaaDoorPx4
import Derived.Test.YtolljobehfmffaaDoorTextEnc
import Derived.Test.YtolljobehfmffaaDoorPx5
import Derived.Test.YtolljobehfmffaaDoorPx6
import Derived.Test.YtolljobehfmffaaDoorPx7
import Derived.Test.YtolljobehfmffaaDoorPx10
import Derived.Test.YtolljobehfmffaaDoorPx2
import Derived.Test.YtolljobehfmffaaDoorPx15
import Derived.Test.YtolljobehfmffaaDoorPx20
import Derived.Test.YtolljobehfmffaaDoorPx16
import Derived.Test.YtolljobehfmffaaDoorPx17
import Derived.Test.YtolljobehfmffaaDoorPx22
namespace Go.Proofs.YtolljobehfmffaaDoor.Pure
open Go.RowKit Go.Proofs.YtolljobehfmffaaDoor.P Go.Proofs.YtolljobehfmffaaDoorW.PrintWords Go.Proofs.YtolljobehfmffaaDoorW.PrintLast Go.Proofs.YtolljobehfmffaaDoorW.PrintMore
theorem w64 {x : Int} (h0 : -9223372036854775808 ≤ x) (h1 : x ≤ 9223372036854775807) : wrap64 x = x := by unfold wrap64; omega

theorem wrapsi64 (n : Int) (h0 : 0 ≤ n) (h1 : n < 2 ^ 40) : IntKind.i64.wrap n = n := by rw [IntKind.wrap_i64]; omega
/-- The low 28 bits. -/
theorem low28 {x : Int} (h0 : 0 ≤ x) (h1 : x ≤ 4294967295) : Go.bits .and .i64 (wrap64 x) 268435455 = x % 268435456 := by
  rw [w64 (by omega) (by omega)]
  exact bits_mask .i64 40 (by decide) wrapsi64 28 (by decide) x h0 (by omega)
theorem and127 {x : Int} (h0 : 0 ≤ x) (h1 : x ≤ 255) : Go.bits .and .u8 x 127 = x % 128 :=
  bits_mask .u8 8 (by decide) wraps_u8 7 (by decide) x h0 (by omega)
set_option maxRecDepth 10000 in
theorem or128_256 : ∀ m : Fin 256, (m.val ||| 128) = m.val % 128 + 128 := by decide
theorem or128 {n : Int} (h0 : 0 ≤ n) (h1 : n ≤ 268435455) : (Go.bits .or .i64 n 128) % 256 = n % 128 + 128 := by
  obtain ⟨a, rfl⟩ := Int.eq_ofNat_of_zero_le h0
  have ha : a < 2 ^ 40 := by omega
  rw [show (128 : Int) = ((128 : Nat) : Int) from rfl, (bits_nat .i64 40 (by decide) wrapsi64 a 128 ha (by decide)).2]
  have h2 := Nat.or_mod_two_pow (a := a) (b := 128) (n := 8)
  have h3 := or128_256 ⟨a % 256, by omega⟩
  simp only at h3
  have h4 : (a ||| 128) % 256 = a % 256 % 128 + 128 := by
    rw [show (256 : Nat) = 2 ^ 8 from rfl, h2]; simpa using h3
  omega

/-- The bytes of a number, the lowest seven bits first. -/
def putS : Nat → Int → List Int
  | 0, n => [n % 256]
  | k + 1, n => if n ≥ 128 then (n % 128 + 128) :: putS k (n / 128) else [n % 256]
theorem put_l : ∀ (k : Nat) (n : Int) (out : List Int), 0 ≤ n → n ≤ 268435455 → number_Put.l k n out = out ++ putS k n
  | 0, n, out, _, _ => rfl
  | k + 1, n, out, h0, h1 => by
    unfold number_Put.l putS
    by_cases c : n ≥ 128
    · rw [if_pos c, if_pos c, put_l k _ _ (by omega) (by omega), or128 h0 h1]; simp
    · rw [if_neg c, if_neg c]
theorem put_f {n : Int} (h0 : 0 ≤ n) (h1 : n ≤ 268435455) : number_Put.f n = some (putS 3 n, 0) := by
  unfold number_Put.f
  rw [if_neg (by omega), if_neg (by omega), put_l _ _ _ h0 h1]; rfl
theorem put_no {n : Int} (h : n < 0 ∨ 268435455 < n) : number_Put.f n = some ([], 2) := by
  unfold number_Put.f
  by_cases c : n < 0
  · rw [if_pos c]
  · rw [if_neg c, if_pos (by omega)]

/-- What is taken from bytes: the number, how many they are, the error. -/
def takeS : List Int → Int × Int × Int
  | [] => (0, 0, 7)
  | [a] => if a ≥ 128 then (0, 0, 7) else (a, 1, 0)
  | [a, b] => if a ≥ 128 then if b ≥ 128 then (0, 0, 7) else if b = 0 then (0, 0, 8) else (a - 128 + b * 128, 2, 0) else (a, 1, 0)
  | [a, b, c] => if a ≥ 128 then if b ≥ 128 then if c ≥ 128 then (0, 0, 7) else if c = 0 then (0, 0, 8) else (a - 128 + (b - 128) * 128 + c * 16384, 3, 0) else if b = 0 then (0, 0, 8) else (a - 128 + b * 128, 2, 0) else (a, 1, 0)
  | a :: b :: c :: d :: _ => if a ≥ 128 then if b ≥ 128 then if c ≥ 128 then if d ≥ 128 then (0, 0, 8) else if d = 0 then (0, 0, 8) else (a - 128 + (b - 128) * 128 + (c - 128) * 16384 + d * 2097152, 4, 0) else if c = 0 then (0, 0, 8) else (a - 128 + (b - 128) * 128 + c * 16384, 3, 0) else if b = 0 then (0, 0, 8) else (a - 128 + b * 128, 2, 0) else (a, 1, 0)

/-- Every byte is one. -/
def Bytes (l : List Int) : Prop := ∀ x ∈ l, 0 ≤ x ∧ x ≤ 255
theorem Bytes.rd {l : List Int} (h : Bytes l) {i : Int} (h0 : 0 ≤ i) (h1 : i < l.length) : 0 ≤ rd l i ∧ rd l i ≤ 255 := by
  unfold Go.Proofs.YtolljobehfmffaaDoorW.PrintWords.rd
  rw [List.getD_eq_getElem?_getD, List.getElem?_eq_getElem (by omega)]
  exact h _ (List.getElem_mem _)
theorem shl7 {n c : Int} (i : Nat) (hi : i < 5) (hn0 : 0 ≤ n) (hn : n < 2 ^ (7 * i)) (hc0 : 0 ≤ c) (hc : c < 128) :
    Go.bits .or .i64 n (shl .i64 c (7 * (i : Int))) = n + c * 2 ^ (7 * i) := by
  have e : shl .i64 c (7 * (i : Int)) = c * 2 ^ (7 * i) := by
    unfold shl
    rw [show min (7 * (i : Int)).toNat IntKind.i64.bits = 7 * i from by have : IntKind.i64.bits = 64 := rfl; omega, IntKind.wrap_i64]
    rcases (by omega : i = 0 ∨ i = 1 ∨ i = 2 ∨ i = 3 ∨ i = 4) with rfl | rfl | rfl | rfl | rfl <;> simp <;> omega
  rw [e]
  have hj : ∀ n : Int, 0 ≤ n → n < 2 ^ 60 → IntKind.i64.wrap n = n := by intro n h0 h1; rw [IntKind.wrap_i64]; omega
  have comm : ∀ x y : Int, 0 ≤ x → x < 2 ^ 60 → 0 ≤ y → y < 2 ^ 60 → Go.bits .or .i64 x y = Go.bits .or .i64 y x := by
    intro x y hx hx1 hy hy1
    obtain ⟨a, rfl⟩ := Int.eq_ofNat_of_zero_le hx
    obtain ⟨b, rfl⟩ := Int.eq_ofNat_of_zero_le hy
    rw [(bits_nat .i64 60 (by decide) hj a b (by omega) (by omega)).2, (bits_nat .i64 60 (by decide) hj b a (by omega) (by omega)).2, Nat.or_comm]
  have hb : c * 2 ^ (7 * i) < 2 ^ 60 ∧ 0 ≤ c * 2 ^ (7 * i) ∧ (c * 2 ^ (7 * i)) % 2 ^ (7 * i) = 0 ∧ n < 2 ^ 60 := by
    rcases (by omega : i = 0 ∨ i = 1 ∨ i = 2 ∨ i = 3 ∨ i = 4) with rfl | rfl | rfl | rfl | rfl <;> simp at hn ⊢ <;> omega
  rw [comm n _ hn0 hb.2.2.2 hb.2.1 hb.1, bits_join .i64 60 (by decide) hj (7 * i) (c * 2 ^ (7 * i)) n hb.2.1 hb.2.2.1 hb.1 hn0 hn hb.2.2.2]
  omega
/-- One round of number.Take. -/
theorem take_round (k : Nat) (x0 xs : List Int) (n : Int) (i : Nat) (hx : Bytes xs) (hi : i < 4) (hl : i < xs.length) (hn0 : 0 ≤ n) (hn : n < 2 ^ (7 * i)) :
    number_Take.l0 (k + 1) x0 n xs (xs.length : Int) (i : Int) =
      if xs.getD i 0 ≥ 128 then number_Take.l0 k x0 (n + (xs.getD i 0 - 128) * 2 ^ (7 * i)) xs (xs.length : Int) ((i + 1 : Nat) : Int)
      else if xs.getD i 0 = 0 ∧ 0 < i then some (0, 0, 8) else some (n + xs.getD i 0 * 2 ^ (7 * i), (i : Int) + 1, 0) := by
  have hb := hx.rd (i := i) (by omega) (by omega)
  have e : rd xs (i : Int) = xs.getD i 0 := by simp [Go.Proofs.YtolljobehfmffaaDoorW.PrintWords.rd]
  rw [e] at hb
  generalize hb0 : xs.getD i 0 = b at *
  simp only [number_Take.l0]
  rw [if_pos (by omega), if_pos (by omega), if_pos (by omega), if_neg (by omega), w64 (x := 7 * (i : Int)) (by omega) (by omega), if_pos (by omega), e, and127 hb.1 hb.2, w64 (x := (i : Int) + 1) (by omega) (by omega), w64 (x := b % 128) (by omega) (by omega), shl7 i (by omega) hn0 hn (by omega) (by omega)]
  by_cases c : b ≥ 128
  · rw [if_pos c, if_pos c, show b % 128 = b - 128 from by omega]; rfl
  · rw [if_neg c, if_neg c, show b % 128 = b from by omega]
    by_cases c0 : b = 0
    · rw [if_pos c0]
      by_cases c1 : 0 < i
      · rw [if_pos (by omega), if_pos ⟨c0, c1⟩]
      · rw [if_neg (by omega), if_neg (by simp [c1])]
    · rw [if_neg c0, if_neg (by simp [c0])]
theorem take_end (k : Nat) (x0 xs : List Int) (n i : Int) (hi : (xs.length : Int) ≤ i) : number_Take.l0 (k + 1) x0 n xs (xs.length : Int) i = if (x0.length : Int) ≥ 4 then some (0, 0, 8) else some (0, 0, 7) := by
  simp only [number_Take.l0]; rw [if_neg (by omega)]
theorem take_four (k : Nat) (x0 xs : List Int) (n : Int) (h : 4 < xs.length) : number_Take.l0 (k + 1) x0 n xs (xs.length : Int) ((4 : Nat) : Int) = some (0, 0, 8) := by
  simp only [number_Take.l0]; rw [if_pos (by omega), if_pos (by omega), if_pos (by omega), if_pos (by omega)]
set_option maxRecDepth 10000 in
theorem take_f (k : Nat) (l : List Int) (h : Bytes l) : number_Take.f (k + 6) l = some (takeS l) := by
  unfold number_Take.f
  match l, h with
  | [], h => exact (take_end _ _ _ _ _ (by simp)).trans (by simp [takeS])
  | [a], h =>
    have ha := h a (by simp)
    refine (take_round _ _ _ 0 0 h (by decide) (by simp) (by decide) (by decide)).trans ?_
    simp only [List.getD_cons_zero, takeS]
    by_cases c : a ≥ 128
    · rw [if_pos c, if_pos c, take_end _ _ _ _ _ (by simp), if_neg (by simp)]
    · rw [if_neg c, if_neg c, if_neg (by simp)]; simp
  | [a, b], h =>
    have ha := h a (by simp); have hb := h b (by simp)
    refine (take_round _ _ _ 0 0 h (by decide) (by simp) (by decide) (by decide)).trans ?_
    simp only [List.getD_cons_zero, takeS]
    by_cases c : a ≥ 128
    · rw [if_pos c, if_pos c, take_round _ _ _ _ 1 h (by decide) (by simp) (by omega) (by omega)]
      simp only [List.getD_cons_succ, List.getD_cons_zero]
      by_cases c1 : b ≥ 128
      · rw [if_pos c1, if_pos c1, take_end _ _ _ _ _ (by simp), if_neg (by simp)]
      · rw [if_neg c1, if_neg c1]
        by_cases c2 : b = 0 <;> simp [c2]
    · rw [if_neg c, if_neg c, if_neg (by simp)]; simp
  | [a, b, d], h =>
    have ha := h a (by simp); have hb := h b (by simp); have hd := h d (by simp)
    refine (take_round _ _ _ 0 0 h (by decide) (by simp) (by decide) (by decide)).trans ?_
    simp only [List.getD_cons_zero, takeS]
    by_cases c : a ≥ 128
    · rw [if_pos c, if_pos c, take_round _ _ _ _ 1 h (by decide) (by simp) (by omega) (by omega)]
      simp only [List.getD_cons_succ, List.getD_cons_zero]
      by_cases c1 : b ≥ 128
      · rw [if_pos c1, if_pos c1, take_round _ _ _ _ 2 h (by decide) (by simp) (by omega) (by omega)]
        simp only [List.getD_cons_succ, List.getD_cons_zero]
        by_cases c2 : d ≥ 128
        · rw [if_pos c2, if_pos c2, take_end _ _ _ _ _ (by simp), if_neg (by simp)]
        · rw [if_neg c2, if_neg c2]
          by_cases c3 : d = 0 <;> simp [c3]
      · rw [if_neg c1, if_neg c1]
        by_cases c2 : b = 0 <;> simp [c2]
    · rw [if_neg c, if_neg c, if_neg (by simp)]; simp
  | a :: b :: d :: e :: l, h =>
    have ha := h a (by simp); have hb := h b (by simp); have hd := h d (by simp); have he := h e (by simp)
    refine (take_round _ _ _ 0 0 h (by decide) (by simp) (by decide) (by decide)).trans ?_
    simp only [List.getD_cons_zero, takeS]
    by_cases c : a ≥ 128
    · rw [if_pos c, if_pos c, take_round _ _ _ _ 1 h (by decide) (by simp) (by omega) (by omega)]
      simp only [List.getD_cons_succ, List.getD_cons_zero]
      by_cases c1 : b ≥ 128
      · rw [if_pos c1, if_pos c1, take_round _ _ _ _ 2 h (by decide) (by simp) (by omega) (by omega)]
        simp only [List.getD_cons_succ, List.getD_cons_zero]
        by_cases c2 : d ≥ 128
        · rw [if_pos c2, if_pos c2, take_round _ _ _ _ 3 h (by decide) (by simp) (by omega) (by omega)]
          simp only [List.getD_cons_succ, List.getD_cons_zero]
          by_cases c3 : e ≥ 128
          · rw [if_pos c3, if_pos c3]
            cases l with
            | nil => rw [take_end _ _ _ _ _ (by simp), if_pos (by simp)]
            | cons f l => exact take_four _ _ _ _ (by simp)
          · rw [if_neg c3, if_neg c3]
            by_cases c4 : e = 0 <;> simp [c4]
        · rw [if_neg c2, if_neg c2]
          by_cases c3 : d = 0 <;> simp [c3]
      · rw [if_neg c1, if_neg c1]
        by_cases c2 : b = 0 <;> simp [c2]
    · rw [if_neg c, if_neg c, if_neg (by simp)]; simp
theorem take_ge {K : Nat} (hK : 6 ≤ K) {l : List Int} (h : Bytes l) : number_Take.f K l = some (takeS l) := by
  obtain ⟨k, rfl⟩ : ∃ k, K = k + 6 := ⟨K - 6, by omega⟩
  exact take_f k l h


theorem put_cases {n : Int} (h0 : 0 ≤ n) (h1 : n ≤ 268435455) :
    (n < 128 ∧ putS 3 n = [n]) ∨ (128 ≤ n ∧ n < 16384 ∧ putS 3 n = [n % 128 + 128, n / 128]) ∨
    (16384 ≤ n ∧ n < 2097152 ∧ putS 3 n = [n % 128 + 128, n / 128 % 128 + 128, n / 16384]) ∨
    (2097152 ≤ n ∧ putS 3 n = [n % 128 + 128, n / 128 % 128 + 128, n / 16384 % 128 + 128, n / 2097152]) := by
  have d2 : n / 128 / 128 = n / 16384 := by omega
  have d3 : n / 16384 / 128 = n / 2097152 := by omega
  by_cases c : n < 128
  · exact .inl ⟨c, by simp only [putS]; rw [if_neg (by omega), show n % 256 = n from by omega]⟩
  by_cases c1 : n < 16384
  · exact .inr (.inl ⟨by omega, c1, by simp only [putS]; rw [if_pos (by omega), if_neg (by omega), show n / 128 % 256 = n / 128 from by omega]⟩)
  by_cases c2 : n < 2097152
  · exact .inr (.inr (.inl ⟨by omega, c2, by simp only [putS]; rw [if_pos (by omega), if_pos (by omega), if_neg (by omega), d2, show n / 16384 % 256 = n / 16384 from by omega]⟩))
  · exact .inr (.inr (.inr ⟨by omega, by simp only [putS]; rw [if_pos (by omega), if_pos (by omega), if_pos (by omega), d2, d3, show n / 2097152 % 256 = n / 2097152 from by omega]⟩))
theorem put_bytes {n : Int} (h0 : 0 ≤ n) (h1 : n ≤ 268435455) : Bytes (putS 3 n) := by
  intro x hx
  rcases put_cases h0 h1 with ⟨_, e⟩ | ⟨_, _, e⟩ | ⟨_, _, e⟩ | ⟨_, e⟩ <;> rw [e] at hx <;> simp only [List.mem_cons, List.not_mem_nil, or_false] at hx
  · omega
  · rcases hx with rfl | rfl <;> omega
  · rcases hx with rfl | rfl | rfl <;> omega
  · rcases hx with rfl | rfl | rfl | rfl <;> omega
theorem put_len {n : Int} (h0 : 0 ≤ n) (h1 : n ≤ 268435455) : 1 ≤ (putS 3 n).length ∧ (putS 3 n).length ≤ 4 := by
  rcases put_cases h0 h1 with ⟨_, e⟩ | ⟨_, _, e⟩ | ⟨_, _, e⟩ | ⟨_, e⟩ <;> rw [e] <;> simp
/-- What was put is taken, whatever stands behind. -/
theorem take_put {n : Int} (h0 : 0 ≤ n) (h1 : n ≤ 268435455) (l : List Int) : takeS (putS 3 n ++ l) = (n, ((putS 3 n).length : Int), 0) := by
  rcases put_cases h0 h1 with ⟨_, e⟩ | ⟨_, _, e⟩ | ⟨_, _, e⟩ | ⟨_, e⟩ <;> rw [e]
  · rcases l with _ | ⟨a, _ | ⟨b, _ | ⟨c, l⟩⟩⟩ <;> simp only [List.cons_append, List.nil_append, takeS] <;> rw [if_neg (by omega)] <;> rfl
  · rcases l with _ | ⟨a, _ | ⟨b, l⟩⟩ <;> simp only [List.cons_append, List.nil_append, takeS] <;> rw [if_pos (by omega), if_neg (by omega), if_neg (by omega)] <;> refine Prod.ext ?_ rfl <;> simp only [] <;> omega
  · rcases l with _ | ⟨a, l⟩ <;> simp only [List.cons_append, List.nil_append, takeS] <;> rw [if_pos (by omega), if_pos (by omega), if_neg (by omega), if_neg (by omega)] <;> refine Prod.ext ?_ rfl <;> simp only [] <;> omega
  · simp only [List.cons_append, List.nil_append, takeS]; rw [if_pos (by omega), if_pos (by omega), if_pos (by omega), if_neg (by omega), if_neg (by omega)]; refine Prod.ext ?_ rfl; simp only []; omega
/-- No beginning of it is. -/
theorem take_short {n : Int} (h0 : 0 ≤ n) (h1 : n ≤ 268435455) (i : Nat) (hi : i < (putS 3 n).length) : takeS ((putS 3 n).take i) = (0, 0, 7) := by
  rcases put_cases h0 h1 with ⟨_, e⟩ | ⟨_, _, e⟩ | ⟨_, _, e⟩ | ⟨_, e⟩ <;> rw [e] at hi ⊢ <;> simp only [List.length_cons, List.length_nil] at hi
  · obtain rfl : i = 0 := by omega
    rfl
  · rcases (by omega : i = 0 ∨ i = 1) with rfl | rfl
    · rfl
    · simp only [List.take_succ_cons, List.take_zero, takeS]; rw [if_pos (by omega)]
  · rcases (by omega : i = 0 ∨ i = 1 ∨ i = 2) with rfl | rfl | rfl
    · rfl
    · simp only [List.take_succ_cons, List.take_zero, takeS]; rw [if_pos (by omega)]
    · simp only [List.take_succ_cons, List.take_zero, takeS]; rw [if_pos (by omega), if_pos (by omega)]
  · rcases (by omega : i = 0 ∨ i = 1 ∨ i = 2 ∨ i = 3) with rfl | rfl | rfl | rfl
    · rfl
    · simp only [List.take_succ_cons, List.take_zero, takeS]; rw [if_pos (by omega)]
    · simp only [List.take_succ_cons, List.take_zero, takeS]; rw [if_pos (by omega), if_pos (by omega)]
    · simp only [List.take_succ_cons, List.take_zero, takeS]; rw [if_pos (by omega), if_pos (by omega), if_pos (by omega)]
theorem put_inj {n m : Int} (h0 : 0 ≤ n) (h1 : n ≤ 268435455) (k0 : 0 ≤ m) (k1 : m ≤ 268435455) (h : putS 3 n = putS 3 m) : n = m := by
  have a := take_put h0 h1 []
  have b := take_put k0 k1 []
  rw [h, b] at a
  exact (Prod.ext_iff.mp a).1.symm
theorem str_inj : ∀ {a b : List Int}, Bytes a → Bytes b → (strOfNums a).toList = (strOfNums b).toList → a = b
  | [], [], _, _, _ => rfl
  | [], b :: t, _, _, h => by rw [Lib.strOfNums_toList, Lib.strOfNums_toList] at h; simp [Lib.bytesOf] at h
  | a :: t, [], _, _, h => by rw [Lib.strOfNums_toList, Lib.strOfNums_toList] at h; simp [Lib.bytesOf] at h
  | a :: s, b :: t, ha, hb, h => by
    rw [Lib.strOfNums_toList, Lib.strOfNums_toList] at h
    simp only [Lib.bytesOf, List.map_cons, List.cons.injEq] at h
    have ha0 := ha a (by simp); have hb0 := hb b (by simp)
    have e : a = b := by
      have h2 := congrArg UInt8.toNat h.1
      simp only [UInt8.toNat_ofNat'] at h2
      omega
    have r : s = t := str_inj (fun x hx => ha x (by simp [hx])) (fun x hx => hb x (by simp [hx])) (by rw [Lib.strOfNums_toList, Lib.strOfNums_toList]; exact h.2)
    rw [e, r]
theorem bytes_wf {l : List Int} (h : ∀ x ∈ l, (Lit.int .u8 x).wf = true) : Bytes l := fun x hx => by
  have := h x hx
  simp only [Lit.wf, IntKind.min, IntKind.max, IntKind.signed, IntKind.bits, Bool.and_eq_true] at this
  simp at this
  omega
theorem u32_wf {a : Int} (h : (Lit.int .u32 a).wf = true) : 0 ≤ a ∧ a ≤ 4294967295 := by
  simp only [Lit.wf, IntKind.min, IntKind.max, IntKind.signed, IntKind.bits, Bool.and_eq_true] at h
  simp at h
  omega
theorem i64_wf {a : Int} (h : (Lit.int .i64 a).wf = true) : -9223372036854775808 ≤ a ∧ a ≤ 9223372036854775807 := by
  simp only [Lit.wf, IntKind.min, IntKind.max, IntKind.signed, IntKind.bits, Bool.and_eq_true] at h
  simp at h
  omega
theorem rd_zero (a : Int) (l : List Int) : rd (a :: l) 0 = a := rfl
theorem ref_put_l : ∀ (j : Nat) (k : Nat) (n : Int) (out : List Int), 0 ≤ n → n < 128 ^ (j + 1) → out.length + j ≤ 3 → n ≤ 268435455 → j < k → epitomeref02_Put.l0 k n out = some (out ++ putS j n, 0)
  | 0, k, n, out, h0, h1, ho, hn, hk => by
    obtain ⟨k, rfl⟩ : ∃ m, k = m + 1 := ⟨k - 1, by omega⟩
    simp only [epitomeref02_Put.l0, putS]
    rw [if_neg (by omega), if_pos (by omega)]
  | j + 1, k, n, out, h0, h1, ho, hn, hk => by
    obtain ⟨k, rfl⟩ : ∃ m, k = m + 1 := ⟨k - 1, by omega⟩
    simp only [epitomeref02_Put.l0, putS]
    by_cases c : n > 127
    · rw [if_pos c, if_pos (by omega), if_pos (by omega), Int.tdiv_eq_ediv_of_nonneg h0, Int.tmod_eq_emod_of_nonneg h0, w64 (x := n / 128) (by omega) (by omega), w64 (x := 128 + n % 128) (by omega) (by omega), show (128 + n % 128) % 256 = n % 128 + 128 from by omega]
      have h2 : n / 128 < 128 ^ (j + 1) := by rw [Int.pow_succ] at h1; omega
      rw [ref_put_l j k (n / 128) _ (by omega) h2 (by simp only [List.length_append, List.length_cons, List.length_nil]; omega) (by omega) (by omega)]
      simp
    · rw [if_neg c, if_pos (by omega), if_neg (by omega)]
theorem ref_put (k : Nat) (n : Int) : epitomeref02_Put.f (k + 8) n = number_Put.f n := by
  unfold epitomeref02_Put.f
  by_cases c : n < 0
  · rw [if_pos c, put_no (by omega)]; simp only [epitomeref02_Put.j0]; rw [if_pos (by trivial)]
  · rw [if_neg c]
    by_cases c1 : n > 268435455
    · rw [put_no (by omega), decide_eq_true c1]; simp only [epitomeref02_Put.j0]; rw [if_pos (by trivial)]
    · rw [put_f (by omega) (by omega), decide_eq_false c1]
      simp only [epitomeref02_Put.j0]
      rw [if_neg (by decide), ref_put_l 3 _ n [] (by omega) (by omega) (by simp) (by omega) (by omega)]
      rfl
theorem ref_more (k : Nat) (l : List Int) (i : Nat) (h : i < 4) (hl : i < l.length) (c : rd l (i : Int) > 127) : epitomeref02_Take.l0 (k + 1) l (i : Int) = epitomeref02_Take.l0 k l ((i + 1 : Nat) : Int) := by
  simp only [epitomeref02_Take.l0]
  rw [if_pos (by omega), if_pos (by omega), if_pos (by omega), if_pos c, w64 (by omega) (by omega)]; rfl
theorem ref_stop (k : Nat) (l : List Int) (i : Nat) (h : i < 4) (hl : i < l.length) (c : ¬ rd l (i : Int) > 127) : epitomeref02_Take.l0 (k + 1) l (i : Int) = epitomeref02_Take.j1 k l (i : Int) := by
  simp only [epitomeref02_Take.l0]
  rw [if_pos (by omega), if_pos (by omega), if_pos (by omega), if_neg c]
theorem ref_four (k : Nat) (l : List Int) : epitomeref02_Take.l0 (k + 2) l ((4 : Nat) : Int) = some (0, 0, 8) := by
  have e : epitomeref02_Take.j1 (k + 1) l ((4 : Nat) : Int) = some (0, 0, 8) := by simp only [epitomeref02_Take.j1]; rw [if_pos (by omega)]
  simp only [epitomeref02_Take.l0]
  by_cases c : (((4 : Nat) : Int)) < (l.length : Int)
  · rw [if_pos c, if_neg (by omega)]; exact e
  · rw [if_neg c]; exact e
theorem ref_short (k : Nat) (l : List Int) (i : Nat) (_ : i < 4) (hl : i = l.length) : epitomeref02_Take.l0 (k + 2) l (i : Int) = some (0, 0, 7) := by
  simp only [epitomeref02_Take.l0]
  rw [if_neg (by omega)]
  simp only [epitomeref02_Take.j1]
  rw [if_neg (by omega), if_pos (by omega)]
theorem ref_l1 (k : Nat) (l : List Int) (x5 x6 : Int) (i : Nat) (hi : i < 4) (hl : i < l.length) (h0 : 0 ≤ x6) (h1 : x6 < 4294967296) (hb : 0 ≤ rd l (i : Int) ∧ rd l (i : Int) ≤ 255) :
    epitomeref02_Take.l1 (k + 1) l x5 x6 (i : Int) = epitomeref02_Take.l1 k l x5 (x6 * 128 + rd l (i : Int) - 128) ((i : Int) - 1) := by
  simp only [epitomeref02_Take.l1]
  rw [if_pos (by omega), if_pos (by omega), if_pos (by omega), w64 (x := x6 * 128) (by omega) (by omega), w64 (x := rd l (i : Int)) (by omega) (by omega), w64 (x := x6 * 128 + rd l (i : Int)) (by omega) (by omega), w64 (x := x6 * 128 + rd l (i : Int) - 128) (by omega) (by omega), w64 (x := (i : Int) - 1) (by omega) (by omega)]
theorem ref_l1_end (k : Nat) (l : List Int) (i : Nat) (hi : i < 4) (x6 : Int) : epitomeref02_Take.l1 (k + 1) l (i : Int) x6 (((0 : Nat) : Int) - 1) = some (x6, (i : Int) + 1, 0) := by
  simp only [epitomeref02_Take.l1]; rw [if_neg (by omega), w64 (by omega) (by omega)]
theorem ref_j1 (k : Nat) (l : List Int) (i : Nat) (h : i < 4) (hl : i < l.length) (hb : 0 ≤ rd l (i : Int) ∧ rd l (i : Int) ≤ 127) :
    epitomeref02_Take.j1 (k + 2) l (i : Int) = if 0 < i ∧ rd l (i : Int) = 0 then some (0, 0, 8) else epitomeref02_Take.l1 k l (i : Int) (rd l (i : Int)) ((i : Int) - 1) := by
  simp only [epitomeref02_Take.j1]
  rw [if_neg (by omega), if_neg (by omega)]
  have e : ∀ b : Bool, epitomeref02_Take.j2 (k + 1) l (i : Int) b = if b = true then some (0, 0, 8) else epitomeref02_Take.l1 k l (i : Int) (rd l (i : Int)) ((i : Int) - 1) := by
    intro b
    simp only [epitomeref02_Take.j2]
    cases b
    · simp only [Bool.false_eq_true, if_false]
      rw [if_pos (by omega), if_pos (by omega), w64 (x := rd l (i : Int)) (by omega) (by omega), w64 (x := (i : Int) - 1) (by omega) (by omega)]
    · simp only [if_true]
  by_cases c : (i : Int) > 0
  · rw [if_pos c, if_pos (by omega), if_pos (by omega), e]
    by_cases c1 : rd l (i : Int) = 0
    · rw [if_pos (show 0 < i ∧ rd l (i : Int) = 0 from ⟨by omega, c1⟩), if_pos (by simp [c1])]
    · rw [if_neg (show ¬ (0 < i ∧ rd l (i : Int) = 0) from fun h => c1 h.2), if_neg (by simp [c1])]
  · rw [if_neg c, e, if_neg (by decide), if_neg (fun h => c (by omega))]
theorem rd0 (a : Int) (l : List Int) : rd (a :: l) ((0 : Nat) : Int) = a := rfl
theorem rd1 (a b : Int) (l : List Int) : rd (a :: b :: l) ((1 : Nat) : Int) = b := rfl
theorem rd2 (a b c : Int) (l : List Int) : rd (a :: b :: c :: l) ((2 : Nat) : Int) = c := rfl
theorem rd3 (a b c d : Int) (l : List Int) : rd (a :: b :: c :: d :: l) ((3 : Nat) : Int) = d := rfl
theorem ref_one (k : Nat) (a : Int) (l : List Int) (ha : 0 ≤ a) (c : a < 128) : epitomeref02_Take.l0 (k + 12) (a :: l) ((0 : Nat) : Int) = some (a, 1, 0) := by
  rw [ref_stop _ _ 0 (by omega) (by simp) (by rw [rd0]; omega), ref_j1 _ _ 0 (by omega) (by simp) (by rw [rd0]; omega), if_neg (by omega), rd0]
  exact ref_l1_end _ _ 0 (by omega) _
theorem ref_two (k : Nat) (a b : Int) (l : List Int) (ha : 128 ≤ a ∧ a ≤ 255) (hb : 0 ≤ b) (c : b < 128) : epitomeref02_Take.l0 (k + 12) (a :: b :: l) ((0 : Nat) : Int) = if b = 0 then some (0, 0, 8) else some (a - 128 + b * 128, 2, 0) := by
  rw [ref_more _ _ 0 (by omega) (by simp) (by rw [rd0]; omega), ref_stop _ _ 1 (by omega) (by simp) (by rw [rd1]; omega), ref_j1 _ _ 1 (by omega) (by simp) (by rw [rd1]; omega), rd1]
  by_cases e : b = 0
  · rw [if_pos ⟨by omega, e⟩, if_pos e]
  · rw [if_neg (fun h => e h.2), if_neg e, show ((1 : Nat) : Int) - 1 = ((0 : Nat) : Int) from rfl, ref_l1 _ _ _ _ 0 (by omega) (by simp) (by omega) (by omega) (by rw [rd0]; omega), rd0]
    refine (ref_l1_end _ _ _ (by omega) _).trans ?_
    rw [show b * 128 + a - 128 = a - 128 + b * 128 from by omega]; rfl
theorem ref_three (k : Nat) (a b c : Int) (l : List Int) (ha : 128 ≤ a ∧ a ≤ 255) (hb : 128 ≤ b ∧ b ≤ 255) (hc : 0 ≤ c) (h : c < 128) : epitomeref02_Take.l0 (k + 12) (a :: b :: c :: l) ((0 : Nat) : Int) = if c = 0 then some (0, 0, 8) else some (a - 128 + (b - 128) * 128 + c * 16384, 3, 0) := by
  rw [ref_more _ _ 0 (by omega) (by simp) (by rw [rd0]; omega), ref_more _ _ 1 (by omega) (by simp) (by rw [rd1]; omega), ref_stop _ _ 2 (by omega) (by simp) (by rw [rd2]; omega), ref_j1 _ _ 2 (by omega) (by simp) (by rw [rd2]; omega), rd2]
  by_cases e : c = 0
  · rw [if_pos ⟨by omega, e⟩, if_pos e]
  · rw [if_neg (fun h => e h.2), if_neg e, show ((2 : Nat) : Int) - 1 = ((1 : Nat) : Int) from rfl, ref_l1 _ _ _ _ 1 (by omega) (by simp) (by omega) (by omega) (by rw [rd1]; omega), rd1, show ((1 : Nat) : Int) - 1 = ((0 : Nat) : Int) from rfl, ref_l1 _ _ _ _ 0 (by omega) (by simp) (by omega) (by omega) (by rw [rd0]; omega), rd0]
    refine (ref_l1_end _ _ _ (by omega) _).trans ?_
    rw [show (c * 128 + b - 128) * 128 + a - 128 = a - 128 + (b - 128) * 128 + c * 16384 from by omega]; rfl
theorem ref_tetra (k : Nat) (a b c d : Int) (l : List Int) (ha : 128 ≤ a ∧ a ≤ 255) (hb : 128 ≤ b ∧ b ≤ 255) (hc : 128 ≤ c ∧ c ≤ 255) (hd : 0 ≤ d) (h : d < 128) : epitomeref02_Take.l0 (k + 12) (a :: b :: c :: d :: l) ((0 : Nat) : Int) = if d = 0 then some (0, 0, 8) else some (a - 128 + (b - 128) * 128 + (c - 128) * 16384 + d * 2097152, 4, 0) := by
  rw [ref_more _ _ 0 (by omega) (by simp) (by rw [rd0]; omega), ref_more _ _ 1 (by omega) (by simp) (by rw [rd1]; omega), ref_more _ _ 2 (by omega) (by simp) (by rw [rd2]; omega), ref_stop _ _ 3 (by omega) (by simp) (by rw [rd3]; omega), ref_j1 _ _ 3 (by omega) (by simp) (by rw [rd3]; omega), rd3]
  by_cases e : d = 0
  · rw [if_pos ⟨by omega, e⟩, if_pos e]
  · rw [if_neg (fun h => e h.2), if_neg e, show ((3 : Nat) : Int) - 1 = ((2 : Nat) : Int) from rfl, ref_l1 _ _ _ _ 2 (by omega) (by simp) (by omega) (by omega) (by rw [rd2]; omega), rd2, show ((2 : Nat) : Int) - 1 = ((1 : Nat) : Int) from rfl, ref_l1 _ _ _ _ 1 (by omega) (by simp) (by omega) (by omega) (by rw [rd1]; omega), rd1, show ((1 : Nat) : Int) - 1 = ((0 : Nat) : Int) from rfl, ref_l1 _ _ _ _ 0 (by omega) (by simp) (by omega) (by omega) (by rw [rd0]; omega), rd0]
    refine (ref_l1_end _ _ _ (by omega) _).trans ?_
    rw [show ((d * 128 + c - 128) * 128 + b - 128) * 128 + a - 128 = a - 128 + (b - 128) * 128 + (c - 128) * 16384 + d * 2097152 from by omega]; rfl
theorem ite_some {α : Type} (c : Prop) [Decidable c] (a b : α) : (if c then some a else some b) = some (if c then a else b) := by split <;> rfl
theorem ref_take (k : Nat) (l : List Int) (h : Bytes l) : epitomeref02_Take.f (k + 12) l = some (takeS l) := by
  unfold epitomeref02_Take.f
  rw [show (0 : Int) = ((0 : Nat) : Int) from rfl]
  match l, h with
  | [], h => exact ref_short _ _ 0 (by omega) rfl
  | [a], h =>
    have ha := h a (by simp)
    by_cases c : a ≥ 128
    · rw [ref_more _ _ 0 (by omega) (by simp) (by rw [rd0]; omega), ref_short _ _ 1 (by omega) rfl]; simp only [takeS]; rw [if_pos c]
    · rw [ref_one _ _ _ ha.1 (by omega)]; simp only [takeS]; rw [if_neg c]
  | [a, b], h =>
    have ha := h a (by simp); have hb := h b (by simp)
    by_cases c : a ≥ 128
    · by_cases c1 : b ≥ 128
      · rw [ref_more _ _ 0 (by omega) (by simp) (by rw [rd0]; omega), ref_more _ _ 1 (by omega) (by simp) (by rw [rd1]; omega), ref_short _ _ 2 (by omega) rfl]; simp only [takeS]; rw [if_pos c, if_pos c1]
      · rw [ref_two _ _ _ _ (by omega) hb.1 (by omega), ite_some]; simp only [takeS]; rw [if_pos c, if_neg c1]
    · rw [ref_one _ _ _ ha.1 (by omega)]; simp only [takeS]; rw [if_neg c]
  | [a, b, d], h =>
    have ha := h a (by simp); have hb := h b (by simp); have hd := h d (by simp)
    by_cases c : a ≥ 128
    · by_cases c1 : b ≥ 128
      · by_cases c2 : d ≥ 128
        · rw [ref_more _ _ 0 (by omega) (by simp) (by rw [rd0]; omega), ref_more _ _ 1 (by omega) (by simp) (by rw [rd1]; omega), ref_more _ _ 2 (by omega) (by simp) (by rw [rd2]; omega), ref_short _ _ 3 (by omega) rfl]; simp only [takeS]; rw [if_pos c, if_pos c1, if_pos c2]
        · rw [ref_three _ _ _ _ _ (by omega) (by omega) hd.1 (by omega), ite_some]; simp only [takeS]; rw [if_pos c, if_pos c1, if_neg c2]
      · rw [ref_two _ _ _ _ (by omega) hb.1 (by omega), ite_some]; simp only [takeS]; rw [if_pos c, if_neg c1]
    · rw [ref_one _ _ _ ha.1 (by omega)]; simp only [takeS]; rw [if_neg c]
  | a :: b :: d :: e :: l, h =>
    have ha := h a (by simp); have hb := h b (by simp); have hd := h d (by simp); have he := h e (by simp)
    by_cases c : a ≥ 128
    · by_cases c1 : b ≥ 128
      · by_cases c2 : d ≥ 128
        · by_cases c3 : e ≥ 128
          · rw [ref_more _ _ 0 (by omega) (by simp) (by rw [rd0]; omega), ref_more _ _ 1 (by omega) (by simp) (by rw [rd1]; omega), ref_more _ _ 2 (by omega) (by simp) (by rw [rd2]; omega), ref_more _ _ 3 (by omega) (by simp) (by rw [rd3]; omega), ref_four _ _]; simp only [takeS]; rw [if_pos c, if_pos c1, if_pos c2, if_pos c3]
          · rw [ref_tetra _ _ _ _ _ _ (by omega) (by omega) (by omega) he.1 (by omega), ite_some]; simp only [takeS]; rw [if_pos c, if_pos c1, if_pos c2, if_neg c3]
        · rw [ref_three _ _ _ _ _ (by omega) (by omega) hd.1 (by omega), ite_some]; simp only [takeS]; rw [if_pos c, if_pos c1, if_neg c2]
      · rw [ref_two _ _ _ _ (by omega) hb.1 (by omega), ite_some]; simp only [takeS]; rw [if_pos c, if_neg c1]
    · rw [ref_one _ _ _ ha.1 (by omega)]; simp only [takeS]; rw [if_neg c]


/-- How many bytes a code point has; 0: it is none. -/
def sizeS (n : Int) : Int := if n < 0 ∨ 1114111 < n ∨ (55296 ≤ n ∧ n ≤ 57343) then 0 else if n < 128 then 1 else if n < 2048 then 2 else if n < 65536 then 3 else 4
theorem size_f (k : Nat) (n : Int) : epitomeref01_size.f (k + 1) n = some (sizeS n) := by
  have e : ∀ b, epitomeref01_size.j0 (k + 1) n b = if b = true then some 0 else some (if n < 128 then 1 else if n < 2048 then 2 else if n < 65536 then 3 else 4) := by
    intro b
    simp only [epitomeref01_size.j0]
    cases b
    · simp only [Bool.false_eq_true, if_false]
      repeat' split
      all_goals rfl
    · simp only [if_true]
  unfold epitomeref01_size.f sizeS
  by_cases c : n < 0
  · rw [if_pos c, if_pos (.inl c), e, if_pos rfl]
  · rw [if_neg c]
    by_cases c1 : n > 1114111
    · rw [if_pos c1, if_pos (.inr (.inl c1)), e, if_pos rfl]
    · rw [if_neg c1]
      by_cases c2 : n ≥ 55296
      · rw [if_pos c2, e]
        by_cases c3 : n ≤ 57343
        · rw [if_pos (by simpa using c3), if_pos (.inr (.inr ⟨c2, c3⟩))]
        · rw [if_neg (by simpa using c3), if_neg (show ¬ (n < 0 ∨ 1114111 < n ∨ (55296 ≤ n ∧ n ≤ 57343)) by omega)]
      · rw [if_neg c2, e, if_neg (by decide), if_neg (show ¬ (n < 0 ∨ 1114111 < n ∨ (55296 ≤ n ∧ n ≤ 57343)) by omega)]

theorem bt_get (s : ByteArray) (i : Nat) : bt s (i : Int) = ((s.data.toList.getD i 0).toNat : Int) := by
  unfold bt
  rw [Int.toNat_natCast]
  split
  · rename_i h
    rw [List.getD_eq_getElem?_getD, List.getElem?_eq_getElem (by rw [Array.length_toList]; exact h)]
    rfl
  · rename_i h
    rw [List.getD_eq_getElem?_getD, List.getElem?_eq_none (by rw [Array.length_toList]; exact Nat.le_of_not_lt h)]
    rfl
theorem size_list (s : ByteArray) : s.data.toList.length = s.size := by rw [Array.length_toList]; rfl

/-- What first tells, of the length and the first four bytes: the model's decoder, and (0, 0) where that fails. -/
def firstS (n b0 b1 b2 b3 : Nat) : Int × Int := if Lib.decodeN n b0 b1 b2 b3 = (65533, 1) then (0, 0) else (((Lib.decodeN n b0 b1 b2 b3).1 : Int), ((Lib.decodeN n b0 b1 b2 b3).2 : Int))

/-- One round of first's loop. -/
theorem first_round (k : Nat) (s : ByteArray) (m c : Int) (i : Nat) (hs : s.size ≤ 9223372036854775806) (hi : (i : Int) ≤ m) (hl : i < s.size) (hc0 : 0 ≤ c) (hc : c < 16777216) :
    epitomeref01_first.l0 (k + 1) s m c (i : Int) = if bt s (i : Int) < 128 ∨ 191 < bt s (i : Int) then some (0, 0) else epitomeref01_first.l0 k s m (c * 64 + bt s (i : Int) - 128) ((i + 1 : Nat) : Int) := by
  have hb := bt_range s (i : Int)
  simp only [epitomeref01_first.l0]
  rw [if_pos hi, if_pos (by omega), if_pos (by omega), w64 (x := bt s (i : Int)) (by omega) (by omega), w64 (x := c * 64) (by omega) (by omega), w64 (x := c * 64 + bt s (i : Int)) (by omega) (by omega), w64 (x := c * 64 + bt s (i : Int) - 128) (by omega) (by omega), w64 (x := (i : Int) + 1) (by omega) (by omega)]
  by_cases c1 : bt s (i : Int) < 128
  · rw [if_pos c1, if_pos (.inl c1)]
  · rw [if_neg c1]
    by_cases c2 : bt s (i : Int) > 191
    · rw [if_pos c2, if_pos (.inr c2)]
    · rw [if_neg c2, if_neg (by omega)]; rfl
theorem first_end (k : Nat) (s : ByteArray) (m : Nat) (c : Int) (i : Int) (hm : m < 8) (hi : ¬ i ≤ (m : Int)) :
    epitomeref01_first.l0 (k + 2) s (m : Int) c i = if sizeS c = (m : Int) + 1 then some (c, (m : Int) + 1) else some (0, 0) := by
  simp only [epitomeref01_first.l0]
  rw [if_neg hi, size_f, w64 (by omega) (by omega)]
  rfl
set_option maxHeartbeats 2000000 in
theorem first_f (k : Nat) (s : ByteArray) (h0 : 0 < s.size) (hs : s.size ≤ 9223372036854775806) :
    epitomeref01_first.f (k + 12) s = some (firstS s.size (s.data.toList.getD 0 0).toNat (s.data.toList.getD 1 0).toNat (s.data.toList.getD 2 0).toNat (s.data.toList.getD 3 0).toNat) := by
  have e0 := bt_get s 0
  have e1 := bt_get s 1
  have e2 := bt_get s 2
  have e3 := bt_get s 3
  have hb0 : (s.data.toList.getD 0 0).toNat < 256 := (s.data.toList.getD 0 0).toNat_lt
  have hb1 : (s.data.toList.getD 1 0).toNat < 256 := (s.data.toList.getD 1 0).toNat_lt
  have hb2 : (s.data.toList.getD 2 0).toNat < 256 := (s.data.toList.getD 2 0).toNat_lt
  have hb3 : (s.data.toList.getD 3 0).toNat < 256 := (s.data.toList.getD 3 0).toNat_lt
  generalize (s.data.toList.getD 0 0).toNat = b0 at *
  generalize (s.data.toList.getD 1 0).toNat = b1 at *
  generalize (s.data.toList.getD 2 0).toNat = b2 at *
  generalize (s.data.toList.getD 3 0).toNat = b3 at *
  unfold epitomeref01_first.f
  rw [if_neg (by omega), if_pos (by omega), show (0 : Int) = ((0 : Nat) : Int) from rfl, e0, w64 (by omega) (by omega)]
  -- the lead byte settles how many follow
  have lead : (if (b0 : Int) ≥ 240 then epitomeref01_first.j0 (k + 12) s (b0 : Int) ((0 : Nat) : Int) (b0 : Int) (decide ((b0 : Int) < 248)) else epitomeref01_first.j0 (k + 12) s (b0 : Int) ((0 : Nat) : Int) (b0 : Int) false) =
      if 240 ≤ b0 ∧ b0 < 248 then epitomeref01_first.j3 (k + 11) s 3 ((b0 : Int) - 240)
      else if 224 ≤ b0 ∧ b0 < 240 then epitomeref01_first.j3 (k + 10) s 2 ((b0 : Int) - 224)
      else if 192 ≤ b0 ∧ b0 < 224 then epitomeref01_first.j3 (k + 9) s 1 ((b0 : Int) - 192)
      else if 128 ≤ b0 then some (0, 0) else epitomeref01_first.j3 (k + 9) s 0 (b0 : Int) := by
    rcases (by omega : b0 < 128 ∨ (128 ≤ b0 ∧ b0 < 192) ∨ (192 ≤ b0 ∧ b0 < 224) ∨ (224 ≤ b0 ∧ b0 < 240) ∨ (240 ≤ b0 ∧ b0 < 248) ∨ 248 ≤ b0) with g | g | g | g | g | g
    · rw [if_neg (by omega), if_neg (by omega), if_neg (by omega), if_neg (by omega), if_neg (by omega)]
      simp only [epitomeref01_first.j0, Bool.false_eq_true, if_false]
      rw [if_neg (by omega)]
      simp only [epitomeref01_first.j1, Bool.false_eq_true, if_false]
      rw [if_neg (by omega)]
      simp only [epitomeref01_first.j2, Bool.false_eq_true, if_false]
      rw [if_neg (by omega)]; rfl
    · rw [if_neg (by omega), if_neg (by omega), if_neg (by omega), if_neg (by omega), if_pos (by omega)]
      simp only [epitomeref01_first.j0, Bool.false_eq_true, if_false]
      rw [if_neg (by omega)]
      simp only [epitomeref01_first.j1, Bool.false_eq_true, if_false]
      rw [if_neg (by omega)]
      simp only [epitomeref01_first.j2, Bool.false_eq_true, if_false]
      rw [if_pos (by omega)]
    · rw [if_neg (by omega), if_neg (by omega), if_neg (by omega), if_pos (by omega)]
      simp only [epitomeref01_first.j0, Bool.false_eq_true, if_false]
      rw [if_neg (by omega)]
      simp only [epitomeref01_first.j1, Bool.false_eq_true, if_false]
      rw [if_pos (by omega), decide_eq_true (by omega)]
      simp only [epitomeref01_first.j2, if_true]
      rw [w64 (by omega) (by omega)]
    · rw [if_neg (by omega), if_neg (by omega), if_pos (by omega)]
      simp only [epitomeref01_first.j0, Bool.false_eq_true, if_false]
      rw [if_pos (by omega), decide_eq_true (by omega)]
      simp only [epitomeref01_first.j1, if_true]
      rw [w64 (by omega) (by omega)]
    · rw [if_pos (by omega), if_pos (by omega), decide_eq_true (by omega)]
      simp only [epitomeref01_first.j0, if_true]
      rw [w64 (by omega) (by omega)]
    · rw [if_pos (by omega), if_neg (by omega), if_neg (by omega), if_neg (by omega), if_pos (by omega), decide_eq_false (by omega)]
      simp only [epitomeref01_first.j0, Bool.false_eq_true, if_false]
      rw [if_pos (by omega), decide_eq_false (by omega)]
      simp only [epitomeref01_first.j1, Bool.false_eq_true, if_false]
      rw [if_pos (by omega), decide_eq_false (by omega)]
      simp only [epitomeref01_first.j2, Bool.false_eq_true, if_false]
      rw [if_pos (by omega)]
  rw [lead]
  clear lead
  unfold firstS
  rcases (by omega : b0 < 128 ∨ (128 ≤ b0 ∧ b0 < 192) ∨ (192 ≤ b0 ∧ b0 < 224) ∨ (224 ≤ b0 ∧ b0 < 240) ∨ (240 ≤ b0 ∧ b0 < 248) ∨ 248 ≤ b0) with g | g | g | g | g | g
  · rw [if_neg (by omega), if_neg (by omega), if_neg (by omega), if_neg (by omega)]
    simp only [epitomeref01_first.j3]
    rw [w64 (by omega) (by omega), if_neg (by omega), show (0 : Int) = ((0 : Nat) : Int) from rfl]
    rw [show epitomeref01_first.l0 (k + 8) s ((0 : Nat) : Int) (b0 : Int) 1 = _ from first_end (k + 6) s 0 (b0 : Int) 1 (by omega) (by omega)]
    have e : Lib.decodeN s.size b0 b1 b2 b3 = (b0, 1) := Lib.decodeN_ascii _ _ _ _ _ g
    have z : sizeS (b0 : Int) = 1 := by unfold sizeS; rw [if_neg (by omega), if_pos (by omega)]
    rw [z, if_pos (by rfl), e, if_neg (by simp; omega)]
    rfl
  · rw [if_neg (by omega), if_neg (by omega), if_neg (by omega), if_pos (by omega)]
    have e : Lib.decodeN s.size b0 b1 b2 b3 = (65533, 1) := by unfold Lib.decodeN; rw [if_neg (by omega), if_neg (by omega), if_neg (by omega), if_neg (by omega)]
    rw [e, if_pos rfl]
  · rw [if_neg (by omega), if_neg (by omega), if_pos (by omega)]
    simp only [epitomeref01_first.j3]
    rw [w64 (by omega) (by omega)]
    by_cases n1 : s.size < 2
    · rw [if_pos (by omega)]
      have e : Lib.decodeN s.size b0 b1 b2 b3 = (65533, 1) := by unfold Lib.decodeN; rw [if_neg (by omega), if_neg (by omega), if_neg (by omega), if_neg (by omega)]
      rw [e, if_pos rfl]
    · rw [if_neg (by omega), show (1 : Int) = ((1 : Nat) : Int) from rfl, first_round _ s _ _ 1 hs (by omega) (by omega) (by omega) (by omega), e1]
      by_cases c1 : (b1 : Int) < 128 ∨ 191 < (b1 : Int)
      · rw [if_pos c1]
        have e : Lib.decodeN s.size b0 b1 b2 b3 = (65533, 1) := by unfold Lib.decodeN; rw [if_neg (by omega), if_neg (by omega), if_neg (by omega), if_neg (by omega)]
        rw [e, if_pos rfl]
      · rw [if_neg c1, first_end _ s 1 _ _ (by omega) (by omega)]
        have e : Lib.decodeN s.size b0 b1 b2 b3 = if b0 % 32 * 64 + b1 % 64 ≥ 128 then (b0 % 32 * 64 + b1 % 64, 2) else (65533, 1) := by unfold Lib.decodeN; rw [if_neg (by omega), if_pos (by omega)]
        rw [e]
        clear e
        by_cases v : b0 % 32 * 64 + b1 % 64 ≥ 128
        · have z : sizeS (((b0 : Int) - 192) * 64 + (b1 : Int) - 128) = ((1 : Nat) : Int) + 1 := by unfold sizeS; rw [if_neg (by omega), if_neg (by omega), if_pos (by omega)]; rfl
          rw [if_pos z, if_pos v, if_neg (by simp)]
          refine congrArg some (Prod.ext ?_ ?_) <;> simp only [] <;> omega
        · have z : ¬ sizeS (((b0 : Int) - 192) * 64 + (b1 : Int) - 128) = ((1 : Nat) : Int) + 1 := by unfold sizeS; rw [if_neg (by omega), if_pos (by omega)]; omega
          rw [if_neg z, if_neg v, if_pos rfl]
  · rw [if_neg (by omega), if_pos (by omega)]
    simp only [epitomeref01_first.j3]
    rw [w64 (by omega) (by omega)]
    by_cases n1 : s.size < 3
    · rw [if_pos (by omega)]
      have e : Lib.decodeN s.size b0 b1 b2 b3 = (65533, 1) := by unfold Lib.decodeN; rw [if_neg (by omega), if_neg (by omega), if_neg (by omega), if_neg (by omega)]
      rw [e, if_pos rfl]
    · rw [if_neg (by omega), show (1 : Int) = ((1 : Nat) : Int) from rfl, first_round _ s _ _ 1 hs (by omega) (by omega) (by omega) (by omega), e1]
      by_cases c1 : (b1 : Int) < 128 ∨ 191 < (b1 : Int)
      · rw [if_pos c1]
        have e : Lib.decodeN s.size b0 b1 b2 b3 = (65533, 1) := by unfold Lib.decodeN; rw [if_neg (by omega), if_neg (by omega), if_neg (by omega), if_neg (by omega)]
        rw [e, if_pos rfl]
      · rw [if_neg c1, show ((1 + 1 : Nat) : Int) = ((2 : Nat) : Int) from rfl, first_round _ s _ _ 2 hs (by omega) (by omega) (by omega) (by omega), e2]
        by_cases c2 : (b2 : Int) < 128 ∨ 191 < (b2 : Int)
        · rw [if_pos c2]
          have e : Lib.decodeN s.size b0 b1 b2 b3 = (65533, 1) := by unfold Lib.decodeN; rw [if_neg (by omega), if_neg (by omega), if_neg (by omega), if_neg (by omega)]
          rw [e, if_pos rfl]
        · rw [if_neg c2, show (2 : Int) = ((2 : Nat) : Int) from rfl, first_end _ s 2 _ _ (by omega) (by omega)]
          have e : Lib.decodeN s.size b0 b1 b2 b3 = if b0 % 16 * 4096 + b1 % 64 * 64 + b2 % 64 ≥ 2048 ∧ (b0 % 16 * 4096 + b1 % 64 * 64 + b2 % 64 < 55296 ∨ (57344 ≤ b0 % 16 * 4096 + b1 % 64 * 64 + b2 % 64 ∧ b0 % 16 * 4096 + b1 % 64 * 64 + b2 % 64 ≤ 1114111)) then (b0 % 16 * 4096 + b1 % 64 * 64 + b2 % 64, 3) else (65533, 1) := by unfold Lib.decodeN; rw [if_neg (by omega), if_neg (by omega), if_pos (by omega)]
          rw [e]
          clear e
          by_cases v : b0 % 16 * 4096 + b1 % 64 * 64 + b2 % 64 ≥ 2048 ∧ (b0 % 16 * 4096 + b1 % 64 * 64 + b2 % 64 < 55296 ∨ (57344 ≤ b0 % 16 * 4096 + b1 % 64 * 64 + b2 % 64 ∧ b0 % 16 * 4096 + b1 % 64 * 64 + b2 % 64 ≤ 1114111))
          · have z : sizeS ((((b0 : Int) - 224) * 64 + (b1 : Int) - 128) * 64 + (b2 : Int) - 128) = ((2 : Nat) : Int) + 1 := by unfold sizeS; rw [if_neg (by omega), if_neg (by omega), if_neg (by omega), if_pos (by omega)]; rfl
            rw [if_pos z, if_pos v, if_neg (by simp)]
            refine congrArg some (Prod.ext ?_ ?_) <;> simp only [] <;> omega
          · have z : ¬ sizeS ((((b0 : Int) - 224) * 64 + (b1 : Int) - 128) * 64 + (b2 : Int) - 128) = ((2 : Nat) : Int) + 1 := by
              unfold sizeS
              split
              · omega
              · split
                · omega
                · rw [if_pos (by omega)]; omega
            rw [if_neg z, if_neg v, if_pos rfl]
  · rw [if_pos (by omega)]
    simp only [epitomeref01_first.j3]
    rw [w64 (by omega) (by omega)]
    by_cases n1 : s.size < 4
    · rw [if_pos (by omega)]
      have e : Lib.decodeN s.size b0 b1 b2 b3 = (65533, 1) := by unfold Lib.decodeN; rw [if_neg (by omega), if_neg (by omega), if_neg (by omega), if_neg (by omega)]
      rw [e, if_pos rfl]
    · rw [if_neg (by omega), show (1 : Int) = ((1 : Nat) : Int) from rfl, first_round _ s _ _ 1 hs (by omega) (by omega) (by omega) (by omega), e1]
      by_cases c1 : (b1 : Int) < 128 ∨ 191 < (b1 : Int)
      · rw [if_pos c1]
        have e : Lib.decodeN s.size b0 b1 b2 b3 = (65533, 1) := by unfold Lib.decodeN; rw [if_neg (by omega), if_neg (by omega), if_neg (by omega), if_neg (by omega)]
        rw [e, if_pos rfl]
      · rw [if_neg c1, show ((1 + 1 : Nat) : Int) = ((2 : Nat) : Int) from rfl, first_round _ s _ _ 2 hs (by omega) (by omega) (by omega) (by omega), e2]
        by_cases c2 : (b2 : Int) < 128 ∨ 191 < (b2 : Int)
        · rw [if_pos c2]
          have e : Lib.decodeN s.size b0 b1 b2 b3 = (65533, 1) := by unfold Lib.decodeN; rw [if_neg (by omega), if_neg (by omega), if_neg (by omega), if_neg (by omega)]
          rw [e, if_pos rfl]
        · rw [if_neg c2, show ((2 + 1 : Nat) : Int) = ((3 : Nat) : Int) from rfl, first_round _ s _ _ 3 hs (by omega) (by omega) (by omega) (by omega), e3]
          by_cases c3 : (b3 : Int) < 128 ∨ 191 < (b3 : Int)
          · rw [if_pos c3]
            have e : Lib.decodeN s.size b0 b1 b2 b3 = (65533, 1) := by unfold Lib.decodeN; rw [if_neg (by omega), if_neg (by omega), if_neg (by omega), if_neg (by omega)]
            rw [e, if_pos rfl]
          · rw [if_neg c3, show (3 : Int) = ((3 : Nat) : Int) from rfl, first_end _ s 3 _ _ (by omega) (by omega)]
            have e : Lib.decodeN s.size b0 b1 b2 b3 = if b0 % 8 * 262144 + b1 % 64 * 4096 + b2 % 64 * 64 + b3 % 64 ≥ 65536 ∧ (b0 % 8 * 262144 + b1 % 64 * 4096 + b2 % 64 * 64 + b3 % 64 < 55296 ∨ (57344 ≤ b0 % 8 * 262144 + b1 % 64 * 4096 + b2 % 64 * 64 + b3 % 64 ∧ b0 % 8 * 262144 + b1 % 64 * 4096 + b2 % 64 * 64 + b3 % 64 ≤ 1114111)) then (b0 % 8 * 262144 + b1 % 64 * 4096 + b2 % 64 * 64 + b3 % 64, 4) else (65533, 1) := by unfold Lib.decodeN; rw [if_neg (by omega), if_neg (by omega), if_neg (by omega), if_pos (by omega)]
            rw [e]
            clear e
            by_cases v : b0 % 8 * 262144 + b1 % 64 * 4096 + b2 % 64 * 64 + b3 % 64 ≥ 65536 ∧ (b0 % 8 * 262144 + b1 % 64 * 4096 + b2 % 64 * 64 + b3 % 64 < 55296 ∨ (57344 ≤ b0 % 8 * 262144 + b1 % 64 * 4096 + b2 % 64 * 64 + b3 % 64 ∧ b0 % 8 * 262144 + b1 % 64 * 4096 + b2 % 64 * 64 + b3 % 64 ≤ 1114111))
            · have z : sizeS (((((b0 : Int) - 240) * 64 + (b1 : Int) - 128) * 64 + (b2 : Int) - 128) * 64 + (b3 : Int) - 128) = ((3 : Nat) : Int) + 1 := by unfold sizeS; rw [if_neg (by omega), if_neg (by omega), if_neg (by omega), if_neg (by omega)]; rfl
              rw [if_pos z, if_pos v, if_neg (by simp)]
              refine congrArg some (Prod.ext ?_ ?_) <;> simp only [] <;> omega
            · have z : ¬ sizeS (((((b0 : Int) - 240) * 64 + (b1 : Int) - 128) * 64 + (b2 : Int) - 128) * 64 + (b3 : Int) - 128) = ((3 : Nat) : Int) + 1 := by
                unfold sizeS
                split
                · omega
                · split
                  · omega
                  · split
                    · omega
                    · rw [if_pos (by omega)]; omega
              rw [if_neg z, if_neg v, if_pos rfl]
  · rw [if_neg (by omega), if_neg (by omega), if_neg (by omega), if_pos (by omega)]
    have e : Lib.decodeN s.size b0 b1 b2 b3 = (65533, 1) := by unfold Lib.decodeN; rw [if_neg (by omega), if_neg (by omega), if_neg (by omega), if_neg (by omega)]
    rw [e, if_pos rfl]


theorem first_at (k : Nat) (s : ByteArray) (p : Nat) (hp : p < s.size) (hs : s.size ≤ 9223372036854775806) :
    epitomeref01_first.f (k + 12) (s.extract p s.size) = some (if Utf8.decode s p = (65533, 1) then (0, 0) else (((Utf8.decode s p).1 : Int), ((Utf8.decode s p).2 : Int))) := by
  have z : (s.extract p s.size).size = s.size - p := by rw [ByteArray.size_extract]; omega
  have hl : (s.extract p s.size).data.toList = s.data.toList.drop p := by
    rw [extract_list, List.take_of_length_le (by rw [size_list]; omega)]
  rw [first_f k _ (by omega) (by omega), firstS, hl]
  have e : Lib.decodeN (s.extract p s.size).size ((s.data.toList.drop p).getD 0 0).toNat ((s.data.toList.drop p).getD 1 0).toNat ((s.data.toList.drop p).getD 2 0).toNat ((s.data.toList.drop p).getD 3 0).toNat = Utf8.decode s p := by
    rw [← Lib.decodeL_drop, Lib.decodeL_N, z]
    rw [show (s.data.toList.drop p).length = s.size - p by rw [List.length_drop, size_list]]
  rw [e]

theorem valid_at (s : ByteArray) (p : Nat) (hp : p < s.size) :
    Lib.validD (s.data.toList.drop p) = if Utf8.decode s p = (65533, 1) then false else Lib.validD (s.data.toList.drop (p + (Utf8.decode s p).2)) := by
  have hne : s.data.toList.drop p ≠ [] := by
    intro e0
    have := congrArg List.length e0
    rw [List.length_drop, size_list, List.length_nil] at this
    omega
  rw [Lib.validD_step _ hne, Lib.decodeL_drop, List.drop_drop]
  by_cases c : Utf8.decode s p = (65533, 1)
  · rw [if_pos c, c]; rfl
  · rw [if_neg c, if_neg]
    rintro ⟨h1, h2⟩
    exact c (Prod.ext h1 h2)

def startsL (s : ByteArray) (n : Nat) : List Int := (List.range n).map fun k => (posT s k : Int)
theorem startsL_len (s : ByteArray) (n : Nat) : (startsL s n).length = n := by simp [startsL]
theorem startsL_succ (s : ByteArray) (n : Nat) : startsL s (n + 1) = startsL s n ++ [(posT s n : Int)] := by simp [startsL, List.range_succ]
theorem startsL_at (s : ByteArray) (n : Nat) (i : Int) (h0 : 0 ≤ i) (h1 : i < n) : rd (startsL s n) i = (posT s i.toNat : Int) := by
  unfold rd startsL
  rw [List.getD_eq_getElem?_getD, List.getElem?_map, List.getElem?_range (by omega)]
  rfl
/-- Where code points begin, as the reference has it. -/
def startsS (s : ByteArray) : List Int × Bool := if validT s then (startsL s (Lib.runeCount s + 1), true) else ([], false)

theorem starts_l (s : ByteArray) (hs : s.size ≤ 17592186044414) : ∀ (d j k : Nat), s.size - posT s j = d → d + 14 ≤ k → j ≤ posT s j → validT s = Lib.validD (s.data.toList.drop (posT s j)) →
    (∃ b, j + Lib.runeCountFrom s b (posT s j) = Lib.runeCount s ∧ s.size ≤ posT s j + b) → epitomeref01_Starts.l0 k s (startsL s (j + 1)) (posT s j : Int) = some (startsS s) := by
  intro d
  induction d using Nat.strongRecOn with
  | _ d ih =>
    intro j k hd hk hj hv hb
    obtain ⟨k, rfl⟩ : ∃ m, k = m + 1 := ⟨k - 1, by omega⟩
    have hp0 := posT_le s j
    simp only [epitomeref01_Starts.l0]
    by_cases c : posT s j < s.size
    · rw [if_pos (by omega), if_pos (by omega), if_pos (by omega), Int.toNat_natCast]
      obtain ⟨m, rfl⟩ : ∃ m, k = m + 12 := ⟨k - 12, by omega⟩
      rw [first_at m s _ c (by omega), Option.bind_some]
      have hw := Lib.decode_width_pos s _ c
      have hpos : posT s (j + 1) = posT s j + (Utf8.decode s (posT s j)).2 := by rw [posT, if_pos c]
      have hle := posT_le s (j + 1)
      rw [valid_at s _ c] at hv
      by_cases g : Utf8.decode s (posT s j) = (65533, 1)
      · rw [if_pos g] at hv ⊢
        rw [if_pos rfl]
        unfold startsS
        rw [hv]; rfl
      · rw [if_neg g] at hv ⊢
        rw [if_neg (show ¬ (((Utf8.decode s (posT s j)).2 : Int) = 0) by omega), if_pos (by rw [startsL_len]; omega)]
        rw [w64 (by omega) (by omega), show ((posT s j : Int) + ((Utf8.decode s (posT s j)).2 : Int)) = (posT s (j + 1) : Int) by omega, ← startsL_succ]
        obtain ⟨b, hb1, hb2⟩ := hb
        obtain ⟨r1, r2⟩ := runeCount_from s j b hb1 hb2 c
        exact ih _ (by omega) (j + 1) _ rfl (by omega) (by omega) (by rw [hv, hpos]) ⟨b - 1, r1, r2⟩
    · rw [if_neg (by omega)]
      obtain ⟨b, hb1, hb2⟩ := hb
      have he := posT_end s c
      have hz : Lib.runeCountFrom s b (posT s j) = 0 := by
        cases b with
        | zero => rfl
        | succ b => simp only [Lib.runeCountFrom]; rw [if_neg c]
      rw [hz] at hb1
      rw [List.drop_of_length_le (by rw [size_list]; omega)] at hv
      unfold startsS
      rw [hv, show j = Lib.runeCount s by omega]; rfl
theorem starts_f (s : ByteArray) (hs : s.size ≤ 17592186044414) (k : Nat) (hk : s.size + 14 ≤ k) : epitomeref01_Starts.f k s = some (startsS s) :=
  starts_l s hs s.size 0 k (by rw [posT]; omega) (by omega) (Nat.zero_le _) (by rw [posT]; rfl) ⟨s.size, by rw [posT]; simp only [Nat.zero_add]; rfl, by rw [posT]; omega⟩

theorem refValid (s : ByteArray) (hs : s.size ≤ 17592186044414) (k : Nat) (hk : s.size + 14 ≤ k) : epitomeref01_Valid.f k s = some (validT s) := by
  unfold epitomeref01_Valid.f
  rw [starts_f s hs k hk, Option.bind_some, startsS]
  cases validT s <;> rfl
theorem refCount (s : ByteArray) (hs : s.size ≤ 17592186044414) (k : Nat) (hk : s.size + 14 ≤ k) : epitomeref01_Count.f k s = some (countT s) := by
  have hc := runeCount_lt s
  unfold epitomeref01_Count.f countT
  rw [starts_f s hs k hk, Option.bind_some, startsS]
  cases validT s
  · simp only [Bool.false_eq_true, if_false, List.length_nil]; rw [w64 (by omega) (by omega)]; rfl
  · simp only [if_true, startsL_len]
    rw [w64 (by omega) (by omega)]
    refine congrArg some ?_
    omega
theorem refCut (s : ByteArray) (hs : s.size ≤ 17592186044414) (k : Nat) (hk : s.size + 14 ≤ k) (a b : Int) : epitomeref01_Cut.f k s a b = some (cutF s a b) := by
  have hc := runeCount_lt s
  unfold epitomeref01_Cut.f cutF countT
  rw [starts_f s hs k hk, Option.bind_some, startsS]
  cases validT s
  · rfl
  · simp only [if_true, startsL_len]
    rw [w64 (by omega) (by omega), if_neg (show ¬ ((Lib.runeCount s : Int) < 0) by omega)]
    by_cases c1 : a < 0
    · rw [if_pos c1, if_pos (.inl c1)]
    · rw [if_neg c1]
      by_cases c2 : b < a
      · rw [if_pos c2, if_pos (.inr (.inl c2))]
      · rw [if_neg c2]
        by_cases c3 : b > ((Lib.runeCount s + 1 : Nat) : Int) - 1
        · rw [if_pos c3, if_pos (.inr (.inr (by omega)))]
        · have hm := posT_mono' s (show a.toNat ≤ b.toNat by omega)
          have hl := posT_le s b.toNat
          rw [if_neg c3, if_pos (by omega), if_pos (by omega), if_pos (by omega), if_pos (by omega),
            startsL_at s _ a (by omega) (by omega), startsL_at s _ b (by omega) (by omega), if_pos (by omega), if_pos (by omega), if_pos (by omega), if_neg (by omega)]
          rfl

theorem ext_nil : (⟨#[]⟩ : ByteArray) = enc [] := rfl
theorem shown_ok : epitomelaw01_shown.f = some true := by
  have hl : (⟨#[97, 195, 169, 98]⟩ : ByteArray) = enc [97, 233, 98] := by decide
  have hr : Runes [97, 233, 98] := by
    intro c hc
    simp only [List.mem_cons, List.not_mem_nil, or_false] at hc
    unfold isRune
    omega
  have e1 : points_Cut.f (enc [97, 233, 98]) 1 2 = some (enc [233], 0) := by
    unfold points_Cut.f
    rw [if_pos (by rw [← hl]; decide), cutF_enc hr (by decide) (by decide) (by decide)]; rfl
  have e2 : points_Count.f (enc [97, 233, 98]) = some 3 := by
    unfold points_Count.f
    rw [if_pos (by rw [← hl]; decide), countT_enc hr]; rfl
  unfold epitomelaw01_shown.f
  rw [hl, e1, Option.bind_some, e2, if_pos (by rw [ByteArray.toList_eq]; decide), if_pos rfl]
  rfl
theorem few_ok (s : ByteArray) : ∃ r, epitomelaw01_few.f s = some r ∧ r.size ≤ 120 := by
  unfold epitomelaw01_few.f
  refine ⟨s.extract 0 (mn (s.size : Int) 120).toNat, ?_, ?_⟩
  · rw [if_pos (by unfold mn; split <;> omega), if_pos (by unfold mn; split <;> omega)]
  · rw [ByteArray.size_extract]
    have : (mn (s.size : Int) 120).toNat ≤ 120 := by unfold mn; split <;> omega
    omega


def ofB (l : List Int) : List Int := (l.filter fun c => decide (isRune c)).flatMap Lib.encodeRuneZ
theorem ofB_len : ∀ l : List Int, (ofB l).length ≤ 4 * l.length
  | [] => by simp [ofB]
  | c :: l => by
    have ih := ofB_len l
    have hc := Lib.encodeRuneZ_length c
    unfold ofB at *
    rw [List.filter_cons]
    split
    · rw [List.flatMap_cons, List.length_append, List.length_cons]; omega
    · rw [List.length_cons]; omega
theorem ofB_next (l : List Int) (k : Nat) (h : k < l.length) : ofB (l.take (k + 1)) = ofB (l.take k) ++ (if isRune (l.getD k 0) then Lib.encodeRuneZ (l.getD k 0) else []) := by
  have e : l.getD k 0 = l[k] := by rw [List.getD_eq_getElem?_getD, List.getElem?_eq_getElem h]; rfl
  rw [e, List.take_succ_eq_append_getElem h]
  unfold ofB
  rw [List.filter_append, List.flatMap_append]
  congr 1
  by_cases c : isRune l[k]
  · rw [if_pos c, List.filter_cons, if_pos (by simpa using c)]; simp
  · rw [if_neg c, List.filter_cons, if_neg (by simpa using c)]; simp
theorem ofB_str (l : List Int) : strOfNums (ofB l) = enc (l.filter fun c => decide (isRune c)) := by
  apply bytes_ext
  rw [strOfNums_data, enc_list, encB, ofB, List.map_flatMap, List.flatMap_def]
  rfl

set_option maxHeartbeats 1000000 in
theorem of_l (l : List Int) (hl : 4 * l.length < 140737488355000) (hw : ∀ x ∈ l, -2147483648 ≤ x ∧ x ≤ 2147483647) :
    ∀ (d i k : Nat), l.length - i = d → i ≤ l.length → d + 3 ≤ k → epitomeref01_Of.l0 k l (ofB (l.take i)) (i : Int) = some (enc (l.filter fun c => decide (isRune c))) := by
  intro d
  induction d with
  | zero =>
    intro i k hd hi hk
    obtain ⟨k, rfl⟩ : ∃ m, k = m + 1 := ⟨k - 1, by omega⟩
    simp only [epitomeref01_Of.l0]
    rw [if_neg (by omega), List.take_of_length_le (by omega), ofB_str]
  | succ d ih =>
    intro i k hd hi hk
    obtain ⟨k, rfl⟩ : ∃ m, k = m + 2 := ⟨k - 2, by omega⟩
    have hb := ofB_len (l.take i)
    rw [List.length_take] at hb
    have hn := ofB_next l i (by omega)
    have hx : -2147483648 ≤ l.getD i 0 ∧ l.getD i 0 ≤ 2147483647 := by
      rw [List.getD_eq_getElem?_getD, List.getElem?_eq_getElem (by omega)]
      exact hw _ (List.getElem_mem _)
    have next := ih (i + 1) (k + 1) (by omega) (by omega) (by omega)
    rw [hn] at next
    simp only [epitomeref01_Of.l0]
    rw [if_pos (by omega), if_pos (by omega), size_f, Option.bind_some, w64 (x := (i : Int) + 1) (by omega) (by omega)]
    rw [show (i : Int) + 1 = ((i + 1 : Nat) : Int) by omega]
    unfold rd
    rw [Int.toNat_natCast]
    generalize l.getD i 0 = x at *
    simp only [w64 (x := x) (by omega) (by omega)]
    by_cases r : isRune x
    · rw [if_pos r] at next
      unfold isRune at r
      rcases (by omega : (0 ≤ x ∧ x ≤ 127) ∨ (128 ≤ x ∧ x ≤ 2047) ∨ ((2048 ≤ x ∧ x < 55296) ∨ (57343 < x ∧ x ≤ 65535)) ∨ (65536 ≤ x ∧ x ≤ 1114111)) with g | g | g | g
      · have z : sizeS x = 1 := by unfold sizeS; rw [if_neg (by omega), if_pos (by omega)]
        rw [Lib.encodeRuneZ_one g.1 g.2] at next
        rw [z, if_pos rfl, if_pos (by omega), Int.emod_eq_of_lt (by omega) (by omega)]
        exact next
      · have z : sizeS x = 2 := by unfold sizeS; rw [if_neg (by omega), if_neg (by omega), if_pos (by omega)]
        rw [Lib.encodeRuneZ_two g.1 g.2] at next
        rw [z, if_neg (by decide), if_pos rfl, Option.bind_some, if_pos (by simp only [List.length_cons, List.length_nil]; omega)]
        rw [Int.tdiv_eq_ediv_of_nonneg (by omega), Int.tmod_eq_emod_of_nonneg (by omega), w64 (x := x / 64) (by omega) (by omega), w64 (x := 192 + x / 64) (by omega) (by omega), w64 (x := 128 + x % 64) (by omega) (by omega), Int.emod_eq_of_lt (a := 192 + x / 64) (by omega) (by omega), Int.emod_eq_of_lt (a := 128 + x % 64) (by omega) (by omega)]
        exact next
      · have z : sizeS x = 3 := by unfold sizeS; rw [if_neg (by omega), if_neg (by omega), if_neg (by omega), if_pos (by omega)]
        have e : Lib.encodeRuneZ x = [224 + x / 4096, 128 + x / 64 % 64, 128 + x % 64] := by
          unfold Lib.encodeRuneZ; rw [if_neg (by omega), if_neg (by omega), if_pos g]
        rw [e] at next
        rw [z, if_neg (by decide), if_neg (by decide), if_pos rfl, Option.bind_some, if_pos (by simp only [List.length_cons, List.length_nil]; omega)]
        rw [Int.tdiv_eq_ediv_of_nonneg (b := 4096) (by omega), Int.tdiv_eq_ediv_of_nonneg (b := 64) (by omega), w64 (x := x / 64) (by omega) (by omega), Int.tmod_eq_emod_of_nonneg (a := x) (by omega), Int.tmod_eq_emod_of_nonneg (a := x / 64) (by omega), w64 (x := x / 4096) (by omega) (by omega), w64 (x := 224 + x / 4096) (by omega) (by omega), w64 (x := 128 + x / 64 % 64) (by omega) (by omega), w64 (x := 128 + x % 64) (by omega) (by omega),
          Int.emod_eq_of_lt (a := 224 + x / 4096) (by omega) (by omega), Int.emod_eq_of_lt (a := 128 + x / 64 % 64) (by omega) (by omega), Int.emod_eq_of_lt (a := 128 + x % 64) (by omega) (by omega)]
        exact next
      · have z : sizeS x = 4 := by unfold sizeS; rw [if_neg (by omega), if_neg (by omega), if_neg (by omega), if_neg (by omega)]
        have e : Lib.encodeRuneZ x = [240 + x / 262144, 128 + x / 4096 % 64, 128 + x / 64 % 64, 128 + x % 64] := by
          unfold Lib.encodeRuneZ; rw [if_neg (by omega), if_neg (by omega), if_neg (by omega), if_pos g]
        rw [e] at next
        rw [z, if_neg (by decide), if_neg (by decide), if_neg (by decide), if_pos rfl, Option.bind_some, if_pos (by simp only [List.length_cons, List.length_nil]; omega)]
        rw [Int.tdiv_eq_ediv_of_nonneg (b := 262144) (by omega), Int.tdiv_eq_ediv_of_nonneg (b := 4096) (by omega), Int.tdiv_eq_ediv_of_nonneg (b := 64) (by omega), w64 (x := x / 64) (by omega) (by omega), w64 (x := x / 4096) (by omega) (by omega), Int.tmod_eq_emod_of_nonneg (a := x) (by omega), Int.tmod_eq_emod_of_nonneg (a := x / 64) (by omega), Int.tmod_eq_emod_of_nonneg (a := x / 4096) (by omega), w64 (x := x / 262144) (by omega) (by omega), w64 (x := 240 + x / 262144) (by omega) (by omega), w64 (x := 128 + x / 4096 % 64) (by omega) (by omega), w64 (x := 128 + x / 64 % 64) (by omega) (by omega), w64 (x := 128 + x % 64) (by omega) (by omega),
          Int.emod_eq_of_lt (a := 240 + x / 262144) (by omega) (by omega), Int.emod_eq_of_lt (a := 128 + x / 4096 % 64) (by omega) (by omega), Int.emod_eq_of_lt (a := 128 + x / 64 % 64) (by omega) (by omega), Int.emod_eq_of_lt (a := 128 + x % 64) (by omega) (by omega)]
        exact next
    · rw [if_neg r, List.append_nil] at next
      have z : sizeS x = 0 := by unfold isRune at r; unfold sizeS; rw [if_pos (by omega)]
      rw [z, if_neg (by decide), if_neg (by decide), if_neg (by decide), if_neg (by decide)]
      exact next
theorem refOf (l : List Int) (hl : 4 * l.length < 140737488355000) (hw : ∀ x ∈ l, -2147483648 ≤ x ∧ x ≤ 2147483647) (k : Nat) (hk : l.length + 3 ≤ k) :
    epitomeref01_Of.f k l = some (enc (l.filter fun c => decide (isRune c))) := by
  unfold epitomeref01_Of.f
  exact of_l l hl hw l.length 0 k rfl (Nat.zero_le _) hk

theorem fit_rune (s : ByteArray) : Runes (epitomeref01_Fit.l s) := by
  intro c hc
  unfold epitomeref01_Fit.l at hc
  obtain ⟨b, _, rfl⟩ := List.mem_map.mp hc
  have h8 : b.toNat % 8 < 8 := Nat.mod_lt _ (by decide)
  generalize b.toNat % 8 = m at *
  rcases (by omega : m = 0 ∨ m = 1 ∨ m = 2 ∨ m = 3 ∨ m = 4 ∨ m = 5 ∨ m = 6 ∨ m = 7) with rfl | rfl | rfl | rfl | rfl | rfl | rfl | rfl <;> decide
theorem filter_runes {l : List Int} (h : Runes l) : (l.filter fun c => decide (isRune c)) = l := List.filter_eq_self.mpr fun c hc => by simpa using h c hc
theorem fit_ok (s : ByteArray) (h : s.size ≤ 120) (k : Nat) (hk : 200 ≤ k) : ∃ l, epitomeref01_Fit.f k s = some (enc l) ∧ Runes l ∧ l.length ≤ 120 ∧ (enc l).size ≤ 480 := by
  have hl := epitomeref01_Fit.len s
  refine ⟨epitomeref01_Fit.l s, ?_, fit_rune s, by omega, ?_⟩
  · unfold epitomeref01_Fit.f
    rw [if_pos (by omega), refOf _ (by omega) _ _ (by omega), filter_runes (fit_rune s)]
    intro x hx
    have := fit_rune s x hx
    unfold isRune at this; omega
  · have := ofB_len (epitomeref01_Fit.l s)
    rw [← filter_runes (fit_rune s), ← ofB_str, strOfNums_size]
    omega
theorem cut_ok {l : List Int} (h : Runes l) (hs : (enc l).size ≤ 480) {i j : Int} (h0 : 0 ≤ i) (h1 : i ≤ j) (h2 : j ≤ l.length) : points_Cut.f (enc l) i j = some (enc ((l.take j.toNat).drop i.toNat), 0) := by
  unfold points_Cut.f; rw [if_pos (by omega), cutF_enc h h0 h1 h2]
theorem cut_off {l : List Int} (h : Runes l) (hs : (enc l).size ≤ 480) {i j : Int} (h0 : i < 0 ∨ j < i ∨ (l.length : Int) < j) : points_Cut.f (enc l) i j = some (⟨#[]⟩, 6) := by
  unfold points_Cut.f; rw [if_pos (by omega), cutF_range h h0]
theorem count_ok {l : List Int} (h : Runes l) (hs : (enc l).size ≤ 9999) : points_Count.f (enc l) = some (l.length : Int) := by
  unfold points_Count.f; rw [if_pos (by omega), countT_enc h]
theorem valid_ok {l : List Int} (h : Runes l) (hs : (enc l).size ≤ 9999) : points_Valid.f (enc l) = some true := by
  unfold points_Valid.f; rw [if_pos (by omega), validT_enc h]
theorem enc_le {l : List Int} (k j : Nat) (hs : (enc l).size ≤ 480) : (enc ((l.take j).drop k)).size ≤ 480 := by
  rw [enc_size] at *
  have h1 := encB_take_le l j
  have h2 : (encB (l.take j)).length = (encB ((l.take j).take k)).length + (encB ((l.take j).drop k)).length := by
    rw [← List.length_append, ← encB_append, List.take_append_drop]
  omega
theorem u8_wf {a : Int} (h : (Lit.int .u8 a).wf = true) : 0 ≤ a ∧ a ≤ 255 := by
  simp only [Lit.wf, IntKind.min, IntKind.max, IntKind.signed, IntKind.bits, Bool.and_eq_true] at h
  simp at h
  omega
theorem u16_wf {a : Int} (h : (Lit.int .u16 a).wf = true) : 0 ≤ a ∧ a ≤ 65535 := by
  simp only [Lit.wf, IntKind.min, IntKind.max, IntKind.signed, IntKind.bits, Bool.and_eq_true] at h
  simp at h
  omega
theorem i32_wf {a : Int} (h : (Lit.int .i32 a).wf = true) : -2147483648 ≤ a ∧ a ≤ 2147483647 := by
  simp only [Lit.wf, IntKind.min, IntKind.max, IntKind.signed, IntKind.bits, Bool.and_eq_true] at h
  simp at h
  omega


/-- Does the row rise, from a number on? -/
def okR : Int → List Int → Bool
  | _, [] => true
  | was, n :: l => decide (was < n ∧ n ≤ 268435455) && okR n l
/-- Its bytes. -/
def encR : Int → List Int → List Int
  | _, [] => []
  | was, n :: l => putS 3 (n - was - 1) ++ encR n l
theorem putRow_l : ∀ (l : List Int) (was : Int) (out : List Int), -1 ≤ was → was ≤ 268435455 → snap_PutRow.l was out l = if okR was l then (out ++ encR was l, 0) else ([], 2)
  | [], was, out, _, _ => by simp [snap_PutRow.l, okR, encR]
  | n :: l, was, out, h0, h1 => by
    rw [snap_PutRow.l, okR, encR]
    by_cases g : was < n ∧ n ≤ 268435455
    · rw [if_neg (by omega), putRow_l l n _ (by omega) g.2, put_l 3 _ _ (by omega) (by omega), List.nil_append, List.append_assoc]
      simp [g]
    · rw [if_pos (by omega)]
      simp [g]
theorem drop_cons (l : List Int) (i : Nat) (h : i < l.length) : l.drop i = rd l (i : Int) :: l.drop (i + 1) := snap_PutRow.next l i h
theorem rises_l (l : List Int) (hl : l.length ≤ 65536) : ∀ (d i k : Nat) (was : Int), l.length - i = d → i ≤ l.length → d + 1 ≤ k → -1 ≤ was → was ≤ 268435455 → (i = 0 → was = -1) → (0 < i → was = rd l ((i : Int) - 1)) →
    epitomeref15_Rises.l0 k l (i : Int) = some (okR was (l.drop i)) := by
  intro d
  induction d with
  | zero =>
    intro i k was hd hi hk _ _ _ _
    obtain ⟨k, rfl⟩ : ∃ m, k = m + 1 := ⟨k - 1, by omega⟩
    simp only [epitomeref15_Rises.l0]
    rw [if_neg (by omega), List.drop_of_length_le (by omega)]; rfl
  | succ d ih =>
    intro i k was hd hi hk w0 w1 e0 e1
    obtain ⟨k, rfl⟩ : ∃ m, k = m + 1 := ⟨k - 1, by omega⟩
    have hi' : i < l.length := by omega
    rw [drop_cons l i hi', okR]
    have next := ih (i + 1) k (rd l (i : Int)) (by omega) (by omega) (by omega)
    have e2 : ((i + 1 : Nat) : Int) - 1 = (i : Int) := by omega
    rw [e2] at next
    simp only [epitomeref15_Rises.l0]
    rw [if_pos (by omega), if_pos (by omega), w64 (x := (i : Int) + 1) (by omega) (by omega), w64 (x := (i : Int) - 1) (by omega) (by omega)]
    rw [show (i : Int) + 1 = ((i + 1 : Nat) : Int) by omega]
    generalize hx : rd l (i : Int) = x at *
    by_cases g0 : x < 0
    · rw [if_pos g0]; simp; omega
    · rw [if_neg g0]
      by_cases g1 : x > 268435455
      · rw [if_pos g1]; simp; omega
      · rw [if_neg g1]
        have n := next (by omega) (by omega) (by omega) (fun _ => rfl)
        by_cases g2 : (i : Int) > 0
        · rw [if_pos g2, if_pos (by omega), if_pos (by omega), ← e1 (by omega)]
          by_cases g3 : x ≤ was
          · rw [if_pos g3]; simp; omega
          · rw [if_neg g3, n]
            have : was < x ∧ x ≤ 268435455 := by omega
            simp [this]
        · rw [if_neg g2, n]
          have := e0 (by omega)
          have : was < x ∧ x ≤ 268435455 := by omega
          simp [this]
theorem encR_len : ∀ (l : List Int) (was : Int), -1 ≤ was → was ≤ 268435455 → okR was l = true → (encR was l).length ≤ 4 * l.length
  | [], _, _, _, _ => by simp [encR]
  | n :: l, was, h0, h1, h => by
    rw [okR] at h
    simp only [Bool.and_eq_true, decide_eq_true_eq] at h
    have := encR_len l n (by omega) h.1.2 h.2
    have := put_len (n := n - was - 1) (by omega) (by omega)
    rw [encR, List.length_append, List.length_cons]; omega
theorem ref_putRow_l (l : List Int) (hl : l.length ≤ 65536) : ∀ (d i k : Nat) (was : Int) (out : List Int), l.length - i = d → i ≤ l.length → d + 10 ≤ k → -1 ≤ was → was ≤ 268435455 → okR was (l.drop i) = true → out.length ≤ 4 * (i + 1) →
    epitomeref15_PutRow.l0 k l out was (i : Int) = some (out ++ encR was (l.drop i), 0) := by
  intro d
  induction d with
  | zero =>
    intro i k was out hd hi hk _ _ _ _
    obtain ⟨k, rfl⟩ : ∃ m, k = m + 1 := ⟨k - 1, by omega⟩
    simp only [epitomeref15_PutRow.l0]
    rw [if_neg (by omega), List.drop_of_length_le (by omega)]; simp [encR]
  | succ d ih =>
    intro i k was out hd hi hk w0 w1 ok ho
    obtain ⟨k, rfl⟩ : ∃ m, k = m + 1 := ⟨k - 1, by omega⟩
    have hi' : i < l.length := by omega
    rw [drop_cons l i hi', okR] at ok
    simp only [Bool.and_eq_true, decide_eq_true_eq] at ok
    rw [drop_cons l i hi', encR]
    simp only [epitomeref15_PutRow.l0]
    obtain ⟨k, rfl⟩ : ∃ m, k = m + 8 := ⟨k - 8, by omega⟩
    generalize rd l (i : Int) = x at *
    have hp := put_len (n := x - was - 1) (by omega) (by omega)
    rw [if_pos (by omega), if_pos (by omega), w64 (x := x - was) (by omega) (by omega), w64 (x := x - was - 1) (by omega) (by omega), ref_put, put_f (by omega) (by omega), Option.bind_some, if_pos (by simp only; omega), w64 (x := (i : Int) + 1) (by omega) (by omega)]
    rw [show (i : Int) + 1 = ((i + 1 : Nat) : Int) by omega]
    rw [ih (i + 1) (k + 8) x _ (by omega) (by omega) (by omega) (by omega) ok.1.2 ok.2 (by simp only [List.length_append]; omega), List.append_assoc]
theorem putRow_f (l : List Int) : snap_PutRow.f l = some (if l.length = 0 ∨ l.length > 65536 then ([], 2) else if okR (-1) l then (putS 3 l.length ++ encR (-1) l, 0) else ([], 2)) := by
  unfold snap_PutRow.f
  by_cases c : l.length = 0 ∨ l.length > 65536
  · rw [if_pos c, if_pos c]
  · rw [if_neg c, if_neg c, put_l 3 _ _ (by omega) (by omega), List.nil_append, putRow_l _ _ _ (by omega) (by omega)]
theorem ref_putRow (l : List Int) (k : Nat) (hk : l.length + 20 ≤ k) (hl : l.length ≤ 65536) : epitomeref15_PutRow.f k l = snap_PutRow.f l := by
  rw [putRow_f]
  unfold epitomeref15_PutRow.f epitomeref15_Rises.f
  obtain ⟨k, rfl⟩ : ∃ m, k = m + 9 := ⟨k - 9, by omega⟩
  by_cases c : l.length = 0
  · rw [if_pos (by omega), if_pos (.inl c)]
    simp only [epitomeref15_Rises.j0, if_true]
    rfl
  · rw [if_neg (by omega), if_neg (by omega), decide_eq_false (by omega)]
    simp only [epitomeref15_Rises.j0, Bool.false_eq_true, if_false]
    have hr := rises_l l hl l.length 0 (k + 8) (-1) (by omega) (by omega) (by omega) (by omega) (by omega) (fun _ => rfl) (fun h => absurd h (by omega))
    rw [show ((0 : Nat) : Int) = 0 from rfl, List.drop_zero] at hr
    rw [hr, Option.bind_some]
    by_cases g : okR (-1) l = true
    · rw [if_pos g, if_pos g, ref_put, put_f (by omega) (by omega), Option.bind_some]
      have hp := put_len (n := (l.length : Int)) (by omega) (by omega)
      have := ref_putRow_l l hl l.length 0 (k + 9) (-1) (putS 3 (l.length : Int)) (by omega) (by omega) (by omega) (by omega) (by omega) (by rw [List.drop_zero]; exact g) (by omega)
      rw [List.drop_zero] at this
      exact this
    · rw [if_neg g, if_neg g]
theorem same_l (l : List Int) (hl : l.length ≤ 99999999) : ∀ (d i k : Nat), l.length - i = d → i ≤ l.length → d + 1 ≤ k → epitomeref15_SameRow.l0 k l l (i : Int) = some true := by
  intro d
  induction d with
  | zero =>
    intro i k hd hi hk
    obtain ⟨k, rfl⟩ : ∃ m, k = m + 1 := ⟨k - 1, by omega⟩
    simp only [epitomeref15_SameRow.l0]
    rw [if_neg (by omega)]
  | succ d ih =>
    intro i k hd hi hk
    obtain ⟨k, rfl⟩ : ∃ m, k = m + 1 := ⟨k - 1, by omega⟩
    simp only [epitomeref15_SameRow.l0]
    rw [if_pos (by omega), if_pos (by omega), if_pos (by omega), w64 (x := (i : Int) + 1) (by omega) (by omega), show (i : Int) + 1 = ((i + 1 : Nat) : Int) by omega]
    simp only [if_true]
    exact ih (i + 1) k (by omega) (by omega) (by omega)
theorem same_f (l : List Int) (hl : l.length ≤ 99999999) (k : Nat) (hk : l.length + 1 ≤ k) : epitomeref15_SameRow.f k l l = some true := by
  unfold epitomeref15_SameRow.f
  rw [if_pos rfl]
  exact same_l l hl l.length 0 k (by omega) (by omega) (by omega)
theorem short_f (l : List Int) : epitomelaw15_short.f l = some (l.take 40) := by
  unfold epitomelaw15_short.f mn
  by_cases c : 40 < (l.length : Int)
  · rw [if_pos c, if_pos (by omega), if_pos (by omega)]; rfl
  · rw [if_neg c, if_pos (by omega), if_pos (by omega)]
    rw [List.take_of_length_le (by omega), List.take_of_length_le (by omega)]
theorem few_fS (l : List Int) : epitomelaw15_few.f l = some (l.take 200) := by
  unfold epitomelaw15_few.f mn
  by_cases c : 200 < (l.length : Int)
  · rw [if_pos c, if_pos (by omega), if_pos (by omega)]; rfl
  · rw [if_neg c, if_pos (by omega), if_pos (by omega)]
    rw [List.take_of_length_le (by omega), List.take_of_length_le (by omega)]

theorem takeS_ok (l : List Int) (h : Bytes l) : ((takeS l).2.2 = 0 ∧ 0 ≤ (takeS l).1 ∧ (takeS l).1 ≤ 268435455 ∧ 1 ≤ (takeS l).2.1 ∧ (takeS l).2.1 ≤ (l.length : Int)) ∨ takeS l = (0, 0, 7) ∨ takeS l = (0, 0, 8) := by
  match l, h with
  | [], _ => exact .inr (.inl rfl)
  | [a], h =>
    have ha := h a (by simp)
    simp only [takeS]
    repeat' split
    all_goals first | exact .inr (.inl rfl) | exact .inr (.inr rfl) | (refine .inl ⟨rfl, ?_, ?_, ?_, ?_⟩ <;> simp <;> omega)
  | [a, b], h =>
    have ha := h a (by simp); have hb := h b (by simp)
    simp only [takeS]
    repeat' split
    all_goals first | exact .inr (.inl rfl) | exact .inr (.inr rfl) | (refine .inl ⟨rfl, ?_, ?_, ?_, ?_⟩ <;> simp <;> omega)
  | [a, b, c], h =>
    have ha := h a (by simp); have hb := h b (by simp); have hc := h c (by simp)
    simp only [takeS]
    repeat' split
    all_goals first | exact .inr (.inl rfl) | exact .inr (.inr rfl) | (refine .inl ⟨rfl, ?_, ?_, ?_, ?_⟩ <;> simp <;> omega)
  | a :: b :: c :: d :: r, h =>
    have ha := h a (by simp); have hb := h b (by simp); have hc := h c (by simp); have hd := h d (by simp)
    simp only [takeS]
    repeat' split
    all_goals first | exact .inr (.inl rfl) | exact .inr (.inr rfl) | (refine .inl ⟨rfl, ?_, ?_, ?_, ?_⟩ <;> simp <;> omega)
theorem Bytes.drop {l : List Int} (h : Bytes l) (i : Nat) : Bytes (l.drop i) := fun x hx => h x (List.mem_of_mem_drop hx)
theorem Bytes.take {l : List Int} (h : Bytes l) (i : Nat) : Bytes (l.take i) := fun x hx => h x (List.mem_of_mem_take hx)
theorem reader_f {K : Nat} (hK : 6 ≤ K) (l : List Int) (h : Bytes l) (most : Int) : snap_reader_number.f K l 0 most = some ((takeS l).1, (takeS l).2.1, if (takeS l).2.2 = 0 ∧ (takeS l).1 > most then 8 else (takeS l).2.2) := by
  unfold snap_reader_number.f
  rw [if_pos rfl, take_ge hK h, Option.bind_some]
  rcases takeS_ok l h with ⟨_, _, _, h1, h2⟩ | e | e
  · rw [if_pos (by omega), if_pos (by omega)]
  · rw [e]; rfl
  · rw [e]; rfl
theorem takeRow_l (l : List Int) (h : Bytes l) (hl : l.length ≤ 9999) (many : Int) (hm : many ≤ 65536) : ∀ (d p k1 k2 : Nat) (i was : Int) (out : List Int), l.length - p = d → p ≤ l.length → d + 30 ≤ k1 → d + 30 ≤ k2 → 0 ≤ i → -1 ≤ was → was ≤ 268435455 → out.length ≤ p →
    (snap_TakeRow.l k1 i many (l.drop p) 0 was out).bind (snap_TakeRow.g l) = epitomeref15_TakeRow.l0 k2 l many (p : Int) out was i := by
  intro d
  induction d using Nat.strongRecOn with
  | _ d ih =>
    intro p k1 k2 i was out hd hp hk1 hk2 hi w0 w1 ho
    obtain ⟨k1, rfl⟩ : ∃ m, k1 = m + 1 := ⟨k1 - 1, by omega⟩
    obtain ⟨k2, rfl⟩ : ∃ m, k2 = m + 1 := ⟨k2 - 1, by omega⟩
    simp only [snap_TakeRow.l, epitomeref15_TakeRow.l0]
    obtain ⟨k3, rfl⟩ : ∃ m, k2 = m + 12 := ⟨k2 - 12, by omega⟩
    by_cases c : i < many
    · have hb := h.drop p
      rw [if_pos c, if_pos c, if_pos (by omega), if_pos (by omega), Int.toNat_natCast, reader_f (by omega) _ hb, ref_take _ _ hb, Option.bind_some, Option.bind_some]
      dsimp only
      rcases takeS_ok _ hb with ⟨e, n0, n1, u0, u1⟩ | e | e
      · rw [List.length_drop] at u1
        have em : (if (takeS (l.drop p)).2.2 = 0 ∧ (takeS (l.drop p)).1 > 268435455 then (8 : Int) else (takeS (l.drop p)).2.2) = 0 := by rw [if_neg (by omega), e]
        rw [em]
        simp only [e, if_true]
        generalize (takeS (l.drop p)).1 = n at *
        generalize (takeS (l.drop p)).2.1 = u at *
        rw [w64 (x := 1 + n) (by omega) (by omega), w64 (x := was + (1 + n)) (by omega) (by omega), w64 (x := was + 1) (by omega) (by omega), w64 (x := was + 1 + n) (by omega) (by omega), show was + (1 + n) = was + 1 + n by omega]
        by_cases g : was + 1 + n > 268435455
        · rw [if_pos g, if_pos g, Option.bind_some]; rfl
        · rw [if_neg g, if_neg g, if_pos (by omega), if_pos (by omega), w64 (x := (p : Int) + u) (by omega) (by omega), w64 (x := i + 1) (by omega) (by omega), List.drop_drop]
          have hu : (p : Int) + u = ((p + u.toNat : Nat) : Int) := by omega
          rw [hu]
          exact ih (l.length - (p + u.toNat)) (by omega) (p + u.toNat) k1 (k3 + 12) (i + 1) _ _ rfl (by omega) (by omega) (by omega) (by omega) (by omega) (by omega) (by simp only [List.length_append, List.length_cons, List.length_nil]; omega)
      · rw [e]; rfl
      · rw [e]; rfl
    · rw [if_neg c, if_neg c, Option.bind_some]
      unfold snap_TakeRow.g
      rw [if_pos rfl]
      simp only [List.length_drop]
      rw [w64 (by omega) (by omega)]
      refine congrArg some (Prod.ext rfl (Prod.ext ?_ rfl))
      simp only; omega
theorem ref_takeRow (l : List Int) (h : Bytes l) (hl : l.length ≤ 9999) (k : Nat) (hk : l.length + 60 ≤ k) : snap_TakeRow.f k l = epitomeref15_TakeRow.f k l := by
  unfold snap_TakeRow.f epitomeref15_TakeRow.f
  obtain ⟨k, rfl⟩ : ∃ m, k = m + 13 := ⟨k - 13, by omega⟩
  rw [reader_f (by omega) _ h, ref_take (k + 1) _ h, Option.bind_some, Option.bind_some]
  dsimp only
  rcases takeS_ok _ h with ⟨e, n0, n1, u0, u1⟩ | e | e
  · simp only [e, if_true, true_and]
    generalize (takeS l).1 = n at *
    generalize (takeS l).2.1 = u at *
    by_cases z : n = 0
    · subst z
      rw [if_neg (show ¬ ((0 : Int) > 65536) by omega), if_pos ⟨rfl, rfl⟩, if_pos rfl]
      simp only [epitomeref15_TakeRow.j0, snap_TakeRow.l, if_true]
      rw [if_neg (by omega)]; rfl
    · rw [if_neg z]
      by_cases b : n > 65536
      · rw [if_pos b, if_neg (by omega), decide_eq_true b]
        simp only [epitomeref15_TakeRow.j0, if_true]
        simp only [snap_TakeRow.l]
        rw [if_pos (by omega)]
        unfold snap_reader_number.f
        rw [if_neg (by decide)]
        rfl
      · rw [if_neg b, if_neg (by omega), decide_eq_false b]
        simp only [epitomeref15_TakeRow.j0, Bool.false_eq_true, if_false]
        have hu : u = ((u.toNat : Nat) : Int) := by omega
        have t := takeRow_l l h hl n (by omega) (l.length - u.toNat) u.toNat (k + 13) (k + 12) 0 (-1) [] rfl (by omega) (by omega) (by omega) (by omega) (by omega) (by omega) (by simp)
        rw [← hu] at t
        exact t
  · rw [e]
    simp only [snap_TakeRow.l]
    rfl
  · rw [e]
    simp only [snap_TakeRow.l]
    rfl
theorem ref_l_some (l : List Int) (h : Bytes l) (hl : l.length ≤ 9999) (many : Int) (hm : many ≤ 65536) : ∀ (d p k : Nat) (i was : Int) (out : List Int), l.length - p = d → p ≤ l.length → d + 30 ≤ k → 0 ≤ i → -1 ≤ was → was ≤ 268435455 → out.length ≤ p →
    ∃ y, epitomeref15_TakeRow.l0 k l many (p : Int) out was i = some y ∧ y.1.length ≤ l.length := by
  intro d
  induction d using Nat.strongRecOn with
  | _ d ih =>
    intro p k i was out hd hp hk hi w0 w1 ho
    obtain ⟨k, rfl⟩ : ∃ m, k = m + 1 := ⟨k - 1, by omega⟩
    simp only [epitomeref15_TakeRow.l0]
    obtain ⟨k3, rfl⟩ : ∃ m, k = m + 12 := ⟨k - 12, by omega⟩
    by_cases c : i < many
    · have hb := h.drop p
      rw [if_pos c, if_pos (by omega), if_pos (by omega), Int.toNat_natCast, ref_take _ _ hb, Option.bind_some]
      rcases takeS_ok _ hb with ⟨e, n0, n1, u0, u1⟩ | e | e
      · rw [List.length_drop] at u1
        simp only [e, if_true]
        generalize (takeS (l.drop p)).1 = n at *
        generalize (takeS (l.drop p)).2.1 = u at *
        rw [w64 (x := was + 1) (by omega) (by omega), w64 (x := was + 1 + n) (by omega) (by omega)]
        by_cases g : was + 1 + n > 268435455
        · rw [if_pos g]; exact ⟨_, rfl, by simp⟩
        · rw [if_neg g, if_pos (by omega), w64 (x := (p : Int) + u) (by omega) (by omega), w64 (x := i + 1) (by omega) (by omega)]
          have hu : (p : Int) + u = ((p + u.toNat : Nat) : Int) := by omega
          rw [hu]
          exact ih (l.length - (p + u.toNat)) (by omega) (p + u.toNat) (k3 + 12) (i + 1) _ _ rfl (by omega) (by omega) (by omega) (by omega) (by omega) (by simp only [List.length_append, List.length_cons, List.length_nil]; omega)
      · rw [e]; exact ⟨_, rfl, by simp⟩
      · rw [e]; exact ⟨_, rfl, by simp⟩
    · rw [if_neg c]; exact ⟨_, rfl, by simp only; omega⟩
theorem takeRow_some (l : List Int) (h : Bytes l) (hl : l.length ≤ 200) : ∃ y, snap_TakeRow.f (500 + 20) l = some y ∧ y.1.length ≤ 200 := by
  rw [ref_takeRow l h (by omega) _ (by omega)]
  unfold epitomeref15_TakeRow.f
  rw [show 500 + 20 = 508 + 12 from rfl, ref_take 508 _ h, Option.bind_some]
  rcases takeS_ok _ h with ⟨e, n0, n1, u0, u1⟩ | e | e
  · rw [if_pos e]
    by_cases z : (takeS l).1 = 0
    · rw [if_pos z]
      simp only [epitomeref15_TakeRow.j0, if_true]
      exact ⟨_, rfl, by simp⟩
    · rw [if_neg z]
      by_cases b : (takeS l).1 > 65536
      · rw [decide_eq_true b]
        simp only [epitomeref15_TakeRow.j0, if_true]
        exact ⟨_, rfl, by simp⟩
      · rw [decide_eq_false b]
        simp only [epitomeref15_TakeRow.j0, Bool.false_eq_true, if_false]
        have hu : (takeS l).2.1 = (((takeS l).2.1.toNat : Nat) : Int) := by omega
        rw [hu]
        obtain ⟨y, hy, hl2⟩ := ref_l_some l h (by omega) (takeS l).1 (by omega) _ (takeS l).2.1.toNat 519 0 (-1) [] rfl (by omega) (by omega) (by omega) (by omega) (by omega) (by simp)
        exact ⟨y, hy, by omega⟩
  · rw [e]; exact ⟨_, rfl, by simp⟩
  · rw [e]; exact ⟨_, rfl, by simp⟩


theorem takeRow_step {k : Nat} (hk : 6 ≤ k) {i many was n u : Int} {l2 out : List Int} (hb : Bytes l2) (ht : takeS l2 = (n, u, 0)) (hi : i < many) (i0 : 0 ≤ i) (i1 : many ≤ 65536) (w0 : -1 ≤ was) (n0 : 0 ≤ n) (hw : was + 1 + n ≤ 268435455) (ho : out.length ≤ 999) :
    snap_TakeRow.l (k + 1) i many l2 0 was out = snap_TakeRow.l k (i + 1) many (l2.drop u.toNat) 0 (was + 1 + n) (out ++ [was + 1 + n]) := by
  rw [snap_TakeRow.l, if_pos hi, reader_f hk _ hb, ht, Option.bind_some]
  dsimp only
  have em : (if (0 : Int) = 0 ∧ n > 268435455 then (8 : Int) else 0) = 0 := by rw [if_neg (by omega)]
  rw [em, if_pos rfl, w64 (x := 1 + n) (by omega) (by omega), w64 (x := was + (1 + n)) (by omega) (by omega), w64 (x := i + 1) (by omega) (by omega), show was + (1 + n) = was + 1 + n by omega, if_neg (by omega), if_pos (by omega)]
theorem small_bytes (l : List Int) (h : l.all (fun x => decide (0 ≤ x ∧ x ≤ 255)) = true) : Bytes l := fun x hx => by
  have := List.all_eq_true.mp h x hx
  simpa using this
theorem shownRow (m : Nat) : snap_TakeRow.f (m + 20) [3, 3, 0, 4, 7] = some ([3, 4, 9], 4, 0) := by
  unfold snap_TakeRow.f
  rw [reader_f (by omega) _ (small_bytes _ (by decide)), show takeS [3, 3, 0, 4, 7] = (3, 1, 0) from rfl, Option.bind_some]
  dsimp only
  rw [if_neg (show ¬ ((0 : Int) = 0 ∧ (3 : Int) > 65536) by omega), if_neg (show ¬ ((0 : Int) = 0 ∧ (3 : Int) = 0) by omega)]
  rw [show ([3, 3, 0, 4, 7] : List Int).drop (1 : Int).toNat = [3, 0, 4, 7] from rfl]
  rw [takeRow_step (k := m + 19) (n := 3) (u := 1) (by omega) (small_bytes _ (by decide)) rfl (by omega) (by omega) (by omega) (by omega) (by omega) (by omega) (by simp)]
  rw [show ([3, 0, 4, 7] : List Int).drop (1 : Int).toNat = [0, 4, 7] from rfl]
  rw [takeRow_step (k := m + 18) (n := 0) (u := 1) (by omega) (small_bytes _ (by decide)) rfl (by omega) (by omega) (by omega) (by omega) (by omega) (by omega) (by simp)]
  rw [show ([0, 4, 7] : List Int).drop (1 : Int).toNat = [4, 7] from rfl]
  rw [takeRow_step (k := m + 17) (n := 4) (u := 1) (by omega) (small_bytes _ (by decide)) rfl (by omega) (by omega) (by omega) (by omega) (by omega) (by omega) (by simp)]
  rw [snap_TakeRow.l, if_neg (by omega), Option.bind_some]
  unfold snap_TakeRow.g
  rw [if_pos rfl]
  rw [w64 (by simp) (by simp)]
  rfl
theorem shownPut : snap_Put.f (⟨#[97, 98]⟩ : ByteArray) = some ([2, 97, 98], 0) := by
  have hl : (⟨#[97, 98]⟩ : ByteArray) = enc [97, 98] := by decide
  have hr : Runes [97, 98] := by
    intro c hc
    simp only [List.mem_cons, List.not_mem_nil, or_false] at hc
    unfold isRune
    omega
  have hv : validT (⟨#[97, 98]⟩ : ByteArray) = true := by rw [hl]; exact validT_enc hr
  unfold snap_Put.f
  rw [if_pos (by decide), if_pos hv, if_neg (by decide)]
  rfl
theorem shown15 (m : Nat) : epitomelaw15_shown.f (m + 20) = some true := by
  have e1 : snap_PutRow.f [3, 4, 9] = some ([3, 3, 0, 4], 0) := by rw [putRow_f]; rfl
  unfold epitomelaw15_shown.f
  rw [e1, Option.bind_some, shownRow, Option.bind_some, shownPut, Option.bind_some, if_pos (by rw [ByteArray.toList_eq]; rfl), if_pos rfl, same_f _ (by simp) _ (by simp), Option.bind_some, if_pos rfl, if_pos rfl, if_pos rfl, if_pos (by rw [ByteArray.toList_eq]; rfl)]
  rfl


theorem str_bytes (s : ByteArray) : strOfNums (bytesOf s) = s := by
  apply bytes_ext
  show ((bytesOf s).map fun n => UInt8.ofNat n.toNat) = s.data.toList
  unfold bytesOf
  rw [List.map_map]
  refine (List.map_congr_left (g := id) fun b _ => ?_).trans (List.map_id _)
  simp
theorem bytes_bytesOf (s : ByteArray) : Bytes (bytesOf s) := by
  intro x hx
  unfold bytesOf at hx
  obtain ⟨b, _, rfl⟩ := List.mem_map.mp hx
  have := b.toNat_lt
  omega
theorem bytes_str {l : List Int} (h : Bytes l) : bytesOf (strOfNums l) = l := by
  have e : bytesOf (strOfNums l) = l.map fun n => ((UInt8.ofNat n.toNat).toNat : Int) := by
    show ((l.map fun n => UInt8.ofNat n.toNat).map fun b : UInt8 => (b.toNat : Int)) = _
    rw [List.map_map]; rfl
  rw [e]
  refine (List.map_congr_left (g := id) fun n hn => ?_).trans (List.map_id _)
  have := h n hn
  rw [UInt8.toNat_ofNat']
  simp only [id]
  omega
theorem put15 (s : ByteArray) (hs : s.size ≤ 65536) : snap_Put.f s = some (if validT s = true then (putS 3 s.size ++ bytesOf s, 0) else ([], 3)) := by
  unfold snap_Put.f
  rw [if_pos (by omega)]
  by_cases v : validT s = true
  · rw [if_pos v, if_pos v, if_neg (by omega), put_l 3 _ _ (by omega) (by omega), List.nil_append]
  · rw [if_neg v, if_neg v]
/-- What Take tells. -/
def takeT (l : List Int) : ByteArray × Int × Int :=
  if (takeS l).2.2 = 0 then (if (takeS l).1 > 65536 then (⟨#[]⟩, 0, 8) else if (l.length : Int) - (takeS l).2.1 < (takeS l).1 then (⟨#[]⟩, 0, 7) else if validT (strOfNums ((l.drop (takeS l).2.1.toNat).take (takeS l).1.toNat)) = true then (strOfNums ((l.drop (takeS l).2.1.toNat).take (takeS l).1.toNat), (takeS l).2.1 + (takeS l).1, 0) else (⟨#[]⟩, 0, 8)) else (⟨#[]⟩, 0, (takeS l).2.2)
theorem take15 {K : Nat} (hK : 6 ≤ K) (l : List Int) (h : Bytes l) (hl : l.length ≤ 9999) : snap_Take.f K l = some (takeT l) := by
  unfold snap_Take.f
  rw [if_pos (by omega), reader_f hK l h, Option.bind_some]
  unfold snap_Take.g takeT
  dsimp only
  rcases takeS_ok l h with ⟨e, n0, n1, u0, u1⟩ | e | e
  · rw [e]
    generalize (takeS l).1 = n at *
    generalize (takeS l).2.1 = u at *
    rw [if_pos rfl]
    by_cases b : n > 65536
    · rw [if_pos b, if_pos (show ((0 : Int) = 0 ∧ n > 65536) from ⟨rfl, b⟩), if_neg (by omega)]
    · rw [if_neg b, if_neg (show ¬ ((0 : Int) = 0 ∧ n > 65536) from fun h => b h.2), if_pos rfl, List.length_drop]
      by_cases c : (l.length : Int) - u < n
      · rw [if_pos c, if_pos (by omega)]
      · rw [if_neg c, if_neg (by omega), if_pos n0]
        split
        · refine congrArg some (Prod.ext rfl (Prod.ext ?_ rfl))
          simp only; omega
        · rfl
  · rw [e]; rfl
  · rw [e]; rfl
theorem takeT_put (s : ByteArray) (hs : s.size ≤ 65536) (v : validT s = true) (rest : List Int) : takeT (putS 3 s.size ++ bytesOf s ++ rest) = (s, ((putS 3 s.size ++ bytesOf s).length : Int), 0) := by
  unfold takeT
  rw [List.append_assoc, take_put (by omega) (by omega)]
  dsimp only
  have hb := bytesOf_length s
  rw [if_pos rfl, if_neg (by omega), if_neg (by simp only [List.length_append]; omega), Int.toNat_natCast, Int.toNat_natCast, List.drop_left, ← hb, List.take_left, str_bytes, if_pos v, List.length_append, hb]
  refine Prod.ext rfl (Prod.ext ?_ rfl)
  simp only; omega
theorem takeT_short (s : ByteArray) (hs : s.size ≤ 65536) (j : Nat) (hj : j < (putS 3 s.size ++ bytesOf s).length) : takeT ((putS 3 s.size ++ bytesOf s).take j) = (⟨#[]⟩, 0, 7) := by
  have hb := bytesOf_length s
  rw [List.length_append] at hj
  rw [List.take_append]
  by_cases c : j < (putS 3 (s.size : Int)).length
  · rw [show j - (putS 3 (s.size : Int)).length = 0 by omega, List.take_zero, List.append_nil]
    unfold takeT
    rw [take_short (by omega) (by omega) j c]; rfl
  · rw [List.take_of_length_le (by omega)]
    unfold takeT
    rw [take_put (by omega) (by omega)]
    dsimp only
    rw [if_pos rfl, if_neg (by omega), if_pos (by simp only [List.length_append, List.length_take]; omega)]

/-- A row that was put is taken, whatever stands behind. -/
theorem row_on (rest : List Int) (hr : Bytes rest) : ∀ (row : List Int) (was i many : Int) (out : List Int) (k : Nat), okR was row = true → -1 ≤ was → was ≤ 268435455 → 0 ≤ i → many = i + row.length → many ≤ 65536 → out.length + row.length ≤ 999 → row.length + 7 ≤ k →
    Bytes (encR was row ++ rest) ∧ snap_TakeRow.l k i many (encR was row ++ rest) 0 was out = some (out ++ row, rest, 0)
  | [], was, i, many, out, k, _, _, _, _, hm, _, _, hk => by
    obtain ⟨k, rfl⟩ : ∃ m, k = m + 1 := ⟨k - 1, by omega⟩
    simp only [List.length_nil] at hm
    refine ⟨hr, ?_⟩
    rw [snap_TakeRow.l, if_neg (by omega)]; simp [encR]
  | n :: row, was, i, many, out, k, ok, w0, w1, i0, hm, m1, ho, hk => by
    obtain ⟨k, rfl⟩ : ∃ m, k = m + 1 := ⟨k - 1, by omega⟩
    rw [okR] at ok
    simp only [Bool.and_eq_true, decide_eq_true_eq] at ok
    simp only [List.length_cons] at hm ho hk
    have ih := row_on rest hr row n (i + 1) many (out ++ [n]) k ok.2 (by omega) ok.1.2 (by omega) (by omega) m1 (by simp only [List.length_append, List.length_cons, List.length_nil]; omega) (by omega)
    have hb : Bytes (encR was (n :: row) ++ rest) := by
      rw [encR, List.append_assoc]
      intro x hx
      rcases List.mem_append.mp hx with h | h
      · exact put_bytes (by omega) (by omega) x h
      · exact ih.1 x h
    refine ⟨hb, ?_⟩
    rw [encR, List.append_assoc] at hb ⊢
    rw [takeRow_step (by omega) hb (take_put (by omega) (by omega) _) (by omega) i0 m1 w0 (by omega) (by omega) (by omega), Int.toNat_natCast, List.drop_left, show was + 1 + (n - was - 1) = n by omega, ih.2]
    simp
theorem row_cut : ∀ (row : List Int) (was i many : Int) (out : List Int) (k j : Nat), okR was row = true → -1 ≤ was → was ≤ 268435455 → 0 ≤ i → many = i + row.length → many ≤ 65536 → out.length + row.length ≤ 999 → row.length + 7 ≤ k → j < (encR was row).length →
    Bytes (encR was row) ∧ ∃ o l2, snap_TakeRow.l k i many ((encR was row).take j) 0 was out = some (o, l2, 7)
  | [], was, i, many, out, k, j, _, _, _, _, hm, _, _, hk, hj => by simp [encR] at hj
  | n :: row, was, i, many, out, k, j, ok, w0, w1, i0, hm, m1, ho, hk, hj => by
    obtain ⟨k, rfl⟩ : ∃ m, k = m + 1 := ⟨k - 1, by omega⟩
    rw [okR] at ok
    simp only [Bool.and_eq_true, decide_eq_true_eq] at ok
    simp only [List.length_cons] at hm ho hk
    have hbr := (row_on [] (by intro x hx; cases hx) row n (i + 1) many (out ++ [n]) k ok.2 (by omega) ok.1.2 (by omega) (by omega) m1 (by simp only [List.length_append, List.length_cons, List.length_nil]; omega) (by omega)).1
    rw [List.append_nil] at hbr
    have hb : Bytes (encR was (n :: row)) := by
      rw [encR]
      intro x hx
      rcases List.mem_append.mp hx with h | h
      · exact put_bytes (by omega) (by omega) x h
      · exact hbr x h
    refine ⟨hb, ?_⟩
    have hbt := hb.take j
    rw [encR] at hj hbt ⊢
    rw [List.length_append] at hj
    rw [List.take_append] at hbt ⊢
    by_cases c : j < (putS 3 (n - was - 1)).length
    · rw [show j - (putS 3 (n - was - 1)).length = 0 by omega, List.take_zero, List.append_nil] at hbt ⊢
      rw [snap_TakeRow.l, if_pos (by omega), reader_f (by omega) _ hbt, take_short (by omega) (by omega) j c, Option.bind_some]
      exact ⟨_, _, rfl⟩
    · rw [List.take_of_length_le (by omega)] at hbt ⊢
      obtain ⟨_, o, l2, e⟩ := row_cut row n (i + 1) many (out ++ [n]) k (j - (putS 3 (n - was - 1)).length) ok.2 (by omega) ok.1.2 (by omega) (by omega) m1 (by simp only [List.length_append, List.length_cons, List.length_nil]; omega) (by omega) (by omega)
      refine ⟨o, l2, ?_⟩
      rw [takeRow_step (by omega) hbt (take_put (by omega) (by omega) _) (by omega) i0 m1 w0 (by omega) (by omega) (by omega), Int.toNat_natCast, List.drop_left, show was + 1 + (n - was - 1) = n by omega, e]
/-- The bytes of a row. -/
def encRow (row : List Int) : List Int := putS 3 row.length ++ encR (-1) row
theorem putRow_ok {row : List Int} (h0 : 1 ≤ row.length) (h1 : row.length ≤ 65536) (ok : okR (-1) row = true) : snap_PutRow.f row = some (encRow row, 0) := by
  rw [putRow_f, if_neg (by omega), if_pos ok]; rfl
theorem row_back {row rest : List Int} (h0 : 1 ≤ row.length) (h1 : row.length ≤ 900) (ok : okR (-1) row = true) (hr : Bytes rest) (hl : (encRow row ++ rest).length ≤ 99999) (k : Nat) (hk : row.length + 10 ≤ k) :
    snap_TakeRow.f k (encRow row ++ rest) = some (row, ((encRow row).length : Int), 0) := by
  have on := row_on rest hr row (-1) 0 row.length [] k ok (by omega) (by omega) (by omega) (by omega) (by omega) (by simp; omega) (by omega)
  have hb : Bytes (encRow row ++ rest) := by
    intro x hx
    unfold encRow at hx
    rw [List.append_assoc] at hx
    rcases List.mem_append.mp hx with h | h
    · exact put_bytes (by omega) (by omega) x h
    · exact on.1 x h
  unfold snap_TakeRow.f
  rw [reader_f (by omega) _ hb]
  have et : takeS (encRow row ++ rest) = ((row.length : Int), ((putS 3 row.length).length : Int), 0) := by
    unfold encRow
    rw [List.append_assoc]
    exact take_put (by omega) (by omega) _
  rw [et, Option.bind_some]
  dsimp only
  rw [if_neg (show ¬ ((0 : Int) = 0 ∧ (row.length : Int) > 65536) by omega), if_neg (show ¬ ((0 : Int) = 0 ∧ (row.length : Int) = 0) by omega)]
  have ed : (encRow row ++ rest).drop ((putS 3 row.length).length : Int).toNat = encR (-1) row ++ rest := by
    unfold encRow
    rw [List.append_assoc, Int.toNat_natCast, List.drop_left]
  rw [ed, on.2, Option.bind_some]
  unfold snap_TakeRow.g
  rw [List.length_append] at hl
  rw [if_pos rfl, w64 (by simp only [List.length_append]; omega) (by simp only [List.length_append]; omega)]
  refine congrArg some (Prod.ext rfl (Prod.ext ?_ rfl))
  simp only [List.length_append]; omega
theorem row_short {row : List Int} (h0 : 1 ≤ row.length) (h1 : row.length ≤ 900) (ok : okR (-1) row = true) (j : Nat) (hj : j < (encRow row).length) (k : Nat) (hk : row.length + 10 ≤ k) :
    snap_TakeRow.f k ((encRow row).take j) = some ([], 0, 7) := by
  have hb : Bytes (encRow row) := by
    have on := row_on [] (by intro x hx; cases hx) row (-1) 0 row.length [] k ok (by omega) (by omega) (by omega) (by omega) (by omega) (by simp; omega) (by omega)
    rw [List.append_nil] at on
    intro x hx
    rcases List.mem_append.mp hx with h | h
    · exact put_bytes (by omega) (by omega) x h
    · exact on.1 x h
  have hbt := hb.take j
  unfold snap_TakeRow.f
  rw [reader_f (by omega) _ hbt]
  obtain ⟨k, rfl⟩ : ∃ m, k = m + 1 := ⟨k - 1, by omega⟩
  unfold encRow at hj ⊢
  rw [List.length_append] at hj
  rw [List.take_append]
  by_cases c : j < (putS 3 (row.length : Int)).length
  · rw [show j - (putS 3 (row.length : Int)).length = 0 by omega, List.take_zero, List.append_nil, take_short (by omega) (by omega) j c, Option.bind_some]
    simp only [snap_TakeRow.l]
    rfl
  · rw [List.take_of_length_le (by omega), take_put (by omega) (by omega), Option.bind_some]
    dsimp only
    rw [if_neg (show ¬ ((0 : Int) = 0 ∧ (row.length : Int) > 65536) by omega), if_neg (show ¬ ((0 : Int) = 0 ∧ (row.length : Int) = 0) by omega), Int.toNat_natCast, List.drop_left]
    obtain ⟨_, o, l2, e⟩ := row_cut row (-1) 0 row.length [] (k + 1) (j - (putS 3 (row.length : Int)).length) ok (by omega) (by omega) (by omega) (by omega) (by omega) (by simp; omega) (by omega) (by omega)
    rw [e, Option.bind_some]; rfl
end Go.Proofs.YtolljobehfmffaaDoor.Pure
