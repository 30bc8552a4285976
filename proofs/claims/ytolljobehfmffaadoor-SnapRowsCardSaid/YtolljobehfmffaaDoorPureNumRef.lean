/- What was put is taken, whatever stands behind it, and no beginning of it is; how long a number's bytes are; the document's example. -/
import Derived.Test.YtolljobehfmffaaDoorPx19
import Derived.Test.YtolljobehfmffaaDoorPx21
import Derived.Test.YtolljobehfmffaaDoorPureNum
namespace Go.Proofs.YtolljobehfmffaaDoor.Pure
open Go.RowKit Go.Proofs.YtolljobehfmffaaDoor.P Go.Proofs.YtolljobehfmffaaDoorW.PrintWords Go.Proofs.YtolljobehfmffaaDoorW.PrintLast Go.Proofs.YtolljobehfmffaaDoorW.PrintMore

theorem put_cases {n : Int} (h0 : 0 ≤ n) (h1 : n ≤ 268435455) :
    (n < 128 ∧ putS 3 n = [n]) ∨ (128 ≤ n ∧ n < 16384 ∧ putS 3 n = [n % 128 + 128, n / 128]) ∨
    (16384 ≤ n ∧ n < 2097152 ∧ putS 3 n = [n % 128 + 128, n / 128 % 128 + 128, n / 16384]) ∨
    (2097152 ≤ n ∧ putS 3 n = [n % 128 + 128, n / 128 % 128 + 128, n / 16384 % 128 + 128, n / 2097152]) := by
  have d2 : n / 128 / 128 = n / 16384 := by omega
  have d3 : n / 16384 / 128 = n / 2097152 := by omega
  by_cases c : n < 128
  · exact .inl ⟨c, by simp only [putS]; rw [if_neg (by omega), show n % 256 = n from by omega]⟩
  by_cases c1 : n < 16384
  · exact .inr (.inl ⟨by omega, c1, by simp only [putS]; rw [if_pos (by omega), if_neg (by omega), show n / 128 % 256 = n / 128 from by omega]⟩)
  by_cases c2 : n < 2097152
  · exact .inr (.inr (.inl ⟨by omega, c2, by simp only [putS]; rw [if_pos (by omega), if_pos (by omega), if_neg (by omega), d2, show n / 16384 % 256 = n / 16384 from by omega]⟩))
  · exact .inr (.inr (.inr ⟨by omega, by simp only [putS]; rw [if_pos (by omega), if_pos (by omega), if_pos (by omega), d2, d3, show n / 2097152 % 256 = n / 2097152 from by omega]⟩))
theorem put_bytes {n : Int} (h0 : 0 ≤ n) (h1 : n ≤ 268435455) : Bytes (putS 3 n) := by
  intro x hx
  rcases put_cases h0 h1 with ⟨_, e⟩ | ⟨_, _, e⟩ | ⟨_, _, e⟩ | ⟨_, e⟩ <;> rw [e] at hx <;> simp only [List.mem_cons, List.not_mem_nil, or_false] at hx
  · omega
  · rcases hx with rfl | rfl <;> omega
  · rcases hx with rfl | rfl | rfl <;> omega
  · rcases hx with rfl | rfl | rfl | rfl <;> omega
theorem put_len {n : Int} (h0 : 0 ≤ n) (h1 : n ≤ 268435455) : 1 ≤ (putS 3 n).length ∧ (putS 3 n).length ≤ 4 := by
  rcases put_cases h0 h1 with ⟨_, e⟩ | ⟨_, _, e⟩ | ⟨_, _, e⟩ | ⟨_, e⟩ <;> rw [e] <;> simp
/-- What was put is taken, whatever stands behind. -/
theorem take_put {n : Int} (h0 : 0 ≤ n) (h1 : n ≤ 268435455) (l : List Int) : takeS (putS 3 n ++ l) = (n, ((putS 3 n).length : Int), 0) := by
  rcases put_cases h0 h1 with ⟨_, e⟩ | ⟨_, _, e⟩ | ⟨_, _, e⟩ | ⟨_, e⟩ <;> rw [e]
  · rcases l with _ | ⟨a, _ | ⟨b, _ | ⟨c, l⟩⟩⟩ <;> simp only [List.cons_append, List.nil_append, takeS] <;> rw [if_neg (by omega)] <;> rfl
  · rcases l with _ | ⟨a, _ | ⟨b, l⟩⟩ <;> simp only [List.cons_append, List.nil_append, takeS] <;> rw [if_pos (by omega), if_neg (by omega), if_neg (by omega)] <;> refine Prod.ext ?_ rfl <;> simp only [] <;> omega
  · rcases l with _ | ⟨a, l⟩ <;> simp only [List.cons_append, List.nil_append, takeS] <;> rw [if_pos (by omega), if_pos (by omega), if_neg (by omega), if_neg (by omega)] <;> refine Prod.ext ?_ rfl <;> simp only [] <;> omega
  · simp only [List.cons_append, List.nil_append, takeS]; rw [if_pos (by omega), if_pos (by omega), if_pos (by omega), if_neg (by omega), if_neg (by omega)]; refine Prod.ext ?_ rfl; simp only []; omega
/-- No beginning of it is. -/
theorem take_short {n : Int} (h0 : 0 ≤ n) (h1 : n ≤ 268435455) (i : Nat) (hi : i < (putS 3 n).length) : takeS ((putS 3 n).take i) = (0, 0, 7) := by
  rcases put_cases h0 h1 with ⟨_, e⟩ | ⟨_, _, e⟩ | ⟨_, _, e⟩ | ⟨_, e⟩ <;> rw [e] at hi ⊢ <;> simp only [List.length_cons, List.length_nil] at hi
  · obtain rfl : i = 0 := by omega
    rfl
  · rcases (by omega : i = 0 ∨ i = 1) with rfl | rfl
    · rfl
    · simp only [List.take_succ_cons, List.take_zero, takeS]; rw [if_pos (by omega)]
  · rcases (by omega : i = 0 ∨ i = 1 ∨ i = 2) with rfl | rfl | rfl
    · rfl
    · simp only [List.take_succ_cons, List.take_zero, takeS]; rw [if_pos (by omega)]
    · simp only [List.take_succ_cons, List.take_zero, takeS]; rw [if_pos (by omega), if_pos (by omega)]
  · rcases (by omega : i = 0 ∨ i = 1 ∨ i = 2 ∨ i = 3) with rfl | rfl | rfl | rfl
    · rfl
    · simp only [List.take_succ_cons, List.take_zero, takeS]; rw [if_pos (by omega)]
    · simp only [List.take_succ_cons, List.take_zero, takeS]; rw [if_pos (by omega), if_pos (by omega)]
    · simp only [List.take_succ_cons, List.take_zero, takeS]; rw [if_pos (by omega), if_pos (by omega), if_pos (by omega)]
theorem put_inj {n m : Int} (h0 : 0 ≤ n) (h1 : n ≤ 268435455) (k0 : 0 ≤ m) (k1 : m ≤ 268435455) (h : putS 3 n = putS 3 m) : n = m := by
  have a := take_put h0 h1 []
  have b := take_put k0 k1 []
  rw [h, b] at a
  exact (Prod.ext_iff.mp a).1.symm
theorem str_inj : ∀ {a b : List Int}, Bytes a → Bytes b → (strOfNums a).toList = (strOfNums b).toList → a = b
  | [], [], _, _, _ => rfl
  | [], b :: t, _, _, h => by rw [Lib.strOfNums_toList, Lib.strOfNums_toList] at h; simp [Lib.bytesOf] at h
  | a :: t, [], _, _, h => by rw [Lib.strOfNums_toList, Lib.strOfNums_toList] at h; simp [Lib.bytesOf] at h
  | a :: s, b :: t, ha, hb, h => by
    rw [Lib.strOfNums_toList, Lib.strOfNums_toList] at h
    simp only [Lib.bytesOf, List.map_cons, List.cons.injEq] at h
    have ha0 := ha a (by simp); have hb0 := hb b (by simp)
    have e : a = b := by
      have h2 := congrArg UInt8.toNat h.1
      simp only [UInt8.toNat_ofNat'] at h2
      omega
    have r : s = t := str_inj (fun x hx => ha x (by simp [hx])) (fun x hx => hb x (by simp [hx])) (by rw [Lib.strOfNums_toList, Lib.strOfNums_toList]; exact h.2)
    rw [e, r]
theorem bytes_wf {l : List Int} (h : ∀ x ∈ l, (Lit.int .u8 x).wf = true) : Bytes l := fun x hx => by
  have := h x hx
  simp only [Lit.wf, IntKind.min, IntKind.max, IntKind.signed, IntKind.bits, Bool.and_eq_true] at this
  simp at this
  omega
theorem u32_wf {a : Int} (h : (Lit.int .u32 a).wf = true) : 0 ≤ a ∧ a ≤ 4294967295 := by
  simp only [Lit.wf, IntKind.min, IntKind.max, IntKind.signed, IntKind.bits, Bool.and_eq_true] at h
  simp at h
  omega
theorem i64_wf {a : Int} (h : (Lit.int .i64 a).wf = true) : -9223372036854775808 ≤ a ∧ a ≤ 9223372036854775807 := by
  simp only [Lit.wf, IntKind.min, IntKind.max, IntKind.signed, IntKind.bits, Bool.and_eq_true] at h
  simp at h
  omega
theorem rd_zero (a : Int) (l : List Int) : rd (a :: l) 0 = a := rfl
theorem ref_put_l : ∀ (j : Nat) (k : Nat) (n : Int) (out : List Int), 0 ≤ n → n < 128 ^ (j + 1) → out.length + j ≤ 3 → n ≤ 268435455 → j < k → epitomeref02_Put.l0 k n out = some (out ++ putS j n, 0)
  | 0, k, n, out, h0, h1, ho, hn, hk => by
    obtain ⟨k, rfl⟩ : ∃ m, k = m + 1 := ⟨k - 1, by omega⟩
    simp only [epitomeref02_Put.l0, putS]
    rw [if_neg (by omega), if_pos (by omega)]
  | j + 1, k, n, out, h0, h1, ho, hn, hk => by
    obtain ⟨k, rfl⟩ : ∃ m, k = m + 1 := ⟨k - 1, by omega⟩
    simp only [epitomeref02_Put.l0, putS]
    by_cases c : n > 127
    · rw [if_pos c, if_pos (by omega), if_pos (by omega), Int.tdiv_eq_ediv_of_nonneg h0, Int.tmod_eq_emod_of_nonneg h0, w64 (x := n / 128) (by omega) (by omega), w64 (x := 128 + n % 128) (by omega) (by omega), show (128 + n % 128) % 256 = n % 128 + 128 from by omega]
      have h2 : n / 128 < 128 ^ (j + 1) := by rw [Int.pow_succ] at h1; omega
      rw [ref_put_l j k (n / 128) _ (by omega) h2 (by simp only [List.length_append, List.length_cons, List.length_nil]; omega) (by omega) (by omega)]
      simp
    · rw [if_neg c, if_pos (by omega), if_neg (by omega)]
theorem ref_put (k : Nat) (n : Int) : epitomeref02_Put.f (k + 8) n = number_Put.f n := by
  unfold epitomeref02_Put.f
  by_cases c : n < 0
  · rw [if_pos c, put_no (by omega)]; simp only [epitomeref02_Put.j0]; rw [if_pos (by trivial)]
  · rw [if_neg c]
    by_cases c1 : n > 268435455
    · rw [put_no (by omega), decide_eq_true c1]; simp only [epitomeref02_Put.j0]; rw [if_pos (by trivial)]
    · rw [put_f (by omega) (by omega), decide_eq_false c1]
      simp only [epitomeref02_Put.j0]
      rw [if_neg (by decide), ref_put_l 3 _ n [] (by omega) (by omega) (by simp) (by omega) (by omega)]
      rfl
theorem ref_more (k : Nat) (l : List Int) (i : Nat) (h : i < 4) (hl : i < l.length) (c : rd l (i : Int) > 127) : epitomeref02_Take.l0 (k + 1) l (i : Int) = epitomeref02_Take.l0 k l ((i + 1 : Nat) : Int) := by
  simp only [epitomeref02_Take.l0]
  rw [if_pos (by omega), if_pos (by omega), if_pos (by omega), if_pos c, w64 (by omega) (by omega)]; rfl
theorem ref_stop (k : Nat) (l : List Int) (i : Nat) (h : i < 4) (hl : i < l.length) (c : ¬ rd l (i : Int) > 127) : epitomeref02_Take.l0 (k + 1) l (i : Int) = epitomeref02_Take.j1 k l (i : Int) := by
  simp only [epitomeref02_Take.l0]
  rw [if_pos (by omega), if_pos (by omega), if_pos (by omega), if_neg c]
theorem ref_four (k : Nat) (l : List Int) : epitomeref02_Take.l0 (k + 2) l ((4 : Nat) : Int) = some (0, 0, 8) := by
  have e : epitomeref02_Take.j1 (k + 1) l ((4 : Nat) : Int) = some (0, 0, 8) := by simp only [epitomeref02_Take.j1]; rw [if_pos (by omega)]
  simp only [epitomeref02_Take.l0]
  by_cases c : (((4 : Nat) : Int)) < (l.length : Int)
  · rw [if_pos c, if_neg (by omega)]; exact e
  · rw [if_neg c]; exact e
theorem ref_short (k : Nat) (l : List Int) (i : Nat) (_ : i < 4) (hl : i = l.length) : epitomeref02_Take.l0 (k + 2) l (i : Int) = some (0, 0, 7) := by
  simp only [epitomeref02_Take.l0]
  rw [if_neg (by omega)]
  simp only [epitomeref02_Take.j1]
  rw [if_neg (by omega), if_pos (by omega)]
theorem ref_l1 (k : Nat) (l : List Int) (x5 x6 : Int) (i : Nat) (hi : i < 4) (hl : i < l.length) (h0 : 0 ≤ x6) (h1 : x6 < 4294967296) (hb : 0 ≤ rd l (i : Int) ∧ rd l (i : Int) ≤ 255) :
    epitomeref02_Take.l1 (k + 1) l x5 x6 (i : Int) = epitomeref02_Take.l1 k l x5 (x6 * 128 + rd l (i : Int) - 128) ((i : Int) - 1) := by
  simp only [epitomeref02_Take.l1]
  rw [if_pos (by omega), if_pos (by omega), if_pos (by omega), w64 (x := x6 * 128) (by omega) (by omega), w64 (x := rd l (i : Int)) (by omega) (by omega), w64 (x := x6 * 128 + rd l (i : Int)) (by omega) (by omega), w64 (x := x6 * 128 + rd l (i : Int) - 128) (by omega) (by omega), w64 (x := (i : Int) - 1) (by omega) (by omega)]
theorem ref_l1_end (k : Nat) (l : List Int) (i : Nat) (hi : i < 4) (x6 : Int) : epitomeref02_Take.l1 (k + 1) l (i : Int) x6 (((0 : Nat) : Int) - 1) = some (x6, (i : Int) + 1, 0) := by
  simp only [epitomeref02_Take.l1]; rw [if_neg (by omega), w64 (by omega) (by omega)]
theorem ref_j1 (k : Nat) (l : List Int) (i : Nat) (h : i < 4) (hl : i < l.length) (hb : 0 ≤ rd l (i : Int) ∧ rd l (i : Int) ≤ 127) :
    epitomeref02_Take.j1 (k + 2) l (i : Int) = if 0 < i ∧ rd l (i : Int) = 0 then some (0, 0, 8) else epitomeref02_Take.l1 k l (i : Int) (rd l (i : Int)) ((i : Int) - 1) := by
  simp only [epitomeref02_Take.j1]
  rw [if_neg (by omega), if_neg (by omega)]
  have e : ∀ b : Bool, epitomeref02_Take.j2 (k + 1) l (i : Int) b = if b = true then some (0, 0, 8) else epitomeref02_Take.l1 k l (i : Int) (rd l (i : Int)) ((i : Int) - 1) := by
    intro b
    simp only [epitomeref02_Take.j2]
    cases b
    · simp only [Bool.false_eq_true, if_false]
      rw [if_pos (by omega), if_pos (by omega), w64 (x := rd l (i : Int)) (by omega) (by omega), w64 (x := (i : Int) - 1) (by omega) (by omega)]
    · simp only [if_true]
  by_cases c : (i : Int) > 0
  · rw [if_pos c, if_pos (by omega), if_pos (by omega), e]
    by_cases c1 : rd l (i : Int) = 0
    · rw [if_pos (show 0 < i ∧ rd l (i : Int) = 0 from ⟨by omega, c1⟩), if_pos (by simp [c1])]
    · rw [if_neg (show ¬ (0 < i ∧ rd l (i : Int) = 0) from fun h => c1 h.2), if_neg (by simp [c1])]
  · rw [if_neg c, e, if_neg (by decide), if_neg (fun h => c (by omega))]
theorem rd0 (a : Int) (l : List Int) : rd (a :: l) ((0 : Nat) : Int) = a := rfl
theorem rd1 (a b : Int) (l : List Int) : rd (a :: b :: l) ((1 : Nat) : Int) = b := rfl
theorem rd2 (a b c : Int) (l : List Int) : rd (a :: b :: c :: l) ((2 : Nat) : Int) = c := rfl
theorem rd3 (a b c d : Int) (l : List Int) : rd (a :: b :: c :: d :: l) ((3 : Nat) : Int) = d := rfl
theorem ref_one (k : Nat) (a : Int) (l : List Int) (ha : 0 ≤ a) (c : a < 128) : epitomeref02_Take.l0 (k + 12) (a :: l) ((0 : Nat) : Int) = some (a, 1, 0) := by
  rw [ref_stop _ _ 0 (by omega) (by simp) (by rw [rd0]; omega), ref_j1 _ _ 0 (by omega) (by simp) (by rw [rd0]; omega), if_neg (by omega), rd0]
  exact ref_l1_end _ _ 0 (by omega) _
theorem ref_two (k : Nat) (a b : Int) (l : List Int) (ha : 128 ≤ a ∧ a ≤ 255) (hb : 0 ≤ b) (c : b < 128) : epitomeref02_Take.l0 (k + 12) (a :: b :: l) ((0 : Nat) : Int) = if b = 0 then some (0, 0, 8) else some (a - 128 + b * 128, 2, 0) := by
  rw [ref_more _ _ 0 (by omega) (by simp) (by rw [rd0]; omega), ref_stop _ _ 1 (by omega) (by simp) (by rw [rd1]; omega), ref_j1 _ _ 1 (by omega) (by simp) (by rw [rd1]; omega), rd1]
  by_cases e : b = 0
  · rw [if_pos ⟨by omega, e⟩, if_pos e]
  · rw [if_neg (fun h => e h.2), if_neg e, show ((1 : Nat) : Int) - 1 = ((0 : Nat) : Int) from rfl, ref_l1 _ _ _ _ 0 (by omega) (by simp) (by omega) (by omega) (by rw [rd0]; omega), rd0]
    refine (ref_l1_end _ _ _ (by omega) _).trans ?_
    rw [show b * 128 + a - 128 = a - 128 + b * 128 from by omega]; rfl
theorem ref_three (k : Nat) (a b c : Int) (l : List Int) (ha : 128 ≤ a ∧ a ≤ 255) (hb : 128 ≤ b ∧ b ≤ 255) (hc : 0 ≤ c) (h : c < 128) : epitomeref02_Take.l0 (k + 12) (a :: b :: c :: l) ((0 : Nat) : Int) = if c = 0 then some (0, 0, 8) else some (a - 128 + (b - 128) * 128 + c * 16384, 3, 0) := by
  rw [ref_more _ _ 0 (by omega) (by simp) (by rw [rd0]; omega), ref_more _ _ 1 (by omega) (by simp) (by rw [rd1]; omega), ref_stop _ _ 2 (by omega) (by simp) (by rw [rd2]; omega), ref_j1 _ _ 2 (by omega) (by simp) (by rw [rd2]; omega), rd2]
  by_cases e : c = 0
  · rw [if_pos ⟨by omega, e⟩, if_pos e]
  · rw [if_neg (fun h => e h.2), if_neg e, show ((2 : Nat) : Int) - 1 = ((1 : Nat) : Int) from rfl, ref_l1 _ _ _ _ 1 (by omega) (by simp) (by omega) (by omega) (by rw [rd1]; omega), rd1, show ((1 : Nat) : Int) - 1 = ((0 : Nat) : Int) from rfl, ref_l1 _ _ _ _ 0 (by omega) (by simp) (by omega) (by omega) (by rw [rd0]; omega), rd0]
    refine (ref_l1_end _ _ _ (by omega) _).trans ?_
    rw [show (c * 128 + b - 128) * 128 + a - 128 = a - 128 + (b - 128) * 128 + c * 16384 from by omega]; rfl
theorem ref_tetra (k : Nat) (a b c d : Int) (l : List Int) (ha : 128 ≤ a ∧ a ≤ 255) (hb : 128 ≤ b ∧ b ≤ 255) (hc : 128 ≤ c ∧ c ≤ 255) (hd : 0 ≤ d) (h : d < 128) : epitomeref02_Take.l0 (k + 12) (a :: b :: c :: d :: l) ((0 : Nat) : Int) = if d = 0 then some (0, 0, 8) else some (a - 128 + (b - 128) * 128 + (c - 128) * 16384 + d * 2097152, 4, 0) := by
  rw [ref_more _ _ 0 (by omega) (by simp) (by rw [rd0]; omega), ref_more _ _ 1 (by omega) (by simp) (by rw [rd1]; omega), ref_more _ _ 2 (by omega) (by simp) (by rw [rd2]; omega), ref_stop _ _ 3 (by omega) (by simp) (by rw [rd3]; omega), ref_j1 _ _ 3 (by omega) (by simp) (by rw [rd3]; omega), rd3]
  by_cases e : d = 0
  · rw [if_pos ⟨by omega, e⟩, if_pos e]
  · rw [if_neg (fun h => e h.2), if_neg e, show ((3 : Nat) : Int) - 1 = ((2 : Nat) : Int) from rfl, ref_l1 _ _ _ _ 2 (by omega) (by simp) (by omega) (by omega) (by rw [rd2]; omega), rd2, show ((2 : Nat) : Int) - 1 = ((1 : Nat) : Int) from rfl, ref_l1 _ _ _ _ 1 (by omega) (by simp) (by omega) (by omega) (by rw [rd1]; omega), rd1, show ((1 : Nat) : Int) - 1 = ((0 : Nat) : Int) from rfl, ref_l1 _ _ _ _ 0 (by omega) (by simp) (by omega) (by omega) (by rw [rd0]; omega), rd0]
    refine (ref_l1_end _ _ _ (by omega) _).trans ?_
    rw [show ((d * 128 + c - 128) * 128 + b - 128) * 128 + a - 128 = a - 128 + (b - 128) * 128 + (c - 128) * 16384 + d * 2097152 from by omega]; rfl
theorem ite_some {α : Type} (c : Prop) [Decidable c] (a b : α) : (if c then some a else some b) = some (if c then a else b) := by split <;> rfl
theorem ref_take (k : Nat) (l : List Int) (h : Bytes l) : epitomeref02_Take.f (k + 12) l = some (takeS l) := by
  unfold epitomeref02_Take.f
  rw [show (0 : Int) = ((0 : Nat) : Int) from rfl]
  match l, h with
  | [], h => exact ref_short _ _ 0 (by omega) rfl
  | [a], h =>
    have ha := h a (by simp)
    by_cases c : a ≥ 128
    · rw [ref_more _ _ 0 (by omega) (by simp) (by rw [rd0]; omega), ref_short _ _ 1 (by omega) rfl]; simp only [takeS]; rw [if_pos c]
    · rw [ref_one _ _ _ ha.1 (by omega)]; simp only [takeS]; rw [if_neg c]
  | [a, b], h =>
    have ha := h a (by simp); have hb := h b (by simp)
    by_cases c : a ≥ 128
    · by_cases c1 : b ≥ 128
      · rw [ref_more _ _ 0 (by omega) (by simp) (by rw [rd0]; omega), ref_more _ _ 1 (by omega) (by simp) (by rw [rd1]; omega), ref_short _ _ 2 (by omega) rfl]; simp only [takeS]; rw [if_pos c, if_pos c1]
      · rw [ref_two _ _ _ _ (by omega) hb.1 (by omega), ite_some]; simp only [takeS]; rw [if_pos c, if_neg c1]
    · rw [ref_one _ _ _ ha.1 (by omega)]; simp only [takeS]; rw [if_neg c]
  | [a, b, d], h =>
    have ha := h a (by simp); have hb := h b (by simp); have hd := h d (by simp)
    by_cases c : a ≥ 128
    · by_cases c1 : b ≥ 128
      · by_cases c2 : d ≥ 128
        · rw [ref_more _ _ 0 (by omega) (by simp) (by rw [rd0]; omega), ref_more _ _ 1 (by omega) (by simp) (by rw [rd1]; omega), ref_more _ _ 2 (by omega) (by simp) (by rw [rd2]; omega), ref_short _ _ 3 (by omega) rfl]; simp only [takeS]; rw [if_pos c, if_pos c1, if_pos c2]
        · rw [ref_three _ _ _ _ _ (by omega) (by omega) hd.1 (by omega), ite_some]; simp only [takeS]; rw [if_pos c, if_pos c1, if_neg c2]
      · rw [ref_two _ _ _ _ (by omega) hb.1 (by omega), ite_some]; simp only [takeS]; rw [if_pos c, if_neg c1]
    · rw [ref_one _ _ _ ha.1 (by omega)]; simp only [takeS]; rw [if_neg c]
  | a :: b :: d :: e :: l, h =>
    have ha := h a (by simp); have hb := h b (by simp); have hd := h d (by simp); have he := h e (by simp)
    by_cases c : a ≥ 128
    · by_cases c1 : b ≥ 128
      · by_cases c2 : d ≥ 128
        · by_cases c3 : e ≥ 128
          · rw [ref_more _ _ 0 (by omega) (by simp) (by rw [rd0]; omega), ref_more _ _ 1 (by omega) (by simp) (by rw [rd1]; omega), ref_more _ _ 2 (by omega) (by simp) (by rw [rd2]; omega), ref_more _ _ 3 (by omega) (by simp) (by rw [rd3]; omega), ref_four _ _]; simp only [takeS]; rw [if_pos c, if_pos c1, if_pos c2, if_pos c3]
          · rw [ref_tetra _ _ _ _ _ _ (by omega) (by omega) (by omega) he.1 (by omega), ite_some]; simp only [takeS]; rw [if_pos c, if_pos c1, if_pos c2, if_neg c3]
        · rw [ref_three _ _ _ _ _ (by omega) (by omega) hd.1 (by omega), ite_some]; simp only [takeS]; rw [if_pos c, if_pos c1, if_neg c2]
      · rw [ref_two _ _ _ _ (by omega) hb.1 (by omega), ite_some]; simp only [takeS]; rw [if_pos c, if_neg c1]
    · rw [ref_one _ _ _ ha.1 (by omega)]; simp only [takeS]; rw [if_neg c]
end Go.Proofs.YtolljobehfmffaaDoor.Pure
