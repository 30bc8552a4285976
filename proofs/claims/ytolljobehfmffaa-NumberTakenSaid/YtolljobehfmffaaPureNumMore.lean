/- What was put is taken, whatever stands behind it, and no beginning of it is; how long a number's bytes are; the document's example. -/
import Derived.Test.YtolljobehfmffaaPx3
import Derived.Test.YtolljobehfmffaaPureNum
namespace Go.Proofs.Ytolljobehfmffaa.Pure
open Go.RowKit Go.Proofs.Ytolljobehfmffaa.P Go.Proofs.YtolljobehfmffaaW.PrintWords Go.Proofs.YtolljobehfmffaaW.PrintLast Go.Proofs.YtolljobehfmffaaW.PrintMore

theorem put_cases {n : Int} (h0 : 0 ≤ n) (h1 : n ≤ 268435455) :
    (n < 128 ∧ putS 3 n = [n]) ∨ (128 ≤ n ∧ n < 16384 ∧ putS 3 n = [n % 128 + 128, n / 128]) ∨
    (16384 ≤ n ∧ n < 2097152 ∧ putS 3 n = [n % 128 + 128, n / 128 % 128 + 128, n / 16384]) ∨
    (2097152 ≤ n ∧ putS 3 n = [n % 128 + 128, n / 128 % 128 + 128, n / 16384 % 128 + 128, n / 2097152]) := by
  have d2 : n / 128 / 128 = n / 16384 := by omega
  have d3 : n / 16384 / 128 = n / 2097152 := by omega
  by_cases c : n < 128
  · exact .inl ⟨c, by simp only [putS]; rw [if_neg (by omega), show n % 256 = n from by omega]⟩
  by_cases c1 : n < 16384
  · exact .inr (.inl ⟨by omega, c1, by simp only [putS]; rw [if_pos (by omega), if_neg (by omega), show n / 128 % 256 = n / 128 from by omega]⟩)
  by_cases c2 : n < 2097152
  · exact .inr (.inr (.inl ⟨by omega, c2, by simp only [putS]; rw [if_pos (by omega), if_pos (by omega), if_neg (by omega), d2, show n / 16384 % 256 = n / 16384 from by omega]⟩))
  · exact .inr (.inr (.inr ⟨by omega, by simp only [putS]; rw [if_pos (by omega), if_pos (by omega), if_pos (by omega), d2, d3, show n / 2097152 % 256 = n / 2097152 from by omega]⟩))
theorem put_bytes {n : Int} (h0 : 0 ≤ n) (h1 : n ≤ 268435455) : Bytes (putS 3 n) := by
  intro x hx
  rcases put_cases h0 h1 with ⟨_, e⟩ | ⟨_, _, e⟩ | ⟨_, _, e⟩ | ⟨_, e⟩ <;> rw [e] at hx <;> simp only [List.mem_cons, List.not_mem_nil, or_false] at hx
  · omega
  · rcases hx with rfl | rfl <;> omega
  · rcases hx with rfl | rfl | rfl <;> omega
  · rcases hx with rfl | rfl | rfl | rfl <;> omega
theorem put_len {n : Int} (h0 : 0 ≤ n) (h1 : n ≤ 268435455) : 1 ≤ (putS 3 n).length ∧ (putS 3 n).length ≤ 4 := by
  rcases put_cases h0 h1 with ⟨_, e⟩ | ⟨_, _, e⟩ | ⟨_, _, e⟩ | ⟨_, e⟩ <;> rw [e] <;> simp
/-- What was put is taken, whatever stands behind. -/
theorem take_put {n : Int} (h0 : 0 ≤ n) (h1 : n ≤ 268435455) (l : List Int) : takeS (putS 3 n ++ l) = (n, ((putS 3 n).length : Int), 0) := by
  rcases put_cases h0 h1 with ⟨_, e⟩ | ⟨_, _, e⟩ | ⟨_, _, e⟩ | ⟨_, e⟩ <;> rw [e]
  · rcases l with _ | ⟨a, _ | ⟨b, _ | ⟨c, l⟩⟩⟩ <;> simp only [List.cons_append, List.nil_append, takeS] <;> rw [if_neg (by omega)] <;> rfl
  · rcases l with _ | ⟨a, _ | ⟨b, l⟩⟩ <;> simp only [List.cons_append, List.nil_append, takeS] <;> rw [if_pos (by omega), if_neg (by omega), if_neg (by omega)] <;> refine Prod.ext ?_ rfl <;> simp only [] <;> omega
  · rcases l with _ | ⟨a, l⟩ <;> simp only [List.cons_append, List.nil_append, takeS] <;> rw [if_pos (by omega), if_pos (by omega), if_neg (by omega), if_neg (by omega)] <;> refine Prod.ext ?_ rfl <;> simp only [] <;> omega
  · simp only [List.cons_append, List.nil_append, takeS]; rw [if_pos (by omega), if_pos (by omega), if_pos (by omega), if_neg (by omega), if_neg (by omega)]; refine Prod.ext ?_ rfl; simp only []; omega
/-- No beginning of it is. -/
theorem take_short {n : Int} (h0 : 0 ≤ n) (h1 : n ≤ 268435455) (i : Nat) (hi : i < (putS 3 n).length) : takeS ((putS 3 n).take i) = (0, 0, 7) := by
  rcases put_cases h0 h1 with ⟨_, e⟩ | ⟨_, _, e⟩ | ⟨_, _, e⟩ | ⟨_, e⟩ <;> rw [e] at hi ⊢ <;> simp only [List.length_cons, List.length_nil] at hi
  · obtain rfl : i = 0 := by omega
    rfl
  · rcases (by omega : i = 0 ∨ i = 1) with rfl | rfl
    · rfl
    · simp only [List.take_succ_cons, List.take_zero, takeS]; rw [if_pos (by omega)]
  · rcases (by omega : i = 0 ∨ i = 1 ∨ i = 2) with rfl | rfl | rfl
    · rfl
    · simp only [List.take_succ_cons, List.take_zero, takeS]; rw [if_pos (by omega)]
    · simp only [List.take_succ_cons, List.take_zero, takeS]; rw [if_pos (by omega), if_pos (by omega)]
  · rcases (by omega : i = 0 ∨ i = 1 ∨ i = 2 ∨ i = 3) with rfl | rfl | rfl | rfl
    · rfl
    · simp only [List.take_succ_cons, List.take_zero, takeS]; rw [if_pos (by omega)]
    · simp only [List.take_succ_cons, List.take_zero, takeS]; rw [if_pos (by omega), if_pos (by omega)]
    · simp only [List.take_succ_cons, List.take_zero, takeS]; rw [if_pos (by omega), if_pos (by omega), if_pos (by omega)]
theorem put_inj {n m : Int} (h0 : 0 ≤ n) (h1 : n ≤ 268435455) (k0 : 0 ≤ m) (k1 : m ≤ 268435455) (h : putS 3 n = putS 3 m) : n = m := by
  have a := take_put h0 h1 []
  have b := take_put k0 k1 []
  rw [h, b] at a
  exact (Prod.ext_iff.mp a).1.symm
theorem str_inj : ∀ {a b : List Int}, Bytes a → Bytes b → (strOfNums a).toList = (strOfNums b).toList → a = b
  | [], [], _, _, _ => rfl
  | [], b :: t, _, _, h => by rw [Lib.strOfNums_toList, Lib.strOfNums_toList] at h; simp [Lib.bytesOf] at h
  | a :: t, [], _, _, h => by rw [Lib.strOfNums_toList, Lib.strOfNums_toList] at h; simp [Lib.bytesOf] at h
  | a :: s, b :: t, ha, hb, h => by
    rw [Lib.strOfNums_toList, Lib.strOfNums_toList] at h
    simp only [Lib.bytesOf, List.map_cons, List.cons.injEq] at h
    have ha0 := ha a (by simp); have hb0 := hb b (by simp)
    have e : a = b := by
      have h2 := congrArg UInt8.toNat h.1
      simp only [UInt8.toNat_ofNat'] at h2
      omega
    have r : s = t := str_inj (fun x hx => ha x (by simp [hx])) (fun x hx => hb x (by simp [hx])) (by rw [Lib.strOfNums_toList, Lib.strOfNums_toList]; exact h.2)
    rw [e, r]
theorem bytes_wf {l : List Int} (h : ∀ x ∈ l, (Lit.int .u8 x).wf = true) : Bytes l := fun x hx => by
  have := h x hx
  simp only [Lit.wf, IntKind.min, IntKind.max, IntKind.signed, IntKind.bits, Bool.and_eq_true] at this
  simp at this
  omega
theorem u32_wf {a : Int} (h : (Lit.int .u32 a).wf = true) : 0 ≤ a ∧ a ≤ 4294967295 := by
  simp only [Lit.wf, IntKind.min, IntKind.max, IntKind.signed, IntKind.bits, Bool.and_eq_true] at h
  simp at h
  omega
theorem i64_wf {a : Int} (h : (Lit.int .i64 a).wf = true) : -9223372036854775808 ≤ a ∧ a ≤ 9223372036854775807 := by
  simp only [Lit.wf, IntKind.min, IntKind.max, IntKind.signed, IntKind.bits, Bool.and_eq_true] at h
  simp at h
  omega
theorem rd_zero (a : Int) (l : List Int) : rd (a :: l) 0 = a := rfl
theorem shown_ok {K : Nat} (hK : 6 ≤ K) : epitomelaw02_shown.f K = some true := by
  unfold epitomelaw02_shown.f
  rw [put_f (by omega) (by omega)]
  simp only [Option.bind_some]
  rw [take_ge hK (by intro x hx; simp at hx; omega)]
  simp only [Option.bind_some]
  have e : putS 3 300 = [172, 2] := by decide
  rw [e, Lib.strOfNums_toList, if_pos (by decide)]
  decide
end Go.Proofs.Ytolljobehfmffaa.Pure
