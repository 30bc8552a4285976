/- A greater number has no fewer bytes, and numbers out of bounds have none. For all uint32s, made 0 to 2^28 - 1, and every int. -/
import Derived.Test.YtolljobehfmffaaPx8
import Derived.Test.YtolljobehfmffaaPureNumMore
namespace Go.Proofs.Ytolljobehfmffaa.Pure
open Go.RowKit Go.Proofs.Ytolljobehfmffaa.P Go.Proofs.YtolljobehfmffaaW.PrintWords Go.Proofs.YtolljobehfmffaaW.PrintLast Go.Proofs.YtolljobehfmffaaW.PrintMore
theorem len_mono {x y : Int} (h0 : 0 ≤ x) (h : x ≤ y) (h1 : y ≤ 268435455) : (putS 3 x).length ≤ (putS 3 y).length := by
  rcases put_cases h0 (by omega) with ⟨_, e⟩ | ⟨_, _, e⟩ | ⟨_, _, e⟩ | ⟨_, e⟩ <;> rcases put_cases (n := y) (by omega) h1 with ⟨_, e'⟩ | ⟨_, _, e'⟩ | ⟨_, _, e'⟩ | ⟨_, e'⟩ <;> rw [e, e'] <;> simp <;> omega
theorem NumberOrders : epitomelaw02_NumberOrders.Pure := by
  intro a0 a1 a2 h k m
  obtain ⟨h0, h1⟩ := u32_wf h
  obtain ⟨k0, k1⟩ := u32_wf k
  obtain ⟨m0, m1⟩ := i64_wf m
  refine ⟨7, ?_⟩
  unfold epitomelaw02_NumberOrders.f
  rw [shown_ok (by omega), low28 h0 h1, low28 k0 k1]
  simp only [Option.bind_some]
  generalize hx : a0 % 268435456 = x
  generalize hy : a1 % 268435456 = y
  have hx0 : 0 ≤ x := by omega
  have hx1 : x ≤ 268435455 := by omega
  have hy0 : 0 ≤ y := by omega
  have hy1 : y ≤ 268435455 := by omega
  have en : mn x y = min x y := by unfold mn; omega
  have ex : mx x y = max x y := by unfold mx; omega
  rw [en, ex, put_f (by omega) (by omega), put_f (by omega) (by omega)]
  simp only [Option.bind_some]
  have hl : ((putS 3 (min x y)).length : Int) ≤ ((putS 3 (max x y)).length : Int) := by
    have := len_mono (x := min x y) (y := max x y) (by omega) (by omega) (by omega); omega
  have he : (((strOfNums (putS 3 (min x y))).toList == (strOfNums (putS 3 (max x y))).toList) == (x == y)) = true := by
    by_cases c : x = y
    · subst c; simp
    · have c2 : ¬ ((strOfNums (putS 3 (min x y))).toList = (strOfNums (putS 3 (max x y))).toList) := fun e =>
        c (by have := put_inj (n := min x y) (m := max x y) (by omega) (by omega) (by omega) (by omega) (str_inj (put_bytes (by omega) (by omega)) (put_bytes (by omega) (by omega)) e); omega)
      rw [beq_eq_false_iff_ne.mpr c2, beq_eq_false_iff_ne.mpr c]; rfl
  by_cases c : a2 ≥ 0
  · rw [if_pos c]
    by_cases c1 : a2 ≤ 268435455
    · rw [if_pos c1, w64 (by omega) (by omega), put_no (by omega)]
      simp only [Option.bind_some]
      rw [if_pos trivial, if_pos trivial, if_pos trivial, if_pos hl, if_pos he]; rfl
    · rw [if_neg c1, put_no (by omega)]
      simp only [Option.bind_some]
      rw [if_pos trivial, if_pos trivial, if_pos trivial, if_pos hl, if_pos he]; rfl
  · rw [if_neg c, put_no (by omega)]
    simp only [Option.bind_some]
    rw [if_pos trivial, if_pos trivial, if_pos trivial, if_pos hl, if_pos he]; rfl
end Go.Proofs.Ytolljobehfmffaa.Pure
