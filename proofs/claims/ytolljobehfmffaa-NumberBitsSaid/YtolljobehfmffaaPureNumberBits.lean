/- The first byte of a number says its lowest seven bits, and whether others follow, which say the rest. For every uint32, made 0 to 2^28 - 1. -/
import Derived.Test.YtolljobehfmffaaPx10
import Derived.Test.YtolljobehfmffaaPureNumMore
namespace Go.Proofs.Ytolljobehfmffaa.Pure
open Go.RowKit Go.Proofs.Ytolljobehfmffaa.P Go.Proofs.YtolljobehfmffaaW.PrintWords Go.Proofs.YtolljobehfmffaaW.PrintLast Go.Proofs.YtolljobehfmffaaW.PrintMore
theorem NumberBits : epitomelaw02_NumberBits.Pure := by
  intro a0 h
  obtain ⟨h0, h1⟩ := u32_wf h
  refine ⟨7, ?_⟩
  unfold epitomelaw02_NumberBits.f
  rw [shown_ok (by omega), low28 h0 h1]
  simp only [Option.bind_some]
  generalize hx : a0 % 268435456 = x
  have hx0 : 0 ≤ x := by omega
  have hx1 : x ≤ 268435455 := by omega
  rw [put_f hx0 hx1]
  simp only [Option.bind_some]
  have hl := put_len hx0 hx1
  have hb := (put_bytes hx0 hx1).rd (i := 0) (by omega) (by omega)
  rw [if_pos trivial, if_neg (by omega), if_pos (by omega), w64 (by omega) (by omega), Int.tmod_eq_emod_of_nonneg hb.1, Int.tmod_eq_emod_of_nonneg hx0]
  have e0 : rd (putS 3 x) 0 % 128 = x % 128 ∧ (rd (putS 3 x) 0 ≥ 128 ↔ x ≥ 128) := by
    rcases put_cases hx0 hx1 with ⟨_, e⟩ | ⟨_, _, e⟩ | ⟨_, _, e⟩ | ⟨_, e⟩ <;> rw [e, rd_zero] <;> omega
  rw [if_pos e0.1, show (decide (rd (putS 3 x) 0 ≥ 128) != decide (x ≥ 128)) = false from by simp [e0.2]]
  simp only [epitomelaw02_NumberBits.j0]
  rw [if_neg (by decide)]
  by_cases c : x < 128
  · rw [if_pos c, if_pos trivial]
    rcases put_cases hx0 hx1 with ⟨_, e⟩ | ⟨_, _, e⟩ | ⟨_, _, e⟩ | ⟨_, e⟩
    · rw [e]; rfl
    all_goals omega
  · rw [if_neg c, Int.tdiv_eq_ediv_of_nonneg hx0, w64 (by omega) (by omega), put_f (by omega) (by omega)]
    simp only [Option.bind_some]
    rw [if_pos trivial, if_pos trivial, if_pos (by omega)]
    have e1 : (putS 3 x).drop 1 = putS 3 (x / 128) := by
      have a := put_cases (n := x / 128) (by omega) (by omega)
      have d2 : x / 128 / 128 = x / 16384 := by omega
      have d3 : x / 128 / 16384 = x / 2097152 := by omega
      rcases put_cases hx0 hx1 with ⟨_, e⟩ | ⟨_, _, e⟩ | ⟨_, _, e⟩ | ⟨_, e⟩
      · omega
      · rcases a with ⟨_, e'⟩ | ⟨_, _, e'⟩ | ⟨_, _, e'⟩ | ⟨_, e'⟩
        · rw [e, e']; rfl
        all_goals omega
      · rcases a with ⟨_, e'⟩ | ⟨_, _, e'⟩ | ⟨_, _, e'⟩ | ⟨_, e'⟩
        · omega
        · rw [e, e', d2]; rfl
        all_goals omega
      · rcases a with ⟨_, e'⟩ | ⟨_, _, e'⟩ | ⟨_, _, e'⟩ | ⟨_, e'⟩
        · omega
        · omega
        · rw [e, e', d2, d3]; rfl
        · omega
    rw [e1]; simp
end Go.Proofs.Ytolljobehfmffaa.Pure
