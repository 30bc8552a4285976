/- What was put is taken, whatever stands behind it; each beginning of it is too short; and it has as few bytes as may be. For every uint32, made 0 to 2^28 - 1, and every slice of bytes, the first 20 of it. -/
import Derived.Test.YtolljobehfmffaaPx6
import Derived.Test.YtolljobehfmffaaPureNumMore
namespace Go.Proofs.Ytolljobehfmffaa.Pure
open Go.RowKit Go.Proofs.Ytolljobehfmffaa.P Go.Proofs.YtolljobehfmffaaW.PrintWords Go.Proofs.YtolljobehfmffaaW.PrintLast Go.Proofs.YtolljobehfmffaaW.PrintMore
theorem few_f (l : List Int) : epitomelaw02_few.f l = some (l.take 20) := by
  unfold epitomelaw02_few.f mn
  by_cases c : (20 : Int) < (l.length : Int)
  · rw [if_pos c, if_pos (by omega), if_pos (by omega)]; rfl
  · rw [if_neg c, if_pos (by omega), if_pos (by omega)]
    rw [List.take_of_length_le (by omega), List.take_of_length_le (by omega)]
theorem Bytes.take {l : List Int} (h : Bytes l) (i : Nat) : Bytes (l.take i) := fun x hx => h x (List.mem_of_mem_take hx)
theorem shl_one (i : Nat) (hi : i ≤ 4) : shl .i64 1 (7 * (i : Int)) = 2 ^ (7 * i) := by
  unfold shl
  rw [show min (7 * (i : Int)).toNat IntKind.i64.bits = 7 * i from by have : IntKind.i64.bits = 64 := rfl; omega, IntKind.wrap_i64]
  rcases (by omega : i = 0 ∨ i = 1 ∨ i = 2 ∨ i = 3 ∨ i = 4) with rfl | rfl | rfl | rfl | rfl <;> decide
theorem shlw (i : Nat) (hi : i ≤ 4) : shl .i64 1 (wrap64 (7 * (i : Int))) = 2 ^ (7 * i) := by
  rw [w64 (by omega) (by omega)]; exact shl_one i hi
theorem shlw1 (i : Nat) (hi : i ≤ 3) : shl .i64 1 (wrap64 (7 * (wrap64 (((i + 1 : Nat) : Int) - 1)))) = 2 ^ (7 * i) := by
  rw [w64 (x := ((i + 1 : Nat) : Int) - 1) (by omega) (by omega), show ((i + 1 : Nat) : Int) - 1 = (i : Int) from by omega]; exact shlw i (by omega)
theorem wge (i : Nat) (hi : i ≤ 4) : 0 ≤ wrap64 (7 * (i : Int)) := by rw [w64 (by omega) (by omega)]; omega
theorem wge1 (i : Nat) (hi : i ≤ 3) : 0 ≤ wrap64 (7 * (wrap64 (((i + 1 : Nat) : Int) - 1))) := by rw [w64 (x := ((i + 1 : Nat) : Int) - 1) (by omega) (by omega), show ((i + 1 : Nat) : Int) - 1 = (i : Int) from by omega]; exact wge i (by omega)
theorem back_loop {x : Int} (h0 : 0 ≤ x) (h1 : x ≤ 268435455) (d : Nat) : ∀ (k i : Nat), i ≤ (putS 3 x).length → (putS 3 x).length - i = d → d + 8 ≤ k →
    epitomelaw02_NumberBack.l0 k true x (putS 3 x) 0 x ((putS 3 x).length : Int) 0 (i : Int) = some true := by
  have hp := put_len h0 h1
  induction d with
  | zero =>
    intro k i hi hd hk
    obtain ⟨k, rfl⟩ : ∃ j, k = j + 1 := ⟨k - 1, by omega⟩
    obtain rfl : i = (putS 3 x).length := by omega
    simp only [epitomelaw02_NumberBack.l0]
    rw [if_neg (by omega), if_pos (by omega), if_pos (by omega)]
    rcases put_cases h0 h1 with ⟨a, e⟩ | ⟨a, b, e⟩ | ⟨a, b, e⟩ | ⟨a, e⟩
    · have hL : (putS 3 x).length = 1 := by rw [e]; rfl
      rw [hL, if_pos (by omega), shlw 1 (by omega), if_pos (wge 1 (by omega)), if_pos (by trivial), if_pos (by trivial), if_pos (by trivial), if_pos (by trivial), if_pos (by trivial), decide_eq_true (by omega)]
    · have hL : (putS 3 x).length = 2 := by rw [e]; rfl
      rw [hL, if_neg (by omega), shlw1 1 (by omega), shlw 2 (by omega), if_pos (wge1 1 (by omega)), if_pos (by omega), if_pos (wge 2 (by omega)), if_pos (by trivial), if_pos (by trivial), if_pos (by trivial), if_pos (by trivial), if_pos (by trivial), decide_eq_true (by omega)]
    · have hL : (putS 3 x).length = 3 := by rw [e]; rfl
      rw [hL, if_neg (by omega), shlw1 2 (by omega), shlw 3 (by omega), if_pos (wge1 2 (by omega)), if_pos (by omega), if_pos (wge 3 (by omega)), if_pos (by trivial), if_pos (by trivial), if_pos (by trivial), if_pos (by trivial), if_pos (by trivial), decide_eq_true (by omega)]
    · have hL : (putS 3 x).length = 4 := by rw [e]; rfl
      rw [hL, if_neg (by omega), shlw1 3 (by omega), shlw 4 (by omega), if_pos (wge1 3 (by omega)), if_pos (by omega), if_pos (wge 4 (by omega)), if_pos (by trivial), if_pos (by trivial), if_pos (by trivial), if_pos (by trivial), if_pos (by trivial), decide_eq_true (by omega)]
  | succ d ih =>
    intro k i hi hd hk
    obtain ⟨k, rfl⟩ : ∃ j, k = j + 1 := ⟨k - 1, by omega⟩
    simp only [epitomelaw02_NumberBack.l0]
    rw [if_pos (by omega), if_pos (by omega), if_pos (by omega), take_ge (by omega) ((put_bytes h0 h1).take _), show ((i : Int)).toNat = i from by omega, take_short h0 h1 i (by omega)]
    simp only [Option.bind_some]
    rw [if_pos (by trivial), w64 (by omega) (by omega)]
    exact ih k (i + 1) (by omega) (by omega) (by omega)
theorem NumberBack : epitomelaw02_NumberBack.Pure := by
  intro a0 l h h1 h2 hw
  obtain ⟨h0, h3⟩ := u32_wf h
  have hb := bytes_wf hw
  refine ⟨20, ?_⟩
  unfold epitomelaw02_NumberBack.f
  rw [shown_ok (by omega), low28 h0 h3, put_f (by omega) (by omega), few_f]
  simp only [Option.bind_some, List.nil_append, List.length_nil]
  have hp := put_len (n := a0 % 268435456) (by omega) (by omega)
  have ht : (l.take 20).length ≤ 20 := List.length_take_le _ _
  rw [if_pos (by omega), if_pos (by omega), take_ge (by omega) (by
    intro x hx
    rcases List.mem_append.mp hx with h4 | h4
    · exact put_bytes (by omega) (by omega) x h4
    · exact hb.take 20 x h4), take_put (by omega) (by omega)]
  simp only [Option.bind_some]
  exact back_loop (by omega) (by omega) _ 20 0 (by omega) rfl (by omega)
end Go.Proofs.Ytolljobehfmffaa.Pure
