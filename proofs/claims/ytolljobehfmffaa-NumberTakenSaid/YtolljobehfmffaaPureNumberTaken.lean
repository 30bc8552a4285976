/- What is taken from any bytes is what was put there; and bytes of which nothing is taken are no beginning of a number's, or one that is too short. For every slice of bytes, the first 20 of it. -/
import Derived.Test.YtolljobehfmffaaPx4
import Derived.Test.YtolljobehfmffaaPureNumMore
namespace Go.Proofs.Ytolljobehfmffaa.Pure
open Go.RowKit Go.Proofs.Ytolljobehfmffaa.P Go.Proofs.YtolljobehfmffaaW.PrintWords Go.Proofs.YtolljobehfmffaaW.PrintLast Go.Proofs.YtolljobehfmffaaW.PrintMore
theorem few_fT (l : List Int) : epitomelaw02_few.f l = some (l.take 20) := by
  unfold epitomelaw02_few.f mn
  by_cases c : (20 : Int) < (l.length : Int)
  · rw [if_pos c, if_pos (by omega), if_pos (by omega)]; rfl
  · rw [if_neg c, if_pos (by omega), if_pos (by omega)]
    rw [List.take_of_length_le (by omega), List.take_of_length_le (by omega)]
/-- What comes of taking: a number and its very bytes; or too short, and one byte more ends it; or of no number, whatever is behind. -/
theorem take_kinds (l : List Int) (h : Bytes l) :
    (∃ (n : Int) (k : Nat), takeS l = (n, (k : Int), 0) ∧ 0 ≤ n ∧ n ≤ 268435455 ∧ 1 ≤ k ∧ k ≤ l.length ∧ putS 3 n = l.take k) ∨
    (takeS l = (0, 0, 7) ∧ l.length < 4 ∧ ∃ n : Int, takeS (l ++ [1]) = (n, ((l.length + 1 : Nat) : Int), 0)) ∨
    (takeS l = (0, 0, 8) ∧ takeS (l ++ [1]) = (0, 0, 8)) := by
  have one : ∀ (a : Int) (l : List Int), 0 ≤ a → ¬ a ≥ 128 → takeS (a :: l) = (a, 1, 0) := by
    intro a l _ c
    rcases l with _ | ⟨b, _ | ⟨d, _ | ⟨e, l⟩⟩⟩ <;> simp only [takeS] <;> rw [if_neg c]
  have two : ∀ (a b : Int) (l : List Int), a ≥ 128 → ¬ b ≥ 128 → takeS (a :: b :: l) = if b = 0 then (0, 0, 8) else (a - 128 + b * 128, 2, 0) := by
    intro a b l c c1
    rcases l with _ | ⟨d, _ | ⟨e, l⟩⟩ <;> simp only [takeS] <;> rw [if_pos c, if_neg c1]
  have three : ∀ (a b d : Int) (l : List Int), a ≥ 128 → b ≥ 128 → ¬ d ≥ 128 → takeS (a :: b :: d :: l) = if d = 0 then (0, 0, 8) else (a - 128 + (b - 128) * 128 + d * 16384, 3, 0) := by
    intro a b d l c c1 c2
    rcases l with _ | ⟨e, l⟩ <;> simp only [takeS] <;> rw [if_pos c, if_pos c1, if_neg c2]
  have four : ∀ (a b d e : Int) (l : List Int), a ≥ 128 → b ≥ 128 → d ≥ 128 → ¬ e ≥ 128 → takeS (a :: b :: d :: e :: l) = if e = 0 then (0, 0, 8) else (a - 128 + (b - 128) * 128 + (d - 128) * 16384 + e * 2097152, 4, 0) := by
    intro a b d e l c c1 c2 c3
    simp only [takeS]; rw [if_pos c, if_pos c1, if_pos c2, if_neg c3]
  have long : ∀ (a b d e : Int) (l : List Int), a ≥ 128 → b ≥ 128 → d ≥ 128 → e ≥ 128 → takeS (a :: b :: d :: e :: l) = (0, 0, 8) := by
    intro a b d e l c c1 c2 c3
    simp only [takeS]; rw [if_pos c, if_pos c1, if_pos c2, if_pos c3]
  match l, h with
  | [], _ => exact .inr (.inl ⟨rfl, by simp, 1, by decide⟩)
  | a :: l, h =>
    have ha := h a (by simp)
    by_cases c : a ≥ 128
    · match l, h with
      | [], _ => exact .inr (.inl ⟨by simp only [takeS]; rw [if_pos c], by simp, _, (two a 1 [] c (by decide)).trans (if_neg (by decide))⟩)
      | b :: l, h =>
        have hb := h b (by simp)
        by_cases c1 : b ≥ 128
        · match l, h with
          | [], _ => exact .inr (.inl ⟨by simp only [takeS]; rw [if_pos c, if_pos c1], by simp, _, (three a b 1 [] c c1 (by decide)).trans (if_neg (by decide))⟩)
          | d :: l, h =>
            have hd := h d (by simp)
            by_cases c2 : d ≥ 128
            · match l, h with
              | [], _ => exact .inr (.inl ⟨by simp only [takeS]; rw [if_pos c, if_pos c1, if_pos c2], by simp, _, (four a b d 1 [] c c1 c2 (by decide)).trans (if_neg (by decide))⟩)
              | e :: l, h =>
                have he := h e (by simp)
                by_cases c3 : e ≥ 128
                · exact .inr (.inr ⟨long a b d e l c c1 c2 c3, long a b d e (l ++ [1]) c c1 c2 c3⟩)
                · by_cases z : e = 0
                  · exact .inr (.inr ⟨(four a b d e l c c1 c2 c3).trans (if_pos z), (four a b d e (l ++ [1]) c c1 c2 c3).trans (if_pos z)⟩)
                  · refine .inl ⟨_, 4, (four a b d e l c c1 c2 c3).trans (if_neg z), by omega, by omega, by omega, by simp, ?_⟩
                    have k := put_cases (n := a - 128 + (b - 128) * 128 + (d - 128) * 16384 + e * 2097152) (by omega) (by omega)
                    rcases k with ⟨_, q⟩ | ⟨_, _, q⟩ | ⟨_, _, q⟩ | ⟨_, q⟩
                    · omega
                    · omega
                    · omega
                    · rw [q]; simp only [List.take_succ_cons, List.take_zero]; congr 1; omega; congr 1; omega; congr 1; omega; congr 1; omega
            · by_cases z : d = 0
              · exact .inr (.inr ⟨(three a b d l c c1 c2).trans (if_pos z), by simp only [List.cons_append]; exact (three a b d (l ++ [1]) c c1 c2).trans (if_pos z)⟩)
              · refine .inl ⟨_, 3, (three a b d l c c1 c2).trans (if_neg z), by omega, by omega, by omega, by simp, ?_⟩
                have k := put_cases (n := a - 128 + (b - 128) * 128 + d * 16384) (by omega) (by omega)
                rcases k with ⟨_, q⟩ | ⟨_, _, q⟩ | ⟨_, _, q⟩ | ⟨_, q⟩
                · omega
                · omega
                · rw [q]; simp only [List.take_succ_cons, List.take_zero]; congr 1; omega; congr 1; omega; congr 1; omega
                · omega
        · by_cases z : b = 0
          · exact .inr (.inr ⟨(two a b l c c1).trans (if_pos z), by simp only [List.cons_append]; exact (two a b (l ++ [1]) c c1).trans (if_pos z)⟩)
          · refine .inl ⟨_, 2, (two a b l c c1).trans (if_neg z), by omega, by omega, by omega, by simp, ?_⟩
            have k := put_cases (n := a - 128 + b * 128) (by omega) (by omega)
            rcases k with ⟨_, q⟩ | ⟨_, _, q⟩ | ⟨_, _, q⟩ | ⟨_, q⟩
            · omega
            · rw [q]; simp only [List.take_succ_cons, List.take_zero]; congr 1; omega; congr 1; omega
            · omega
            · omega
    · refine .inl ⟨a, 1, one a l ha.1 c, by omega, by omega, by omega, by simp, ?_⟩
      have k := put_cases (n := a) (by omega) (by omega)
      rcases k with ⟨_, q⟩ | ⟨_, _, q⟩ | ⟨_, _, q⟩ | ⟨_, q⟩
      · rw [q]; simp
      · omega
      · omega
      · omega
theorem NumberTaken : epitomelaw02_NumberTaken.Pure := by
  intro l h1 h2 hw
  have hb : Bytes (l.take 20) := fun x hx => bytes_wf hw x (List.mem_of_mem_take hx)
  have ht : (l.take 20).length ≤ 20 := List.length_take_le _ _
  have hb1 : Bytes (l.take 20 ++ [1]) := by
    intro x hx
    rcases List.mem_append.mp hx with h3 | h3
    · exact hb x h3
    · simp at h3; omega
  refine ⟨10, ?_⟩
  unfold epitomelaw02_NumberTaken.f
  rw [shown_ok (by omega), few_fT]
  simp only [Option.bind_some, List.nil_append, List.length_nil]
  generalize l.take 20 = w at *
  rw [take_ge (by omega) hb]
  simp only [Option.bind_some]
  rcases take_kinds w hb with ⟨n, k, e, n0, n1, k0, k1, hp⟩ | ⟨e, hl, n, e1⟩ | ⟨e, e1⟩
  · rw [e]
    simp only []
    rw [if_pos (by trivial), put_f n0 n1]
    simp only [Option.bind_some]
    rw [if_pos (by trivial), if_pos (by trivial), if_pos (by omega), if_pos (by omega), if_pos (by omega), show ((k : Nat) : Int).toNat = k from by omega, hp]
    simp
  · rw [e]
    simp only []
    rw [if_neg (by decide), if_pos (by omega), if_pos (by omega), take_ge (by omega) hb1, e1]
    simp only [Option.bind_some]
    rw [if_pos (by trivial), if_pos (by trivial), if_pos (by trivial), if_neg (by decide), if_pos (by trivial), if_pos (by omega), if_pos (by trivial), w64 (by omega) (by omega)]
    simp
  · rw [e]
    simp only []
    rw [if_neg (by decide), if_pos (by omega), if_pos (by omega), take_ge (by omega) hb1, e1]
    simp only [Option.bind_some]
    rw [if_pos (by trivial), if_pos (by trivial), if_pos (by trivial), if_pos (by trivial), if_pos (by trivial), if_pos (by trivial), if_pos (by trivial)]
end Go.Proofs.Ytolljobehfmffaa.Pure
