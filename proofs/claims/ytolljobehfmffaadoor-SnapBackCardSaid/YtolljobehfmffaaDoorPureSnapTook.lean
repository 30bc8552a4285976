/- What is taken from any bytes, a number, a text or a row, was put there. -/
import Derived.Test.YtolljobehfmffaaDoorPureSnapBase
namespace Go.Proofs.YtolljobehfmffaaDoor.Pure
open Go.RowKit Go.Proofs.YtolljobehfmffaaDoor.P Go.Proofs.YtolljobehfmffaaDoorW.PrintWords Go.Proofs.YtolljobehfmffaaDoorW.PrintLast Go.Proofs.YtolljobehfmffaaDoorW.PrintMore

/-- What comes of taking: a number and its very bytes; or too short, and one byte more ends it; or of no number, whatever is behind. -/
theorem take_kinds (l : List Int) (h : Bytes l) :
    (∃ (n : Int) (k : Nat), takeS l = (n, (k : Int), 0) ∧ 0 ≤ n ∧ n ≤ 268435455 ∧ 1 ≤ k ∧ k ≤ l.length ∧ putS 3 n = l.take k) ∨
    (takeS l = (0, 0, 7) ∧ l.length < 4 ∧ ∃ n : Int, takeS (l ++ [1]) = (n, ((l.length + 1 : Nat) : Int), 0)) ∨
    (takeS l = (0, 0, 8) ∧ takeS (l ++ [1]) = (0, 0, 8)) := by
  have one : ∀ (a : Int) (l : List Int), 0 ≤ a → ¬ a ≥ 128 → takeS (a :: l) = (a, 1, 0) := by
    intro a l _ c
    rcases l with _ | ⟨b, _ | ⟨d, _ | ⟨e, l⟩⟩⟩ <;> simp only [takeS] <;> rw [if_neg c]
  have two : ∀ (a b : Int) (l : List Int), a ≥ 128 → ¬ b ≥ 128 → takeS (a :: b :: l) = if b = 0 then (0, 0, 8) else (a - 128 + b * 128, 2, 0) := by
    intro a b l c c1
    rcases l with _ | ⟨d, _ | ⟨e, l⟩⟩ <;> simp only [takeS] <;> rw [if_pos c, if_neg c1]
  have three : ∀ (a b d : Int) (l : List Int), a ≥ 128 → b ≥ 128 → ¬ d ≥ 128 → takeS (a :: b :: d :: l) = if d = 0 then (0, 0, 8) else (a - 128 + (b - 128) * 128 + d * 16384, 3, 0) := by
    intro a b d l c c1 c2
    rcases l with _ | ⟨e, l⟩ <;> simp only [takeS] <;> rw [if_pos c, if_pos c1, if_neg c2]
  have four : ∀ (a b d e : Int) (l : List Int), a ≥ 128 → b ≥ 128 → d ≥ 128 → ¬ e ≥ 128 → takeS (a :: b :: d :: e :: l) = if e = 0 then (0, 0, 8) else (a - 128 + (b - 128) * 128 + (d - 128) * 16384 + e * 2097152, 4, 0) := by
    intro a b d e l c c1 c2 c3
    simp only [takeS]; rw [if_pos c, if_pos c1, if_pos c2, if_neg c3]
  have long : ∀ (a b d e : Int) (l : List Int), a ≥ 128 → b ≥ 128 → d ≥ 128 → e ≥ 128 → takeS (a :: b :: d :: e :: l) = (0, 0, 8) := by
    intro a b d e l c c1 c2 c3
    simp only [takeS]; rw [if_pos c, if_pos c1, if_pos c2, if_pos c3]
  match l, h with
  | [], _ => exact .inr (.inl ⟨rfl, by simp, 1, by decide⟩)
  | a :: l, h =>
    have ha := h a (by simp)
    by_cases c : a ≥ 128
    · match l, h with
      | [], _ => exact .inr (.inl ⟨by simp only [takeS]; rw [if_pos c], by simp, _, (two a 1 [] c (by decide)).trans (if_neg (by decide))⟩)
      | b :: l, h =>
        have hb := h b (by simp)
        by_cases c1 : b ≥ 128
        · match l, h with
          | [], _ => exact .inr (.inl ⟨by simp only [takeS]; rw [if_pos c, if_pos c1], by simp, _, (three a b 1 [] c c1 (by decide)).trans (if_neg (by decide))⟩)
          | d :: l, h =>
            have hd := h d (by simp)
            by_cases c2 : d ≥ 128
            · match l, h with
              | [], _ => exact .inr (.inl ⟨by simp only [takeS]; rw [if_pos c, if_pos c1, if_pos c2], by simp, _, (four a b d 1 [] c c1 c2 (by decide)).trans (if_neg (by decide))⟩)
              | e :: l, h =>
                have he := h e (by simp)
                by_cases c3 : e ≥ 128
                · exact .inr (.inr ⟨long a b d e l c c1 c2 c3, long a b d e (l ++ [1]) c c1 c2 c3⟩)
                · by_cases z : e = 0
                  · exact .inr (.inr ⟨(four a b d e l c c1 c2 c3).trans (if_pos z), (four a b d e (l ++ [1]) c c1 c2 c3).trans (if_pos z)⟩)
                  · refine .inl ⟨_, 4, (four a b d e l c c1 c2 c3).trans (if_neg z), by omega, by omega, by omega, by simp, ?_⟩
                    have k := put_cases (n := a - 128 + (b - 128) * 128 + (d - 128) * 16384 + e * 2097152) (by omega) (by omega)
                    rcases k with ⟨_, q⟩ | ⟨_, _, q⟩ | ⟨_, _, q⟩ | ⟨_, q⟩
                    · omega
                    · omega
                    · omega
                    · rw [q]; simp only [List.take_succ_cons, List.take_zero]; congr 1; omega; congr 1; omega; congr 1; omega; congr 1; omega
            · by_cases z : d = 0
              · exact .inr (.inr ⟨(three a b d l c c1 c2).trans (if_pos z), by simp only [List.cons_append]; exact (three a b d (l ++ [1]) c c1 c2).trans (if_pos z)⟩)
              · refine .inl ⟨_, 3, (three a b d l c c1 c2).trans (if_neg z), by omega, by omega, by omega, by simp, ?_⟩
                have k := put_cases (n := a - 128 + (b - 128) * 128 + d * 16384) (by omega) (by omega)
                rcases k with ⟨_, q⟩ | ⟨_, _, q⟩ | ⟨_, _, q⟩ | ⟨_, q⟩
                · omega
                · omega
                · rw [q]; simp only [List.take_succ_cons, List.take_zero]; congr 1; omega; congr 1; omega; congr 1; omega
                · omega
        · by_cases z : b = 0
          · exact .inr (.inr ⟨(two a b l c c1).trans (if_pos z), by simp only [List.cons_append]; exact (two a b (l ++ [1]) c c1).trans (if_pos z)⟩)
          · refine .inl ⟨_, 2, (two a b l c c1).trans (if_neg z), by omega, by omega, by omega, by simp, ?_⟩
            have k := put_cases (n := a - 128 + b * 128) (by omega) (by omega)
            rcases k with ⟨_, q⟩ | ⟨_, _, q⟩ | ⟨_, _, q⟩ | ⟨_, q⟩
            · omega
            · rw [q]; simp only [List.take_succ_cons, List.take_zero]; congr 1; omega; congr 1; omega
            · omega
            · omega
    · refine .inl ⟨a, 1, one a l ha.1 c, by omega, by omega, by omega, by simp, ?_⟩
      have k := put_cases (n := a) (by omega) (by omega)
      rcases k with ⟨_, q⟩ | ⟨_, _, q⟩ | ⟨_, _, q⟩ | ⟨_, q⟩
      · rw [q]; simp
      · omega
      · omega
      · omega
theorem row_taken (many : Int) (m1 : many ≤ 65536) : ∀ (d : Nat) (l2 : List Int) (i was : Int) (out : List Int) (k : Nat), l2.length = d → Bytes l2 → d + 8 ≤ k → 0 ≤ i → i ≤ many → -1 ≤ was → was ≤ 268435455 → out.length + d ≤ 999 →
    ∃ o l3 e, snap_TakeRow.l k i many l2 0 was out = some (o, l3, e) ∧ ((e = 7 ∨ e = 8) ∨ (e = 0 ∧ ∃ row : List Int, o = out ++ row ∧ okR was row = true ∧ (row.length : Int) = many - i ∧ l2 = encR was row ++ l3)) := by
  intro d
  induction d using Nat.strongRecOn with
  | _ d ih =>
    intro l2 i was out k hd hb hk i0 i1 w0 w1 ho
    obtain ⟨k, rfl⟩ : ∃ m, k = m + 1 := ⟨k - 1, by omega⟩
    by_cases c : i < many
    · rcases take_kinds l2 hb with ⟨n, kk, et, n0, n1, k0, k1, ep⟩ | ⟨et, _⟩ | ⟨et, _⟩
      · by_cases g : was + 1 + n ≤ 268435455
        · rw [takeRow_step (by omega) hb et c i0 m1 w0 n0 g (by omega), Int.toNat_natCast]
          obtain ⟨o, l3, e, he, hc⟩ := ih (l2.drop kk).length (by rw [List.length_drop]; omega) (l2.drop kk) (i + 1) (was + 1 + n) (out ++ [was + 1 + n]) k rfl (hb.drop kk) (by rw [List.length_drop]; omega) (by omega) (by omega) (by omega) g (by rw [List.length_append, List.length_drop]; simp only [List.length_cons, List.length_nil]; omega)
          refine ⟨o, l3, e, he, ?_⟩
          rcases hc with hc | ⟨e0, row, eo, ok, el, e2⟩
          · exact .inl hc
          · refine .inr ⟨e0, (was + 1 + n) :: row, ?_, ?_, ?_, ?_⟩
            · rw [eo]; simp
            · rw [okR, ok, decide_eq_true (show was < was + 1 + n ∧ was + 1 + n ≤ 268435455 by omega)]; rfl
            · rw [List.length_cons]; omega
            · rw [encR, show was + 1 + n - was - 1 = n by omega, ep, List.append_assoc, ← e2, List.take_append_drop]
        · rw [snap_TakeRow.l, if_pos c, reader_f (by omega) _ hb, et, Option.bind_some]
          dsimp only
          have em : (if (0 : Int) = 0 ∧ n > 268435455 then (8 : Int) else 0) = 0 := by rw [if_neg (by omega)]
          rw [em, if_pos rfl, w64 (x := 1 + n) (by omega) (by omega), w64 (x := was + (1 + n)) (by omega) (by omega), if_pos (by omega)]
          exact ⟨_, _, _, rfl, .inl (.inr rfl)⟩
      · rw [snap_TakeRow.l, if_pos c, reader_f (by omega) _ hb, et, Option.bind_some]
        exact ⟨_, _, _, rfl, .inl (.inl rfl)⟩
      · rw [snap_TakeRow.l, if_pos c, reader_f (by omega) _ hb, et, Option.bind_some]
        exact ⟨_, _, _, rfl, .inl (.inr rfl)⟩
    · rw [snap_TakeRow.l, if_neg c]
      exact ⟨_, _, _, rfl, .inr ⟨rfl, [], by simp, rfl, by simp only [List.length_nil]; omega, rfl⟩⟩
theorem takeRow_all (l : List Int) (hb : Bytes l) (hl : l.length ≤ 400) (K : Nat) (hK : l.length + 20 ≤ K) :
    ∃ o u e, snap_TakeRow.f K l = some (o, u, e) ∧ ((o = [] ∧ u = 0 ∧ (e = 7 ∨ e = 8)) ∨ (e = 0 ∧ ∃ kk : Nat, u = (kk : Int) ∧ 1 ≤ kk ∧ kk ≤ l.length ∧ 1 ≤ o.length ∧ o.length ≤ 65536 ∧ okR (-1) o = true ∧ encRow o = l.take kk)) := by
  unfold snap_TakeRow.f
  obtain ⟨K, rfl⟩ : ∃ m, K = m + 1 := ⟨K - 1, by omega⟩
  rw [reader_f (by omega) _ hb]
  rcases take_kinds l hb with ⟨n, kk, et, n0, n1, k0, k1, ep⟩ | ⟨et, _⟩ | ⟨et, _⟩
  · rw [et, Option.bind_some]
    dsimp only
    by_cases b : n > 65536
    · rw [if_pos (show ((0 : Int) = 0 ∧ n > 65536) from ⟨rfl, b⟩), if_neg (by omega), snap_TakeRow.l, if_pos (by omega)]
      unfold snap_reader_number.f
      rw [if_neg (by decide)]
      exact ⟨_, _, _, rfl, .inl ⟨rfl, rfl, .inr rfl⟩⟩
    · rw [if_neg (show ¬ ((0 : Int) = 0 ∧ n > 65536) from fun h => b h.2)]
      by_cases z : n = 0
      · rw [if_pos (show ((0 : Int) = 0 ∧ n = 0) from ⟨rfl, z⟩), snap_TakeRow.l, if_neg (by omega)]
        exact ⟨_, _, _, rfl, .inl ⟨rfl, rfl, .inr rfl⟩⟩
      · rw [if_neg (show ¬ ((0 : Int) = 0 ∧ n = 0) from fun h => z h.2), Int.toNat_natCast]
        obtain ⟨o, l3, e, he, hc⟩ := row_taken n (by omega) (l.drop kk).length (l.drop kk) 0 (-1) [] (K + 1) rfl (hb.drop kk) (by rw [List.length_drop]; omega) (by omega) (by omega) (by omega) (by omega) (by rw [List.length_drop]; simp only [List.length_nil]; omega)
        rw [he, Option.bind_some]
        unfold snap_TakeRow.g
        rcases hc with hc | ⟨rfl, row, eo, ok, el, e2⟩
        · rw [if_neg (show ¬ e = 0 by omega)]
          exact ⟨_, _, _, rfl, .inl ⟨rfl, rfl, hc⟩⟩
        · rw [if_pos rfl]
          rw [List.nil_append] at eo
          subst eo
          have hlen := congrArg List.length e2
          rw [List.length_drop, List.length_append] at hlen
          have hl3 : l3.length ≤ l.length := by omega
          rw [w64 (by simp only; omega) (by simp only; omega)]
          refine ⟨_, _, _, rfl, .inr ⟨rfl, l.length - l3.length, by simp only; omega, by omega, by omega, (by show 1 ≤ o.length; omega), (by show o.length ≤ 65536; omega), ok, ?_⟩⟩
          show encRow o = _
          unfold encRow
          have e3 : l = putS 3 n ++ (encR (-1) o ++ l3) := by rw [ep, ← e2, List.take_append_drop]
          have hp : (putS 3 n).length = kk := by rw [ep, List.length_take]; omega
          rw [show (o.length : Int) = n by omega]
          conv => rhs; rw [e3]
          rw [← List.append_assoc, List.take_left' (by have hl4 := congrArg List.length e3; simp only [List.length_append] at hl4 ⊢; omega)]
  · rw [et, Option.bind_some]
    simp only [snap_TakeRow.l]
    exact ⟨_, _, _, rfl, .inl ⟨rfl, rfl, .inl rfl⟩⟩
  · rw [et, Option.bind_some]
    simp only [snap_TakeRow.l]
    exact ⟨_, _, _, rfl, .inl ⟨rfl, rfl, .inr rfl⟩⟩
theorem rise : ∀ (l : List Int) (was : Int), okR was l = true → ∀ j : Nat, j + 1 < l.length → l.getD j 0 < l.getD (j + 1) 0
  | [], _, _, j, hj => by simp at hj
  | [a], _, _, j, hj => by simp at hj
  | a :: b :: l, was, ok, j, hj => by
    rw [okR] at ok
    simp only [Bool.and_eq_true] at ok
    cases j with
    | zero =>
      have h2 := ok.2
      rw [okR] at h2
      simp only [Bool.and_eq_true, decide_eq_true_eq] at h2
      exact h2.1.1
    | succ j =>
      have := rise (b :: l) a ok.2 j (by simp only [List.length_cons] at hj ⊢; omega)
      simpa using this
/-- What Take tells, and that Put tells these bytes. -/
theorem takeT_kinds (l : List Int) (hb : Bytes l) (hl : l.length ≤ 400) :
    (∃ e, takeT l = (⟨#[]⟩, 0, e) ∧ (e = 7 ∨ e = 8)) ∨ (∃ (s : ByteArray) (kk : Nat), takeT l = (s, (kk : Int), 0) ∧ 1 ≤ kk ∧ kk ≤ l.length ∧ snap_Put.f s = some (l.take kk, 0)) := by
  unfold takeT
  rcases take_kinds l hb with ⟨n, kk, et, n0, n1, k0, k1, ep⟩ | ⟨et, _⟩ | ⟨et, _⟩
  · rw [et]
    dsimp only
    rw [if_pos rfl]
    by_cases b : n > 65536
    · rw [if_pos b]; exact .inl ⟨_, rfl, .inr rfl⟩
    · rw [if_neg b]
      by_cases c : (l.length : Int) - (kk : Int) < n
      · rw [if_pos c]; exact .inl ⟨_, rfl, .inl rfl⟩
      · rw [if_neg c, Int.toNat_natCast]
        by_cases v : validT (strOfNums ((l.drop kk).take n.toNat)) = true
        · rw [if_pos v]
          refine .inr ⟨_, kk + n.toNat, Prod.ext rfl (Prod.ext (by simp only; omega) rfl), by omega, by omega, ?_⟩
          have hs : (strOfNums ((l.drop kk).take n.toNat)).size = n.toNat := by rw [strOfNums_size, List.length_take, List.length_drop]; omega
          rw [put15 _ (by omega), if_pos v, bytes_str ((hb.drop kk).take n.toNat), hs, show ((n.toNat : Nat) : Int) = n by omega, ep, List.take_add]
        · rw [if_neg v]; exact .inl ⟨_, rfl, .inr rfl⟩
  · rw [et]; exact .inl ⟨_, rfl, .inl rfl⟩
  · rw [et]; exact .inl ⟨_, rfl, .inr rfl⟩
end Go.Proofs.YtolljobehfmffaaDoor.Pure
