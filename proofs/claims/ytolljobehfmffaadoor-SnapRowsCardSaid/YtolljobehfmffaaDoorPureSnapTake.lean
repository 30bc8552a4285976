/- Rows of numbers that rise, as bytes: the code's and the reference's are the same. -/
import Derived.Test.YtolljobehfmffaaDoorPx13
import Derived.Test.YtolljobehfmffaaDoorPx15
import Derived.Test.YtolljobehfmffaaDoorPx20
import Derived.Test.YtolljobehfmffaaDoorPx16
import Derived.Test.YtolljobehfmffaaDoorPx17
import Derived.Test.YtolljobehfmffaaDoorPx22
import Derived.Test.YtolljobehfmffaaDoorPureNumRef
namespace Go.Proofs.YtolljobehfmffaaDoor.Pure
open Go.RowKit Go.Proofs.YtolljobehfmffaaDoor.P Go.Proofs.YtolljobehfmffaaDoorW.PrintWords Go.Proofs.YtolljobehfmffaaDoorW.PrintLast Go.Proofs.YtolljobehfmffaaDoorW.PrintMore

/-- Does the row rise, from a number on? -/
def okR : Int → List Int → Bool
  | _, [] => true
  | was, n :: l => decide (was < n ∧ n ≤ 268435455) && okR n l
/-- Its bytes. -/
def encR : Int → List Int → List Int
  | _, [] => []
  | was, n :: l => putS 3 (n - was - 1) ++ encR n l
theorem putRow_l : ∀ (l : List Int) (was : Int) (out : List Int), -1 ≤ was → was ≤ 268435455 → snap_PutRow.l was out l = if okR was l then (out ++ encR was l, 0) else ([], 2)
  | [], was, out, _, _ => by simp [snap_PutRow.l, okR, encR]
  | n :: l, was, out, h0, h1 => by
    rw [snap_PutRow.l, okR, encR]
    by_cases g : was < n ∧ n ≤ 268435455
    · rw [if_neg (by omega), putRow_l l n _ (by omega) g.2, put_l 3 _ _ (by omega) (by omega), List.nil_append, List.append_assoc]
      simp [g]
    · rw [if_pos (by omega)]
      simp [g]
theorem drop_cons (l : List Int) (i : Nat) (h : i < l.length) : l.drop i = rd l (i : Int) :: l.drop (i + 1) := snap_PutRow.next l i h
theorem rises_l (l : List Int) (hl : l.length ≤ 65536) : ∀ (d i k : Nat) (was : Int), l.length - i = d → i ≤ l.length → d + 1 ≤ k → -1 ≤ was → was ≤ 268435455 → (i = 0 → was = -1) → (0 < i → was = rd l ((i : Int) - 1)) →
    epitomeref15_Rises.l0 k l (i : Int) = some (okR was (l.drop i)) := by
  intro d
  induction d with
  | zero =>
    intro i k was hd hi hk _ _ _ _
    obtain ⟨k, rfl⟩ : ∃ m, k = m + 1 := ⟨k - 1, by omega⟩
    simp only [epitomeref15_Rises.l0]
    rw [if_neg (by omega), List.drop_of_length_le (by omega)]; rfl
  | succ d ih =>
    intro i k was hd hi hk w0 w1 e0 e1
    obtain ⟨k, rfl⟩ : ∃ m, k = m + 1 := ⟨k - 1, by omega⟩
    have hi' : i < l.length := by omega
    rw [drop_cons l i hi', okR]
    have next := ih (i + 1) k (rd l (i : Int)) (by omega) (by omega) (by omega)
    have e2 : ((i + 1 : Nat) : Int) - 1 = (i : Int) := by omega
    rw [e2] at next
    simp only [epitomeref15_Rises.l0]
    rw [if_pos (by omega), if_pos (by omega), w64 (x := (i : Int) + 1) (by omega) (by omega), w64 (x := (i : Int) - 1) (by omega) (by omega)]
    rw [show (i : Int) + 1 = ((i + 1 : Nat) : Int) by omega]
    generalize hx : rd l (i : Int) = x at *
    by_cases g0 : x < 0
    · rw [if_pos g0]; simp; omega
    · rw [if_neg g0]
      by_cases g1 : x > 268435455
      · rw [if_pos g1]; simp; omega
      · rw [if_neg g1]
        have n := next (by omega) (by omega) (by omega) (fun _ => rfl)
        by_cases g2 : (i : Int) > 0
        · rw [if_pos g2, if_pos (by omega), if_pos (by omega), ← e1 (by omega)]
          by_cases g3 : x ≤ was
          · rw [if_pos g3]; simp; omega
          · rw [if_neg g3, n]
            have : was < x ∧ x ≤ 268435455 := by omega
            simp [this]
        · rw [if_neg g2, n]
          have := e0 (by omega)
          have : was < x ∧ x ≤ 268435455 := by omega
          simp [this]
theorem encR_len : ∀ (l : List Int) (was : Int), -1 ≤ was → was ≤ 268435455 → okR was l = true → (encR was l).length ≤ 4 * l.length
  | [], _, _, _, _ => by simp [encR]
  | n :: l, was, h0, h1, h => by
    rw [okR] at h
    simp only [Bool.and_eq_true, decide_eq_true_eq] at h
    have := encR_len l n (by omega) h.1.2 h.2
    have := put_len (n := n - was - 1) (by omega) (by omega)
    rw [encR, List.length_append, List.length_cons]; omega
theorem ref_putRow_l (l : List Int) (hl : l.length ≤ 65536) : ∀ (d i k : Nat) (was : Int) (out : List Int), l.length - i = d → i ≤ l.length → d + 10 ≤ k → -1 ≤ was → was ≤ 268435455 → okR was (l.drop i) = true → out.length ≤ 4 * (i + 1) →
    epitomeref15_PutRow.l0 k l out was (i : Int) = some (out ++ encR was (l.drop i), 0) := by
  intro d
  induction d with
  | zero =>
    intro i k was out hd hi hk _ _ _ _
    obtain ⟨k, rfl⟩ : ∃ m, k = m + 1 := ⟨k - 1, by omega⟩
    simp only [epitomeref15_PutRow.l0]
    rw [if_neg (by omega), List.drop_of_length_le (by omega)]; simp [encR]
  | succ d ih =>
    intro i k was out hd hi hk w0 w1 ok ho
    obtain ⟨k, rfl⟩ : ∃ m, k = m + 1 := ⟨k - 1, by omega⟩
    have hi' : i < l.length := by omega
    rw [drop_cons l i hi', okR] at ok
    simp only [Bool.and_eq_true, decide_eq_true_eq] at ok
    rw [drop_cons l i hi', encR]
    simp only [epitomeref15_PutRow.l0]
    obtain ⟨k, rfl⟩ : ∃ m, k = m + 8 := ⟨k - 8, by omega⟩
    generalize rd l (i : Int) = x at *
    have hp := put_len (n := x - was - 1) (by omega) (by omega)
    rw [if_pos (by omega), if_pos (by omega), w64 (x := x - was) (by omega) (by omega), w64 (x := x - was - 1) (by omega) (by omega), ref_put, put_f (by omega) (by omega), Option.bind_some, if_pos (by simp only; omega), w64 (x := (i : Int) + 1) (by omega) (by omega)]
    rw [show (i : Int) + 1 = ((i + 1 : Nat) : Int) by omega]
    rw [ih (i + 1) (k + 8) x _ (by omega) (by omega) (by omega) (by omega) ok.1.2 ok.2 (by simp only [List.length_append]; omega), List.append_assoc]
theorem putRow_f (l : List Int) : snap_PutRow.f l = some (if l.length = 0 ∨ l.length > 65536 then ([], 2) else if okR (-1) l then (putS 3 l.length ++ encR (-1) l, 0) else ([], 2)) := by
  unfold snap_PutRow.f
  by_cases c : l.length = 0 ∨ l.length > 65536
  · rw [if_pos c, if_pos c]
  · rw [if_neg c, if_neg c, put_l 3 _ _ (by omega) (by omega), List.nil_append, putRow_l _ _ _ (by omega) (by omega)]
theorem ref_putRow (l : List Int) (k : Nat) (hk : l.length + 20 ≤ k) (hl : l.length ≤ 65536) : epitomeref15_PutRow.f k l = snap_PutRow.f l := by
  rw [putRow_f]
  unfold epitomeref15_PutRow.f epitomeref15_Rises.f
  obtain ⟨k, rfl⟩ : ∃ m, k = m + 9 := ⟨k - 9, by omega⟩
  by_cases c : l.length = 0
  · rw [if_pos (by omega), if_pos (.inl c)]
    simp only [epitomeref15_Rises.j0, if_true]
    rfl
  · rw [if_neg (by omega), if_neg (by omega), decide_eq_false (by omega)]
    simp only [epitomeref15_Rises.j0, Bool.false_eq_true, if_false]
    have hr := rises_l l hl l.length 0 (k + 8) (-1) (by omega) (by omega) (by omega) (by omega) (by omega) (fun _ => rfl) (fun h => absurd h (by omega))
    rw [show ((0 : Nat) : Int) = 0 from rfl, List.drop_zero] at hr
    rw [hr, Option.bind_some]
    by_cases g : okR (-1) l = true
    · rw [if_pos g, if_pos g, ref_put, put_f (by omega) (by omega), Option.bind_some]
      have hp := put_len (n := (l.length : Int)) (by omega) (by omega)
      have := ref_putRow_l l hl l.length 0 (k + 9) (-1) (putS 3 (l.length : Int)) (by omega) (by omega) (by omega) (by omega) (by omega) (by rw [List.drop_zero]; exact g) (by omega)
      rw [List.drop_zero] at this
      exact this
    · rw [if_neg g, if_neg g]
theorem same_l (l : List Int) (hl : l.length ≤ 99999999) : ∀ (d i k : Nat), l.length - i = d → i ≤ l.length → d + 1 ≤ k → epitomeref15_SameRow.l0 k l l (i : Int) = some true := by
  intro d
  induction d with
  | zero =>
    intro i k hd hi hk
    obtain ⟨k, rfl⟩ : ∃ m, k = m + 1 := ⟨k - 1, by omega⟩
    simp only [epitomeref15_SameRow.l0]
    rw [if_neg (by omega)]
  | succ d ih =>
    intro i k hd hi hk
    obtain ⟨k, rfl⟩ : ∃ m, k = m + 1 := ⟨k - 1, by omega⟩
    simp only [epitomeref15_SameRow.l0]
    rw [if_pos (by omega), if_pos (by omega), if_pos (by omega), w64 (x := (i : Int) + 1) (by omega) (by omega), show (i : Int) + 1 = ((i + 1 : Nat) : Int) by omega]
    simp only [if_true]
    exact ih (i + 1) k (by omega) (by omega) (by omega)
theorem same_f (l : List Int) (hl : l.length ≤ 99999999) (k : Nat) (hk : l.length + 1 ≤ k) : epitomeref15_SameRow.f k l l = some true := by
  unfold epitomeref15_SameRow.f
  rw [if_pos rfl]
  exact same_l l hl l.length 0 k (by omega) (by omega) (by omega)
theorem short_f (l : List Int) : epitomelaw15_short.f l = some (l.take 40) := by
  unfold epitomelaw15_short.f mn
  by_cases c : 40 < (l.length : Int)
  · rw [if_pos c, if_pos (by omega), if_pos (by omega)]; rfl
  · rw [if_neg c, if_pos (by omega), if_pos (by omega)]
    rw [List.take_of_length_le (by omega), List.take_of_length_le (by omega)]
theorem few_fS (l : List Int) : epitomelaw15_few.f l = some (l.take 200) := by
  unfold epitomelaw15_few.f mn
  by_cases c : 200 < (l.length : Int)
  · rw [if_pos c, if_pos (by omega), if_pos (by omega)]; rfl
  · rw [if_neg c, if_pos (by omega), if_pos (by omega)]
    rw [List.take_of_length_le (by omega), List.take_of_length_le (by omega)]

theorem takeS_ok (l : List Int) (h : Bytes l) : ((takeS l).2.2 = 0 ∧ 0 ≤ (takeS l).1 ∧ (takeS l).1 ≤ 268435455 ∧ 1 ≤ (takeS l).2.1 ∧ (takeS l).2.1 ≤ (l.length : Int)) ∨ takeS l = (0, 0, 7) ∨ takeS l = (0, 0, 8) := by
  match l, h with
  | [], _ => exact .inr (.inl rfl)
  | [a], h =>
    have ha := h a (by simp)
    simp only [takeS]
    repeat' split
    all_goals first | exact .inr (.inl rfl) | exact .inr (.inr rfl) | (refine .inl ⟨rfl, ?_, ?_, ?_, ?_⟩ <;> simp <;> omega)
  | [a, b], h =>
    have ha := h a (by simp); have hb := h b (by simp)
    simp only [takeS]
    repeat' split
    all_goals first | exact .inr (.inl rfl) | exact .inr (.inr rfl) | (refine .inl ⟨rfl, ?_, ?_, ?_, ?_⟩ <;> simp <;> omega)
  | [a, b, c], h =>
    have ha := h a (by simp); have hb := h b (by simp); have hc := h c (by simp)
    simp only [takeS]
    repeat' split
    all_goals first | exact .inr (.inl rfl) | exact .inr (.inr rfl) | (refine .inl ⟨rfl, ?_, ?_, ?_, ?_⟩ <;> simp <;> omega)
  | a :: b :: c :: d :: r, h =>
    have ha := h a (by simp); have hb := h b (by simp); have hc := h c (by simp); have hd := h d (by simp)
    simp only [takeS]
    repeat' split
    all_goals first | exact .inr (.inl rfl) | exact .inr (.inr rfl) | (refine .inl ⟨rfl, ?_, ?_, ?_, ?_⟩ <;> simp <;> omega)
theorem Bytes.drop {l : List Int} (h : Bytes l) (i : Nat) : Bytes (l.drop i) := fun x hx => h x (List.mem_of_mem_drop hx)
theorem Bytes.take {l : List Int} (h : Bytes l) (i : Nat) : Bytes (l.take i) := fun x hx => h x (List.mem_of_mem_take hx)
theorem reader_f {K : Nat} (hK : 6 ≤ K) (l : List Int) (h : Bytes l) (most : Int) : snap_reader_number.f K l 0 most = some ((takeS l).1, (takeS l).2.1, if (takeS l).2.2 = 0 ∧ (takeS l).1 > most then 8 else (takeS l).2.2) := by
  unfold snap_reader_number.f
  rw [if_pos rfl, take_ge hK h, Option.bind_some]
  rcases takeS_ok l h with ⟨_, _, _, h1, h2⟩ | e | e
  · rw [if_pos (by omega), if_pos (by omega)]
  · rw [e]; rfl
  · rw [e]; rfl
theorem takeRow_l (l : List Int) (h : Bytes l) (hl : l.length ≤ 9999) (many : Int) (hm : many ≤ 65536) : ∀ (d p k1 k2 : Nat) (i was : Int) (out : List Int), l.length - p = d → p ≤ l.length → d + 30 ≤ k1 → d + 30 ≤ k2 → 0 ≤ i → -1 ≤ was → was ≤ 268435455 → out.length ≤ p →
    (snap_TakeRow.l k1 i many (l.drop p) 0 was out).bind (snap_TakeRow.g l) = epitomeref15_TakeRow.l0 k2 l many (p : Int) out was i := by
  intro d
  induction d using Nat.strongRecOn with
  | _ d ih =>
    intro p k1 k2 i was out hd hp hk1 hk2 hi w0 w1 ho
    obtain ⟨k1, rfl⟩ : ∃ m, k1 = m + 1 := ⟨k1 - 1, by omega⟩
    obtain ⟨k2, rfl⟩ : ∃ m, k2 = m + 1 := ⟨k2 - 1, by omega⟩
    simp only [snap_TakeRow.l, epitomeref15_TakeRow.l0]
    obtain ⟨k3, rfl⟩ : ∃ m, k2 = m + 12 := ⟨k2 - 12, by omega⟩
    by_cases c : i < many
    · have hb := h.drop p
      rw [if_pos c, if_pos c, if_pos (by omega), if_pos (by omega), Int.toNat_natCast, reader_f (by omega) _ hb, ref_take _ _ hb, Option.bind_some, Option.bind_some]
      dsimp only
      rcases takeS_ok _ hb with ⟨e, n0, n1, u0, u1⟩ | e | e
      · rw [List.length_drop] at u1
        have em : (if (takeS (l.drop p)).2.2 = 0 ∧ (takeS (l.drop p)).1 > 268435455 then (8 : Int) else (takeS (l.drop p)).2.2) = 0 := by rw [if_neg (by omega), e]
        rw [em]
        simp only [e, if_true]
        generalize (takeS (l.drop p)).1 = n at *
        generalize (takeS (l.drop p)).2.1 = u at *
        rw [w64 (x := 1 + n) (by omega) (by omega), w64 (x := was + (1 + n)) (by omega) (by omega), w64 (x := was + 1) (by omega) (by omega), w64 (x := was + 1 + n) (by omega) (by omega), show was + (1 + n) = was + 1 + n by omega]
        by_cases g : was + 1 + n > 268435455
        · rw [if_pos g, if_pos g, Option.bind_some]; rfl
        · rw [if_neg g, if_neg g, if_pos (by omega), if_pos (by omega), w64 (x := (p : Int) + u) (by omega) (by omega), w64 (x := i + 1) (by omega) (by omega), List.drop_drop]
          have hu : (p : Int) + u = ((p + u.toNat : Nat) : Int) := by omega
          rw [hu]
          exact ih (l.length - (p + u.toNat)) (by omega) (p + u.toNat) k1 (k3 + 12) (i + 1) _ _ rfl (by omega) (by omega) (by omega) (by omega) (by omega) (by omega) (by simp only [List.length_append, List.length_cons, List.length_nil]; omega)
      · rw [e]; rfl
      · rw [e]; rfl
    · rw [if_neg c, if_neg c, Option.bind_some]
      unfold snap_TakeRow.g
      rw [if_pos rfl]
      simp only [List.length_drop]
      rw [w64 (by omega) (by omega)]
      refine congrArg some (Prod.ext rfl (Prod.ext ?_ rfl))
      simp only; omega
theorem ref_takeRow (l : List Int) (h : Bytes l) (hl : l.length ≤ 9999) (k : Nat) (hk : l.length + 60 ≤ k) : snap_TakeRow.f k l = epitomeref15_TakeRow.f k l := by
  unfold snap_TakeRow.f epitomeref15_TakeRow.f
  obtain ⟨k, rfl⟩ : ∃ m, k = m + 13 := ⟨k - 13, by omega⟩
  rw [reader_f (by omega) _ h, ref_take (k + 1) _ h, Option.bind_some, Option.bind_some]
  dsimp only
  rcases takeS_ok _ h with ⟨e, n0, n1, u0, u1⟩ | e | e
  · simp only [e, if_true, true_and]
    generalize (takeS l).1 = n at *
    generalize (takeS l).2.1 = u at *
    by_cases z : n = 0
    · subst z
      rw [if_neg (show ¬ ((0 : Int) > 65536) by omega), if_pos ⟨rfl, rfl⟩, if_pos rfl]
      simp only [epitomeref15_TakeRow.j0, snap_TakeRow.l, if_true]
      rw [if_neg (by omega)]; rfl
    · rw [if_neg z]
      by_cases b : n > 65536
      · rw [if_pos b, if_neg (by omega), decide_eq_true b]
        simp only [epitomeref15_TakeRow.j0, if_true]
        simp only [snap_TakeRow.l]
        rw [if_pos (by omega)]
        unfold snap_reader_number.f
        rw [if_neg (by decide)]
        rfl
      · rw [if_neg b, if_neg (by omega), decide_eq_false b]
        simp only [epitomeref15_TakeRow.j0, Bool.false_eq_true, if_false]
        have hu : u = ((u.toNat : Nat) : Int) := by omega
        have t := takeRow_l l h hl n (by omega) (l.length - u.toNat) u.toNat (k + 13) (k + 12) 0 (-1) [] rfl (by omega) (by omega) (by omega) (by omega) (by omega) (by omega) (by simp)
        rw [← hu] at t
        exact t
  · rw [e]
    simp only [snap_TakeRow.l]
    rfl
  · rw [e]
    simp only [snap_TakeRow.l]
    rfl
theorem ref_l_some (l : List Int) (h : Bytes l) (hl : l.length ≤ 9999) (many : Int) (hm : many ≤ 65536) : ∀ (d p k : Nat) (i was : Int) (out : List Int), l.length - p = d → p ≤ l.length → d + 30 ≤ k → 0 ≤ i → -1 ≤ was → was ≤ 268435455 → out.length ≤ p →
    ∃ y, epitomeref15_TakeRow.l0 k l many (p : Int) out was i = some y ∧ y.1.length ≤ l.length := by
  intro d
  induction d using Nat.strongRecOn with
  | _ d ih =>
    intro p k i was out hd hp hk hi w0 w1 ho
    obtain ⟨k, rfl⟩ : ∃ m, k = m + 1 := ⟨k - 1, by omega⟩
    simp only [epitomeref15_TakeRow.l0]
    obtain ⟨k3, rfl⟩ : ∃ m, k = m + 12 := ⟨k - 12, by omega⟩
    by_cases c : i < many
    · have hb := h.drop p
      rw [if_pos c, if_pos (by omega), if_pos (by omega), Int.toNat_natCast, ref_take _ _ hb, Option.bind_some]
      rcases takeS_ok _ hb with ⟨e, n0, n1, u0, u1⟩ | e | e
      · rw [List.length_drop] at u1
        simp only [e, if_true]
        generalize (takeS (l.drop p)).1 = n at *
        generalize (takeS (l.drop p)).2.1 = u at *
        rw [w64 (x := was + 1) (by omega) (by omega), w64 (x := was + 1 + n) (by omega) (by omega)]
        by_cases g : was + 1 + n > 268435455
        · rw [if_pos g]; exact ⟨_, rfl, by simp⟩
        · rw [if_neg g, if_pos (by omega), w64 (x := (p : Int) + u) (by omega) (by omega), w64 (x := i + 1) (by omega) (by omega)]
          have hu : (p : Int) + u = ((p + u.toNat : Nat) : Int) := by omega
          rw [hu]
          exact ih (l.length - (p + u.toNat)) (by omega) (p + u.toNat) (k3 + 12) (i + 1) _ _ rfl (by omega) (by omega) (by omega) (by omega) (by omega) (by simp only [List.length_append, List.length_cons, List.length_nil]; omega)
      · rw [e]; exact ⟨_, rfl, by simp⟩
      · rw [e]; exact ⟨_, rfl, by simp⟩
    · rw [if_neg c]; exact ⟨_, rfl, by simp only; omega⟩
theorem takeRow_some (l : List Int) (h : Bytes l) (hl : l.length ≤ 200) : ∃ y, snap_TakeRow.f (500 + 20) l = some y ∧ y.1.length ≤ 200 := by
  rw [ref_takeRow l h (by omega) _ (by omega)]
  unfold epitomeref15_TakeRow.f
  rw [show 500 + 20 = 508 + 12 from rfl, ref_take 508 _ h, Option.bind_some]
  rcases takeS_ok _ h with ⟨e, n0, n1, u0, u1⟩ | e | e
  · rw [if_pos e]
    by_cases z : (takeS l).1 = 0
    · rw [if_pos z]
      simp only [epitomeref15_TakeRow.j0, if_true]
      exact ⟨_, rfl, by simp⟩
    · rw [if_neg z]
      by_cases b : (takeS l).1 > 65536
      · rw [decide_eq_true b]
        simp only [epitomeref15_TakeRow.j0, if_true]
        exact ⟨_, rfl, by simp⟩
      · rw [decide_eq_false b]
        simp only [epitomeref15_TakeRow.j0, Bool.false_eq_true, if_false]
        have hu : (takeS l).2.1 = (((takeS l).2.1.toNat : Nat) : Int) := by omega
        rw [hu]
        obtain ⟨y, hy, hl2⟩ := ref_l_some l h (by omega) (takeS l).1 (by omega) _ (takeS l).2.1.toNat 519 0 (-1) [] rfl (by omega) (by omega) (by omega) (by omega) (by omega) (by simp)
        exact ⟨y, hy, by omega⟩
  · rw [e]; exact ⟨_, rfl, by simp⟩
  · rw [e]; exact ⟨_, rfl, by simp⟩
end Go.Proofs.YtolljobehfmffaaDoor.Pure
