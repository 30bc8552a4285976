/- Numbers put one behind the other are taken one by one, each where the one ahead ended. For every slice of uint32s, made 0 to 2^28 - 1, the first 20 of it. -/
import Derived.Test.YtolljobehfmffaaPx9
import Derived.Test.YtolljobehfmffaaPureNumMore
namespace Go.Proofs.Ytolljobehfmffaa.Pure
open Go.RowKit Go.Proofs.Ytolljobehfmffaa.P Go.Proofs.YtolljobehfmffaaW.PrintWords Go.Proofs.YtolljobehfmffaaW.PrintLast Go.Proofs.YtolljobehfmffaaW.PrintMore
/-- The bytes of the first i numbers. -/
def cat (l : List Int) (i : Nat) : List Int := ((l.take i).map fun x => putS 3 (x % 268435456)).flatten
theorem cat_zero (l : List Int) : cat l 0 = [] := rfl
theorem cat_succ (l : List Int) (i : Nat) (h : i < l.length) : cat l (i + 1) = cat l i ++ putS 3 (l.getD i 0 % 268435456) := by
  unfold cat
  rw [List.take_succ_eq_append_getElem h, List.map_append, List.flatten_append, List.getD_eq_getElem?_getD, List.getElem?_eq_getElem h]
  simp
theorem cat_len (l : List Int) : ∀ i : Nat, i ≤ l.length → (cat l i).length ≤ 4 * i
  | 0, _ => by simp [cat_zero]
  | i + 1, h => by
    rw [cat_succ l i (by omega), List.length_append]
    have := cat_len l i (by omega)
    have := put_len (n := l.getD i 0 % 268435456) (by omega) (by omega)
    omega
theorem cat_more (l : List Int) (i m : Nat) (h : i < m) (hm : m ≤ l.length) : ∃ r, Bytes r ∧ cat l m = cat l i ++ (putS 3 (l.getD i 0 % 268435456) ++ r) := by
  induction m with
  | zero => omega
  | succ m ih =>
    rw [cat_succ l m (by omega)]
    by_cases e : i = m
    · subst e; exact ⟨[], by intro x hx; simp at hx, by simp⟩
    · obtain ⟨r, hb, hr⟩ := ih (by omega) (by omega)
      refine ⟨r ++ putS 3 (l.getD m 0 % 268435456), ?_, by rw [hr]; simp⟩
      intro x hx
      rcases List.mem_append.mp hx with h1 | h1
      · exact hb x h1
      · exact put_bytes (by omega) (by omega) x h1
theorem at_nat (l : List Int) (i : Nat) : rd l (i : Int) = l.getD i 0 := by simp [rd]
theorem row_takes (l : List Int) (hl : l.length ≤ 140737488351232) (hw : ∀ x ∈ l, (Lit.int .u32 x).wf = true) (m : Nat) (hm : m = min l.length 20) (d : Nat) : ∀ (k i : Nat), i ≤ m → m - i = d → 2 * d + 8 ≤ k →
    epitomelaw02_NumberRow.l1 k l true (cat l m) ((cat l i).length : Int) (i : Int) = some true := by
  have hmax := cat_len l m (by omega)
  induction d with
  | zero =>
    intro k i h0 h1 hk
    obtain ⟨k, rfl⟩ : ∃ j, k = j + 2 := ⟨k - 2, by omega⟩
    obtain rfl : i = m := by omega
    simp only [epitomelaw02_NumberRow.l1]
    have e : epitomelaw02_NumberRow.j3 (k + 1) l true (cat l i) ((cat l i).length : Int) (i : Int) false = some true := by
      simp only [epitomelaw02_NumberRow.j3]; rw [if_neg (by decide), if_pos (by trivial)]; simp
    by_cases c : (i : Int) < (l.length : Int)
    · rw [if_pos c, decide_eq_false (by omega)]; exact e
    · rw [if_neg c]; exact e
  | succ d ih =>
    intro k i h0 h1 hk
    obtain ⟨k, rfl⟩ : ∃ j, k = j + 2 := ⟨k - 2, by omega⟩
    simp only [epitomelaw02_NumberRow.l1]
    rw [if_pos (by omega), decide_eq_true (by omega)]
    simp only [epitomelaw02_NumberRow.j3]
    obtain ⟨r, hrb, hr⟩ := cat_more l i m (by omega) (by omega)
    have hlen : (cat l i).length ≤ (cat l m).length := by rw [hr, List.length_append]; omega
    have hx := u32_wf (hw (l.getD i 0) (by rw [List.getD_eq_getElem?_getD, List.getElem?_eq_getElem (show i < l.length by omega)]; exact List.getElem_mem _))
    have hd : (cat l m).drop ((cat l i).length : Int).toNat = putS 3 (l.getD i 0 % 268435456) ++ r := by rw [hr]; simp
    have hb : Bytes (putS 3 (l.getD i 0 % 268435456) ++ r) := by
      intro x h
      rcases List.mem_append.mp h with h1 | h1
      · exact put_bytes (by omega) (by omega) x h1
      · exact hrb x h1
    have hp := put_len (n := l.getD i 0 % 268435456) (by omega) (by omega)
    rw [if_pos (by trivial), if_neg (by omega), if_pos (by omega), if_pos (by omega), hd, take_ge (by omega) hb, take_put (by omega) (by omega)]
    simp only [Option.bind_some]
    rw [if_pos (by trivial), if_pos (by omega), if_pos (by omega), at_nat, low28 hx.1 hx.2, if_pos (by trivial), if_neg (by omega), w64 (by omega) (by omega), w64 (by omega) (by omega)]
    have e1 : ((cat l i).length : Int) + ((putS 3 (l.getD i 0 % 268435456)).length : Int) = ((cat l (i + 1)).length : Int) := by
      rw [cat_succ l i (by omega), List.length_append]; omega
    rw [e1]
    exact ih k (i + 1) (by omega) (by omega) (by omega)
theorem row_puts (l : List Int) (hl : l.length ≤ 140737488351232) (hw : ∀ x ∈ l, (Lit.int .u32 x).wf = true) (m : Nat) (hm : m = min l.length 20) (d : Nat) : ∀ (k i : Nat), i ≤ m → m - i = d → 2 * d + 100 ≤ k →
    epitomelaw02_NumberRow.l0 k l true (cat l i) (i : Int) = some true := by
  induction d with
  | zero =>
    intro k i h0 h1 hk
    obtain ⟨k, rfl⟩ : ∃ j, k = j + 2 := ⟨k - 2, by omega⟩
    obtain rfl : i = m := by omega
    simp only [epitomelaw02_NumberRow.l0]
    have e : epitomelaw02_NumberRow.j1 (k + 1) l true (cat l i) (i : Int) false = some true := by
      simp only [epitomelaw02_NumberRow.j1]; rw [if_neg (by decide)]
      exact row_takes l hl hw i hm i k 0 (by omega) (by omega) (by omega)
    by_cases c : (i : Int) < (l.length : Int)
    · rw [if_pos c, decide_eq_false (by omega)]; exact e
    · rw [if_neg c]; exact e
  | succ d ih =>
    intro k i h0 h1 hk
    obtain ⟨k, rfl⟩ : ∃ j, k = j + 2 := ⟨k - 2, by omega⟩
    simp only [epitomelaw02_NumberRow.l0]
    have hx := u32_wf (hw (l.getD i 0) (by rw [List.getD_eq_getElem?_getD, List.getElem?_eq_getElem (show i < l.length by omega)]; exact List.getElem_mem _))
    have hc := cat_len l i (by omega)
    have hp := put_len (n := l.getD i 0 % 268435456) (by omega) (by omega)
    rw [if_pos (by omega), decide_eq_true (by omega)]
    simp only [epitomelaw02_NumberRow.j1]
    rw [if_pos (by trivial), if_pos (by omega), if_pos (by omega), at_nat, low28 hx.1 hx.2, put_f (by omega) (by omega)]
    simp only [Option.bind_some]
    rw [if_pos (by trivial), if_pos (by omega), w64 (by omega) (by omega), ← cat_succ l i (by omega)]
    exact ih k (i + 1) (by omega) (by omega) (by omega)
theorem NumberRow : epitomelaw02_NumberRow.Pure := by
  intro l h1 h2 hw
  refine ⟨200, ?_⟩
  unfold epitomelaw02_NumberRow.f
  rw [shown_ok (by omega)]
  simp only [Option.bind_some]
  exact row_puts l (by omega) hw _ rfl (min l.length 20) 200 0 (by omega) (by omega) (by omega)
end Go.Proofs.Ytolljobehfmffaa.Pure
