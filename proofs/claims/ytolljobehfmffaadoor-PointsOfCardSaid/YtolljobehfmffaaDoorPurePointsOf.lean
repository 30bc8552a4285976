/- What PointsOf tells. -/
import Derived.Test.YtolljobehfmffaaDoorPx11
import Derived.Test.YtolljobehfmffaaDoorPureOf
namespace Go.Proofs.YtolljobehfmffaaDoor.Pure
open Go.RowKit Go.Proofs.YtolljobehfmffaaDoor.P Go.Proofs.YtolljobehfmffaaDoorW.PrintWords Go.Proofs.YtolljobehfmffaaDoorW.PrintLast Go.Proofs.YtolljobehfmffaaDoorW.PrintMore

def runes (l : List Int) : List Int := l.filter fun c => decide (isRune c)
theorem runes_ok (l : List Int) : Runes (runes l) := fun c hc => by simpa using (List.mem_filter.mp hc).2
theorem runes_len (l : List Int) : (runes l).length ≤ l.length := List.length_filter_le _ _
theorem runes_append (a b : List Int) : runes (a ++ b) = runes a ++ runes b := List.filter_append ..
theorem runes_take (l : List Int) (i : Nat) (h : i < l.length) : runes (l.take (i + 1)) = runes (l.take i) ++ (if isRune (l.getD i 0) then [l.getD i 0] else []) := by
  have e : l.getD i 0 = l[i] := by rw [List.getD_eq_getElem?_getD, List.getElem?_eq_getElem h]; rfl
  rw [e, List.take_succ_eq_append_getElem h, runes_append]
  congr 1
  by_cases c : isRune l[i] <;> simp [runes, c]
theorem runes_all (l : List Int) (i : Nat) : runes l = runes (l.take i) ++ runes (l.drop i) := by
  rw [← runes_append, List.take_append_drop]
theorem runes_cut (l : List Int) (i : Nat) (h : i < l.length) (r : isRune (l.getD i 0)) (c : Nat) (hc : c = (runes (l.take i)).length) : ((runes l).take (c + 1)).drop c = [l.getD i 0] := by
  have h1 := runes_take l i h
  rw [if_pos r] at h1
  rw [runes_all l (i + 1), h1, List.append_assoc, List.take_append, hc, List.drop_append]
  simp
theorem enc_small {l : List Int} (h : l.length ≤ 100) : (enc l).size ≤ 480 := by
  have h1 : ∀ l : List Int, (encB l).length ≤ 4 * l.length := by
    intro l
    induction l with
    | nil => simp [encB]
    | cons c l ih =>
      have := encodeRune_length c
      rw [encB_cons, List.length_append, List.length_cons]; omega
  have := h1 l
  rw [enc_size]; omega

theorem of_loop (w : List Int) (hl : w.length ≤ 40) (hw : ∀ x ∈ w, -2147483648 ≤ x ∧ x ≤ 2147483647) :
    ∀ (d i k : Nat), w.length - i = d → i ≤ w.length → 2 * d + 60 ≤ k →
      epitomelaw01_PointsOf.l0 k true w (enc (runes w)) ((runes (w.take i)).length : Int) (i : Int) = some true := by
  have hF := runes_len w
  have hs : (enc (runes w)).size ≤ 480 := enc_small (by omega)
  intro d
  induction d with
  | zero =>
    intro i k hd hi hk
    obtain ⟨k, rfl⟩ : ∃ m, k = m + 1 := ⟨k - 1, by omega⟩
    simp only [epitomelaw01_PointsOf.l0]
    rw [if_neg (by omega), if_pos trivial, refOf w (by omega) hw _ (by omega), Option.bind_some]
    rw [show (w.filter fun c => decide (isRune c)) = runes w from rfl, if_pos rfl, valid_ok (runes_ok w) (by omega), Option.bind_some, if_pos rfl, count_ok (runes_ok w) (by omega), Option.bind_some, List.take_of_length_le (by omega)]
    simp
  | succ d ih =>
    intro i k hd hi hk
    obtain ⟨k, rfl⟩ : ∃ m, k = m + 2 := ⟨k - 2, by omega⟩
    have hi' : i < w.length := by omega
    have next := fun k hk => ih (i + 1) k (by omega) (by omega) hk
    have ht := runes_take w i hi'
    have hc := runes_cut w i hi'
    have hle : (runes (w.take (i + 1))).length ≤ (runes w).length := by
      rw [runes_all w (i + 1), List.length_append]; omega
    have hrd : rd w (i : Int) = w.getD i 0 := by unfold rd; rw [Int.toNat_natCast]
    simp only [epitomelaw01_PointsOf.l0]
    rw [if_pos (by omega), if_pos (by omega), hrd]
    generalize w.getD i 0 = x at *
    by_cases r : isRune x
    · rw [if_pos r] at ht
      have hlen : (runes (w.take (i + 1))).length = (runes (w.take i)).length + 1 := by rw [ht, List.length_append]; rfl
      have go : ∀ b, b = true → epitomelaw01_PointsOf.j1 (k + 1) true w (enc (runes w)) ((runes (w.take i)).length : Int) (i : Int) b = some true := by
        intro b hb
        subst hb
        simp only [epitomelaw01_PointsOf.j1, if_true]
        rw [w64 (x := ((runes (w.take i)).length : Int) + 1) (by omega) (by omega), w64 (x := ((runes (w.take i)).length : Int) + 1 - 1) (by omega) (by omega), w64 (x := (i : Int) + 1) (by omega) (by omega)]
        rw [cut_ok (runes_ok w) hs (by omega) (by omega) (by omega), Option.bind_some, if_pos rfl, if_pos (by omega), if_pos (by omega), hrd]
        have e1 : (((runes (w.take i)).length : Int) + 1).toNat = (runes (w.take i)).length + 1 := by omega
        have e2 : (((runes (w.take i)).length : Int) + 1 - 1).toNat = (runes (w.take i)).length := by omega
        rw [e1, e2, hc r _ rfl]
        have hx : points_Of.f [x] = some (enc [x]) := by
          unfold points_Of.f
          rw [if_pos (by simp), filter_runes (by intro y hy; simp at hy; subst hy; exact r)]
        rw [hx, Option.bind_some, if_pos rfl]
        have n := next k (by omega)
        rw [hlen] at n
        have e3 : (((runes (w.take i)).length + 1 : Nat) : Int) = ((runes (w.take i)).length : Int) + 1 := by omega
        have e4 : ((i + 1 : Nat) : Int) = (i : Int) + 1 := by omega
        rw [e3, e4] at n
        exact n
      unfold isRune at r
      rw [if_pos (by omega), if_pos (by omega)]
      by_cases g : x < 55296
      · rw [if_pos g]; exact go _ rfl
      · rw [if_neg g]; exact go _ (decide_eq_true (by omega))
    · rw [if_neg r, List.append_nil] at ht
      have go : ∀ b, b = false → epitomelaw01_PointsOf.j1 (k + 1) true w (enc (runes w)) ((runes (w.take i)).length : Int) (i : Int) b = some true := by
        intro b hb
        subst hb
        simp only [epitomelaw01_PointsOf.j1, Bool.false_eq_true, if_false]
        rw [w64 (x := (i : Int) + 1) (by omega) (by omega)]
        have n := next k (by omega)
        rw [ht] at n
        have e4 : ((i + 1 : Nat) : Int) = (i : Int) + 1 := by omega
        rw [e4] at n
        exact n
      unfold isRune at r
      by_cases g0 : x ≥ 0
      · rw [if_pos g0]
        by_cases g1 : x ≤ 1114111
        · rw [if_pos g1, if_neg (by omega)]; exact go _ (decide_eq_false (by omega))
        · rw [if_neg g1]; exact go _ rfl
      · rw [if_neg g0]; exact go _ rfl
theorem PointsOf : epitomelaw01_PointsOf.Pure := by
  intro l0 _ _ hw
  refine ⟨200, ?_⟩
  unfold epitomelaw01_PointsOf.f
  have hm : (mn (l0.length : Int) 40) ≤ 40 ∧ 0 ≤ mn (l0.length : Int) 40 ∧ mn (l0.length : Int) 40 ≤ (l0.length : Int) := by
    unfold mn; split <;> omega
  rw [shown_ok, Option.bind_some, if_pos hm.2.1, if_pos hm.2.2]
  have hlen : (l0.take (mn (l0.length : Int) 40).toNat).length ≤ 40 := by rw [List.length_take]; omega
  have hx : ∀ x ∈ l0.take (mn (l0.length : Int) 40).toNat, -2147483648 ≤ x ∧ x ≤ 2147483647 := fun x hx => i32_wf (hw x (List.mem_of_mem_take hx))
  generalize l0.take (mn (l0.length : Int) 40).toNat = w at *
  have e : points_Of.f w = some (enc (runes w)) := by unfold points_Of.f; rw [if_pos (by omega)]; rfl
  rw [e, Option.bind_some]
  exact of_loop w hlen hx w.length 0 200 rfl (Nat.zero_le _) (by omega)
end Go.Proofs.YtolljobehfmffaaDoor.Pure
