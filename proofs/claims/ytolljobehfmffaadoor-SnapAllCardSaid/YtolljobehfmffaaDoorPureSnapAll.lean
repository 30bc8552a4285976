/- What SnapAll tells. -/
import Derived.Test.YtolljobehfmffaaDoorPx26
import Derived.Test.YtolljobehfmffaaDoorPureSnapBase
namespace Go.Proofs.YtolljobehfmffaaDoor.Pure
open Go.RowKit Go.Proofs.YtolljobehfmffaaDoor.P Go.Proofs.YtolljobehfmffaaDoorW.PrintWords Go.Proofs.YtolljobehfmffaaDoorW.PrintLast Go.Proofs.YtolljobehfmffaaDoorW.PrintMore

theorem mn_cutA (s : ByteArray) (m : Int) (hm : 0 ≤ m) : 0 ≤ mn (s.size : Int) m ∧ mn (s.size : Int) m ≤ (s.size : Int) ∧ ((s.extract 0 (mn (s.size : Int) m).toNat).size : Int) ≤ m := by
  have h : 0 ≤ mn (s.size : Int) m ∧ mn (s.size : Int) m ≤ (s.size : Int) ∧ mn (s.size : Int) m ≤ m := by
    unfold mn; split <;> omega
  refine ⟨h.1, h.2.1, ?_⟩
  rw [ByteArray.size_extract]; omega
theorem refPut15 (s : ByteArray) (hs : s.size ≤ 9999) (k : Nat) (hk : s.size + 30 ≤ k) : epitomeref15_Put.f k s = snap_Put.f s := by
  rw [put15 s (by omega)]
  unfold epitomeref15_Put.f
  rw [refValid s (by omega) k (by omega), Option.bind_some]
  by_cases v : validT s = true
  · rw [if_pos v, if_pos v, if_neg (by omega)]
    obtain ⟨k, rfl⟩ : ∃ m, k = m + 8 := ⟨k - 8, by omega⟩
    have hp := put_len (n := (s.size : Int)) (by omega) (by omega)
    rw [ref_put, put_f (by omega) (by omega), Option.bind_some, if_pos (by simp only; omega)]
  · rw [if_neg v, if_neg v]
theorem refTake15 (l : List Int) (h : Bytes l) (hl : l.length ≤ 999) (k : Nat) (hk : l.length + 30 ≤ k) : epitomeref15_Take.f k l = some (takeT l) := by
  unfold epitomeref15_Take.f takeT
  obtain ⟨k, rfl⟩ : ∃ m, k = m + 12 := ⟨k - 12, by omega⟩
  rw [ref_take k _ h, Option.bind_some]
  rcases takeS_ok _ h with ⟨e, n0, n1, u0, u1⟩ | e | e
  · rw [e]
    generalize (takeS l).1 = n at *
    generalize (takeS l).2.1 = u at *
    rw [if_pos rfl, if_pos rfl]
    by_cases b : n > 65536
    · rw [if_pos b, if_pos b]
    · rw [if_neg b, if_neg b, w64 (x := (l.length : Int) - u) (by omega) (by omega)]
      by_cases c : (l.length : Int) - u < n
      · rw [if_pos c, if_pos c]
      · rw [if_neg c, if_neg c, w64 (x := u + n) (by omega) (by omega), if_pos (by omega), if_pos (by omega), if_pos (by omega)]
        have e1 : (l.take (u + n).toNat).drop u.toNat = (l.drop u.toNat).take n.toNat := by
          rw [List.drop_take, show (u + n).toNat - u.toNat = n.toNat by omega]
        have hs : (strOfNums ((l.drop u.toNat).take n.toNat)).size ≤ l.length := by rw [strOfNums_size, List.length_take, List.length_drop]; omega
        rw [e1, refValid _ (by omega) _ (by omega), Option.bind_some]
        split <;> rfl
  · rw [e]; rfl
  · rw [e]; rfl
theorem SnapAll : epitomelaw15_SnapAll.Pure := by
  intro a0 l1 _ _ _ hw
  obtain ⟨m0, m1, m2⟩ := mn_cutA a0 200 (by omega)
  have hb : Bytes (l1.take 200) := (bytes_wf hw).take 200
  have hl1 : (l1.take 200).length ≤ 200 := by rw [List.length_take]; omega
  refine ⟨500 + 20, ?_⟩
  unfold epitomelaw15_SnapAll.f
  rw [shown15, Option.bind_some, if_pos m0, if_pos m1]
  change (snap_Put.f (a0.extract 0 (mn (a0.size : Int) 200).toNat)).bind _ = _
  have e1 := refPut15 (a0.extract 0 (mn (a0.size : Int) 200).toNat) (by omega) (500 + 20) (by omega)
  obtain ⟨x, hx⟩ : ∃ x, snap_Put.f (a0.extract 0 (mn (a0.size : Int) 200).toNat) = some x := ⟨_, put15 _ (by omega)⟩
  rw [hx] at e1
  rw [hx, Option.bind_some]
  refine Eq.trans (congrArg (fun z => Option.bind z _) e1) ?_
  rw [Option.bind_some, few_fS, Option.bind_some, take15 (by omega) _ hb (by omega), Option.bind_some, Option.bind_some, refTake15 _ hb (by omega) _ (by omega), Option.bind_some]
  rw [if_pos rfl, if_pos rfl, if_pos rfl, if_pos rfl, if_pos rfl]
  simp
end Go.Proofs.YtolljobehfmffaaDoor.Pure
