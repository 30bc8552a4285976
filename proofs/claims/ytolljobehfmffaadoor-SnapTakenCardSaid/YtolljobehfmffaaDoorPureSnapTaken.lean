/- What SnapTaken tells. -/
import Derived.Test.YtolljobehfmffaaDoorPx28
import Derived.Test.YtolljobehfmffaaDoorPureSnapTook
namespace Go.Proofs.YtolljobehfmffaaDoor.Pure
open Go.RowKit Go.Proofs.YtolljobehfmffaaDoor.P Go.Proofs.YtolljobehfmffaaDoorW.PrintWords Go.Proofs.YtolljobehfmffaaDoorW.PrintLast Go.Proofs.YtolljobehfmffaaDoorW.PrintMore

theorem taken_l0 (w row q : List Int) (kk : Nat) (h1 : 1 ≤ kk) (h2 : kk ≤ w.length) (hq : q = w.take kk) (hr : 1 ≤ row.length) (hr1 : row.length ≤ 65536) (ok : okR (-1) row = true) :
    ∀ (d j k : Nat), row.length - j = d → 1 ≤ j → d + 1 ≤ k → epitomelaw15_SnapTaken.l0 k true w row (kk : Int) q 0 (j : Int) = some true := by
  intro d
  induction d with
  | zero =>
    intro j k hd hj hk
    obtain ⟨k, rfl⟩ : ∃ m, k = m + 1 := ⟨k - 1, by omega⟩
    simp only [epitomelaw15_SnapTaken.l0]
    rw [if_neg (by omega), if_pos trivial, if_pos trivial, if_pos (by omega), if_pos (by omega), if_pos (by omega), Int.toNat_natCast, hq, if_pos rfl, decide_eq_true (by omega)]
  | succ d ih =>
    intro j k hd hj hk
    obtain ⟨k, rfl⟩ : ∃ m, k = m + 1 := ⟨k - 1, by omega⟩
    obtain ⟨i, rfl⟩ : ∃ i, j = i + 1 := ⟨j - 1, by omega⟩
    have up := rise row (-1) ok i (by omega)
    have e1 : ((i + 1 : Nat) : Int) - 1 = (i : Int) := by omega
    have r0 : rd row (i : Int) = row.getD i 0 := by unfold Go.Proofs.YtolljobehfmffaaDoorW.PrintWords.rd; rw [Int.toNat_natCast]
    have r1 : rd row ((i + 1 : Nat) : Int) = row.getD (i + 1) 0 := by unfold Go.Proofs.YtolljobehfmffaaDoorW.PrintWords.rd; rw [Int.toNat_natCast]
    simp only [epitomelaw15_SnapTaken.l0]
    rw [if_pos (by omega), w64 (x := ((i + 1 : Nat) : Int) - 1) (by omega) (by omega), e1, if_pos (by omega), if_pos (by omega), if_pos (by omega), r0, r1, if_neg (by omega), w64 (x := ((i + 1 : Nat) : Int) + 1) (by omega) (by omega), show ((i + 1 : Nat) : Int) + 1 = ((i + 1 + 1 : Nat) : Int) by omega]
    exact ih (i + 1 + 1) k (by omega) (by omega) (by omega)
theorem taken_j0 (w : List Int) (hb : Bytes w) (hw : w.length ≤ 200) (s : ByteArray) (i e : Int) (h : e = 0 ∨ (s = ⟨#[]⟩ ∧ i = 0)) (k : Nat) (hk : 70000 ≤ k) : epitomelaw15_SnapTaken.j0 k true w s i e = some true := by
  obtain ⟨k, rfl⟩ : ∃ m, k = m + 1 := ⟨k - 1, by omega⟩
  simp only [epitomelaw15_SnapTaken.j0]
  obtain ⟨o, u, e2, he, hc⟩ := takeRow_all w hb (by omega) k (by omega)
  rw [he, Option.bind_some]
  dsimp only
  rcases hc with ⟨rfl, rfl, h7⟩ | ⟨rfl, kk, rfl, k1, k2, o1, o2, ok, en⟩
  · rw [if_neg (by omega), if_pos (by trivial), if_pos (by simp), if_pos (by trivial)]
    have last : (if e = 0 then some true else if s.toList = ([] : List UInt8) then some (i == 0) else some false) = some true := by
      rcases h with h | ⟨rfl, rfl⟩
      · rw [if_pos h]
      · by_cases c : e = 0
        · rw [if_pos c]
        · rw [if_neg c, if_pos (by rw [ByteArray.toList_eq]; done)]; rfl
    rcases h7 with rfl | rfl
    · rw [if_pos rfl]; exact last
    · rw [if_neg (by omega), if_pos rfl]; exact last
  · rw [if_pos rfl, putRow_ok o1 o2 ok, Option.bind_some]
    exact taken_l0 w o _ kk k1 k2 en o1 o2 ok (o.length - 1) 1 k rfl (by omega) (by omega)
theorem SnapTaken : epitomelaw15_SnapTaken.Pure := by
  intro l0 _ _ hw
  have hb : Bytes (l0.take 200) := (bytes_wf hw).take 200
  have hl : (l0.take 200).length ≤ 200 := by rw [List.length_take]; omega
  refine ⟨80000 + 20, ?_⟩
  unfold epitomelaw15_SnapTaken.f
  rw [shown15, Option.bind_some, few_fS, Option.bind_some, take15 (by omega) _ hb (by omega), Option.bind_some]
  generalize l0.take 200 = w at *
  rcases takeT_kinds w hb (by omega) with ⟨e, et, he⟩ | ⟨s, kk, et, k1, k2, ep⟩
  · rw [et]
    dsimp only
    rw [if_neg (by omega)]
    exact taken_j0 w hb hl _ _ _ (.inr ⟨rfl, rfl⟩) _ (by omega)
  · rw [et]
    dsimp only
    rw [if_pos rfl, ep, Option.bind_some, if_pos rfl, if_neg (by omega), if_neg (by omega), if_pos (by omega), if_pos (by omega), Int.toNat_natCast, if_pos rfl]
    exact taken_j0 w hb hl _ _ _ (.inl rfl) _ (by omega)
end Go.Proofs.YtolljobehfmffaaDoor.Pure
