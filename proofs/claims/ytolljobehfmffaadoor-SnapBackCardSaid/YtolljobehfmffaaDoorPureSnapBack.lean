/- What SnapBack tells. -/
import Derived.Test.YtolljobehfmffaaDoorPx27
import Derived.Test.YtolljobehfmffaaDoorPureSnapTook
namespace Go.Proofs.YtolljobehfmffaaDoor.Pure
open Go.RowKit Go.Proofs.YtolljobehfmffaaDoor.P Go.Proofs.YtolljobehfmffaaDoorW.PrintWords Go.Proofs.YtolljobehfmffaaDoorW.PrintLast Go.Proofs.YtolljobehfmffaaDoorW.PrintMore

/-- The last number of a row. -/
def endR : Int → List Int → Int
  | was, [] => was
  | _, n :: l => endR n l
theorem endR_snoc : ∀ (l : List Int) (was x : Int), endR was (l ++ [x]) = x
  | [], _, _ => rfl
  | n :: l, _, x => endR_snoc l n x
theorem okR_snoc : ∀ (l : List Int) (was x : Int), okR was l = true → endR was l < x → x ≤ 268435455 → okR was (l ++ [x]) = true
  | [], _, x, _, h, h1 => by
    simp only [endR] at h
    rw [List.nil_append, okR, okR, decide_eq_true ⟨h, h1⟩]; rfl
  | n :: l, _, x, ok, h, h1 => by
    rw [okR] at ok
    simp only [Bool.and_eq_true] at ok
    rw [List.cons_append, okR, ok.1, okR_snoc l n x ok.2 h h1]; rfl
theorem back_l2 (row q m : List Int) (e2 k2 h2 : Int) (hrow : row.length ≤ 20) (hq : (row = [] ∧ q = [] ∧ e2 = 2) ∨ (1 ≤ row.length ∧ okR (-1) row = true ∧ q = encRow row ∧ h2 = 0 ∧ m = row ∧ k2 = (q.length : Int))) (hql : q.length ≤ 9999) :
    ∀ (d j k : Nat), q.length - j = d → j ≤ q.length → d + 60 ≤ k → epitomelaw15_SnapBack.l2 k row q e2 m k2 h2 (j : Int) = some true := by
  intro d
  induction d with
  | zero =>
    intro j k hd hj hk
    obtain ⟨k, rfl⟩ : ∃ m, k = m + 1 := ⟨k - 1, by omega⟩
    simp only [epitomelaw15_SnapBack.l2]
    rw [if_neg (by omega)]
    rcases hq with ⟨rfl, rfl, rfl⟩ | ⟨r1, ok, rfl, rfl, rfl, rfl⟩
    · rw [if_pos (by simp), if_pos (by trivial)]
    · rw [if_neg (by omega), if_pos (by trivial), same_f _ (by omega) _ (by omega), Option.bind_some, if_pos rfl]
      simp
  | succ d ih =>
    intro j k hd hj hk
    obtain ⟨k, rfl⟩ : ∃ m, k = m + 1 := ⟨k - 1, by omega⟩
    simp only [epitomelaw15_SnapBack.l2]
    rw [if_pos (by omega), if_pos (by omega), if_pos (by omega), Int.toNat_natCast]
    have e : snap_TakeRow.f k (q.take j) = some ([], 0, 7) := by
      rcases hq with ⟨rfl, rfl, rfl⟩ | ⟨r1, ok, rfl, rfl, rfl, rfl⟩
      · simp at hd
      · exact row_short r1 (by omega) ok j (by omega) k (by omega)
    rw [e, Option.bind_some, if_pos rfl, w64 (x := (j : Int) + 1) (by omega) (by omega), show (j : Int) + 1 = ((j + 1 : Nat) : Int) by omega]
    exact ih (j + 1) k (by omega) (by omega) (by omega)
theorem back_l1 (s : ByteArray) (hs : s.size ≤ 480) (row q m : List Int) (e2 k2 h2 : Int) (n : Nat) (hn : ∀ k, n ≤ k → epitomelaw15_SnapBack.l2 k row q e2 m k2 h2 0 = some true) :
    ∀ (d j k : Nat), (putS 3 s.size ++ bytesOf s).length - j = d → j ≤ (putS 3 s.size ++ bytesOf s).length → d + n + 60 ≤ k → epitomelaw15_SnapBack.l1 k row (putS 3 s.size ++ bytesOf s) q e2 m k2 h2 (j : Int) = some true := by
  have hp := put_len (n := (s.size : Int)) (by omega) (by omega)
  have hlen : (putS 3 (s.size : Int) ++ bytesOf s).length ≤ 500 := by rw [List.length_append, bytesOf_length]; omega
  have hbs : Bytes (putS 3 (s.size : Int) ++ bytesOf s) := by
    intro x hx
    rcases List.mem_append.mp hx with h | h
    · exact put_bytes (by omega) (by omega) x h
    · exact bytes_bytesOf s x h
  intro d
  induction d with
  | zero =>
    intro j k hd hj hk
    obtain ⟨k, rfl⟩ : ∃ m, k = m + 1 := ⟨k - 1, by omega⟩
    simp only [epitomelaw15_SnapBack.l1]
    rw [if_neg (by omega)]
    exact hn k (by omega)
  | succ d ih =>
    intro j k hd hj hk
    obtain ⟨k, rfl⟩ : ∃ m, k = m + 1 := ⟨k - 1, by omega⟩
    simp only [epitomelaw15_SnapBack.l1]
    rw [if_pos (by omega), if_pos (by omega), if_pos (by omega), Int.toNat_natCast, take15 (by omega) _ (hbs.take j) (by rw [List.length_take]; omega), takeT_short s (by omega) j (by omega), Option.bind_some, if_pos rfl, w64 (x := (j : Int) + 1) (by omega) (by omega), show (j : Int) + 1 = ((j + 1 : Nat) : Int) by omega]
    exact ih (j + 1) k (by omega) (by omega) (by omega)
theorem back_j1 (behind : List Int) (hb : Bytes (behind.take 200)) (s : ByteArray) (hs : s.size ≤ 480) (hv : validT s = true) (row : List Int) (hrow : row.length ≤ 20) (ok : okR (-1) row = true) (k : Nat) (hk : 3000 ≤ k) :
    epitomelaw15_SnapBack.j1 k behind true s row = some true := by
  obtain ⟨k, rfl⟩ : ∃ m, k = m + 2 := ⟨k - 2, by omega⟩
  have hp := put_len (n := (s.size : Int)) (by omega) (by omega)
  have hlen : (putS 3 (s.size : Int) ++ bytesOf s).length ≤ 500 := by rw [List.length_append, bytesOf_length]; omega
  have hfew : (behind.take 200).length ≤ 200 := by rw [List.length_take]; omega
  have hbs : Bytes (putS 3 (s.size : Int) ++ bytesOf s ++ behind.take 200) := by
    intro x hx
    rcases List.mem_append.mp hx with h | h
    · rcases List.mem_append.mp h with h | h
      · exact put_bytes (by omega) (by omega) x h
      · exact bytes_bytesOf s x h
    · exact hb x h
  have er : encRow row = putS 3 row.length ++ encR (-1) row := rfl
  have erl : (encRow row).length ≤ 4 + 4 * row.length := by
    have h1 := encR_len row (-1) (by omega) (by omega) ok
    have h2 := put_len (n := (row.length : Int)) (by omega) (by omega)
    rw [er, List.length_append]; omega
  simp only [epitomelaw15_SnapBack.j1]
  rw [put15 s (by omega), if_pos hv, Option.bind_some, Option.bind_some, List.nil_append]
  dsimp only
  rw [List.length_nil, if_pos (by omega), Option.bind_some, few_fS, Option.bind_some, if_pos (by omega), take15 (by omega) _ hbs (by rw [List.length_append]; omega), takeT_put s (by omega) hv, Option.bind_some]
  by_cases c : row.length = 0
  · obtain rfl : row = [] := List.length_eq_zero_iff.mp c
    have e0 : snap_PutRow.f [] = some ([], 2) := by rw [putRow_f]; rfl
    rw [e0, Option.bind_some, Option.bind_some]
    dsimp only
    rw [List.nil_append, List.length_nil, if_pos (by omega), Option.bind_some, Option.bind_some, List.length_nil, if_pos (by omega), List.nil_append]
    obtain ⟨o, u, e2, he, _⟩ := takeRow_all _ hb (by omega) (k + 1) (by omega)
    rw [he, Option.bind_some, if_pos trivial, if_pos rfl, if_pos rfl, if_pos rfl, if_pos rfl]
    simp only [epitomelaw15_SnapBack.j2]
    rw [if_neg (by decide)]
    exact back_l1 s hs [] [] o 2 u e2 60 (fun k hk => back_l2 [] [] o 2 u e2 (by simp) (.inl ⟨rfl, rfl, rfl⟩) (by simp) 0 0 k rfl (by simp) (by omega)) _ 0 k rfl (by omega) (by omega)
  · rw [putRow_ok (by omega) (by omega) ok, Option.bind_some, Option.bind_some]
    dsimp only
    rw [List.nil_append, List.length_nil, if_pos (by omega), Option.bind_some, Option.bind_some, if_pos (by omega), row_back (by omega) (by omega) ok hb (by rw [List.length_append]; omega) _ (by omega), Option.bind_some, if_pos trivial, if_pos rfl, if_pos rfl, if_pos rfl, if_pos rfl]
    simp only [epitomelaw15_SnapBack.j2]
    rw [decide_eq_true (show (row.length : Int) > 0 by omega), if_neg (by decide)]
    exact back_l1 s hs row (encRow row) row 0 _ 0 ((encRow row).length + 60) (fun k hk => back_l2 row (encRow row) row 0 _ 0 hrow (.inr ⟨by omega, ok, rfl, rfl, rfl, rfl⟩) (by omega) (encRow row).length 0 k (by omega) (by omega) (by omega)) _ 0 k rfl (by omega) (by omega)
theorem back_l0 (steps behind : List Int) (hst : ∀ x ∈ steps, 0 ≤ x ∧ x ≤ 65535) (hb : Bytes (behind.take 200)) (s : ByteArray) (hs : s.size ≤ 480) (hv : validT s = true) :
    ∀ (d i k : Nat) (row : List Int) (at_ : Int), 20 - i = d → i ≤ 20 → d + 3001 ≤ k → row.length = i → okR (-1) row = true → endR (-1) row = at_ → -1 ≤ at_ → at_ < 65536 * (i : Int) → epitomelaw15_SnapBack.l0 k steps behind true s row at_ (i : Int) = some true := by
  intro d
  induction d with
  | zero =>
    intro i k row at_ hd hi hk hr ok he a0 a1
    obtain ⟨k, rfl⟩ : ∃ m, k = m + 1 := ⟨k - 1, by omega⟩
    simp only [epitomelaw15_SnapBack.l0]
    have fin := back_j1 behind hb s hs hv row (by omega) ok k (by omega)
    by_cases c : (i : Int) < (steps.length : Int)
    · rw [if_pos c, if_neg (by omega)]; exact fin
    · rw [if_neg c]; exact fin
  | succ d ih =>
    intro i k row at_ hd hi hk hr ok he a0 a1
    obtain ⟨k, rfl⟩ : ∃ m, k = m + 1 := ⟨k - 1, by omega⟩
    simp only [epitomelaw15_SnapBack.l0]
    by_cases c : (i : Int) < (steps.length : Int)
    · have hx : 0 ≤ rd steps (i : Int) ∧ rd steps (i : Int) ≤ 65535 := by
        unfold Go.Proofs.YtolljobehfmffaaDoorW.PrintWords.rd
        rw [Int.toNat_natCast, List.getD_eq_getElem?_getD, List.getElem?_eq_getElem (by omega)]
        exact hst _ (List.getElem_mem _)
      generalize rd steps (i : Int) = x at *
      rw [if_pos c, if_pos (by omega), if_pos (by omega), if_pos (by omega), w64 (x := x) (by omega) (by omega), w64 (x := at_ + 1) (by omega) (by omega), w64 (x := at_ + 1 + x) (by omega) (by omega), w64 (x := (i : Int) + 1) (by omega) (by omega), show (i : Int) + 1 = ((i + 1 : Nat) : Int) by omega]
      exact ih (i + 1) k (row ++ [at_ + 1 + x]) (at_ + 1 + x) (by omega) (by omega) (by omega) (by rw [List.length_append, hr]; rfl) (okR_snoc row (-1) _ ok (by omega) (by omega)) (endR_snoc row _ _) (by omega) (by omega)
    · rw [if_neg c]
      exact back_j1 behind hb s hs hv row (by omega) ok k (by omega)
theorem mn_cutB (s : ByteArray) (m : Int) (hm : 0 ≤ m) : 0 ≤ mn (s.size : Int) m ∧ mn (s.size : Int) m ≤ (s.size : Int) ∧ ((s.extract 0 (mn (s.size : Int) m).toNat).size : Int) ≤ m := by
  have h : 0 ≤ mn (s.size : Int) m ∧ mn (s.size : Int) m ≤ (s.size : Int) ∧ mn (s.size : Int) m ≤ m := by
    unfold mn; split <;> omega
  refine ⟨h.1, h.2.1, ?_⟩
  rw [ByteArray.size_extract]; omega
theorem SnapBack : epitomelaw15_SnapBack.Pure := by
  intro a0 l1 l2 _ _ _ hw1 _ _ hw2
  obtain ⟨m0, m1, m2⟩ := mn_cutB a0 100 (by omega)
  obtain ⟨l, el, hl, _, hs⟩ := fit_ok (a0.extract 0 (mn (a0.size : Int) 100).toNat) (by omega) (4000 + 20) (by omega)
  refine ⟨4000 + 20, ?_⟩
  unfold epitomelaw15_SnapBack.f
  rw [shown15, Option.bind_some, if_pos m0, if_pos m1]
  refine Eq.trans (congrArg (fun z => Option.bind z _) el) ?_
  rw [Option.bind_some]
  exact back_l0 l1 l2 (fun x hx => u16_wf (hw1 x hx)) ((bytes_wf hw2).take 200) (enc l) (by omega) (validT_enc hl) 20 0 (4000 + 20) [] (-1) rfl (by omega) (by omega) rfl rfl rfl (by omega) (by omega)
end Go.Proofs.YtolljobehfmffaaDoor.Pure
