/- What SnapSizes tells. -/
import Derived.Test.YtolljobehfmffaaDoorPx24
import Derived.Test.YtolljobehfmffaaDoorPureSnapBase
namespace Go.Proofs.YtolljobehfmffaaDoor.Pure
open Go.RowKit Go.Proofs.YtolljobehfmffaaDoor.P Go.Proofs.YtolljobehfmffaaDoorW.PrintWords Go.Proofs.YtolljobehfmffaaDoorW.PrintLast Go.Proofs.YtolljobehfmffaaDoorW.PrintMore

def seqL : Int → Nat → List Int
  | _, 0 => []
  | f, n + 1 => f :: seqL (f + 1) n
theorem seqL_len : ∀ (n : Nat) (f : Int), (seqL f n).length = n
  | 0, _ => rfl
  | n + 1, f => by rw [seqL, List.length_cons, seqL_len n]
theorem seqL_snoc : ∀ (n : Nat) (f : Int), seqL f (n + 1) = seqL f n ++ [f + (n : Int)]
  | 0, f => by simp [seqL]
  | n + 1, f => by
    rw [seqL, seqL_snoc n (f + 1), seqL]
    simp only [List.cons_append]
    rw [show f + 1 + (n : Int) = f + ((n + 1 : Nat) : Int) by omega]
theorem seqL_ok : ∀ (n : Nat) (f was : Int), was < f → f + n ≤ 268435455 → okR was (seqL f n) = true
  | 0, _, _, _, _ => rfl
  | n + 1, f, was, h, hf => by
    rw [seqL, okR, seqL_ok n (f + 1) f (by omega) (by omega), decide_eq_true (show was < f ∧ f ≤ 268435455 by omega)]; rfl
theorem seqL_enc : ∀ (n : Nat) (f : Int), encR (f - 1) (seqL f n) = List.replicate n 0
  | 0, _ => rfl
  | n + 1, f => by
    have h := seqL_enc n (f + 1)
    rw [show f + 1 - 1 = f by omega] at h
    rw [seqL, encR, h, show f - (f - 1) - 1 = 0 by omega, List.replicate_succ]; rfl
theorem sizes_row (f : Int) (n : Nat) (h0 : 0 ≤ f) (h1 : f < 128) (n1 : n < 100) : snap_PutRow.f (seqL f (n + 1)) = some (((n + 1 : Nat) : Int) :: f :: List.replicate n 0, 0) := by
  rw [putRow_ok (by rw [seqL_len]; omega) (by rw [seqL_len]; omega) (seqL_ok _ _ _ (by omega) (by omega))]
  unfold encRow
  have h := seqL_enc n (f + 1)
  rw [show f + 1 - 1 = f by omega] at h
  rw [seqL_len, seqL, encR, h]
  have p1 : putS 3 ((n + 1 : Nat) : Int) = [((n + 1 : Nat) : Int)] := by
    rcases put_cases (n := ((n + 1 : Nat) : Int)) (by omega) (by omega) with ⟨_, e⟩ | ⟨_, _, e⟩ | ⟨_, _, e⟩ | ⟨_, e⟩
    · exact e
    all_goals omega
  have p2 : putS 3 (f - -1 - 1) = [f] := by
    rw [show f - -1 - 1 = f by omega]
    rcases put_cases (n := f) (by omega) (by omega) with ⟨_, e⟩ | ⟨_, _, e⟩ | ⟨_, _, e⟩ | ⟨_, e⟩
    · exact e
    all_goals omega
  rw [p1, p2]; rfl
theorem sizes_l1 (u : ByteArray) (b p : List Int) (c : Nat) (hp : ∀ i : Nat, 2 ≤ i → i < p.length → rd p (i : Int) = 0) (hl : p.length ≤ 999) (hc : c ≤ b.length) (hu : strOfNums (b.drop c) = u) :
    ∀ (d i k : Nat), p.length - i = d → 2 ≤ i → d + 1 ≤ k → epitomelaw15_SnapSizes.l1 k u b (c : Int) p (i : Int) = some true := by
  intro d
  induction d with
  | zero =>
    intro i k hd hi hk
    obtain ⟨k, rfl⟩ : ∃ m, k = m + 1 := ⟨k - 1, by omega⟩
    simp only [epitomelaw15_SnapSizes.l1]
    rw [if_neg (by omega), if_pos (by omega), if_pos (by omega), Int.toNat_natCast, hu]
    simp
  | succ d ih =>
    intro i k hd hi hk
    obtain ⟨k, rfl⟩ : ∃ m, k = m + 1 := ⟨k - 1, by omega⟩
    simp only [epitomelaw15_SnapSizes.l1]
    rw [if_pos (by omega), if_pos (by omega), if_pos (hp i hi (by omega)), w64 (x := (i : Int) + 1) (by omega) (by omega), show (i : Int) + 1 = ((i + 1 : Nat) : Int) by omega]
    exact ih (i + 1) k (by omega) (by omega) (by omega)
theorem sizes_l0 (a1 : Int) (h0 : 0 ≤ a1) (h1 : a1 ≤ 255) (u : ByteArray) (b : List Int) (c n : Nat) (hn : n < 100) (hb : (b.length : Int) = (u.size : Int) + c) (hs : b.length ≤ 9999) (hu : strOfNums (b.drop c) = u) :
    ∀ (d i k : Nat), n + 1 - i = d → i ≤ n + 1 → d + n + 10 ≤ k → epitomelaw15_SnapSizes.l0 k a1 true u b 0 (c : Int) (seqL (a1 % 128) i) ((n + 1 : Nat) : Int) (i : Int) = some true := by
  intro d
  induction d with
  | zero =>
    intro i k hd hi hk
    obtain ⟨k, rfl⟩ : ∃ m, k = m + 2 := ⟨k - 2, by omega⟩
    obtain rfl : i = n + 1 := by omega
    have hg : Go.bits .and .u8 a1 127 = a1 % 128 := and127 h0 h1
    simp only [epitomelaw15_SnapSizes.l0]
    generalize hf : a1 % 128 = f at *
    rw [if_neg (by omega), sizes_row f n (by omega) (by omega) hn, Option.bind_some]
    dsimp only
    have hlen : (((n + 1 : Nat) : Int) :: f :: List.replicate n 0).length = n + 2 := by simp
    rw [if_pos trivial, if_pos trivial, if_pos rfl, w64 (x := (u.size : Int) + c) (by omega) (by omega), if_pos hb, hlen, w64 (x := ((n + 1 : Nat) : Int) + 1) (by omega) (by omega), if_pos (by omega), if_pos (by omega)]
    rw [show rd (((n + 1 : Nat) : Int) :: f :: List.replicate n 0) 0 = ((n + 1 : Nat) : Int) from rfl, w64 (by omega) (by omega), if_pos rfl, if_pos (by omega), show rd (((n + 1 : Nat) : Int) :: f :: List.replicate n 0) 1 = f from rfl, hg]
    simp only [epitomelaw15_SnapSizes.j2, bne_self_eq_false, Bool.false_eq_true, if_false]
    refine sizes_l1 u b _ c ?_ (by rw [hlen]; omega) (by omega) hu n 2 k (by rw [hlen]; omega) (by omega) (by omega)
    intro i i2 il
    obtain ⟨j, rfl⟩ : ∃ j, i = j + 2 := ⟨i - 2, by omega⟩
    unfold Go.Proofs.YtolljobehfmffaaDoorW.PrintWords.rd
    rw [Int.toNat_natCast, List.getD_cons_succ, List.getD_cons_succ, List.getD_eq_getElem?_getD, List.getElem?_replicate]
    split <;> rfl
  | succ d ih =>
    intro i k hd hi hk
    obtain ⟨k, rfl⟩ : ∃ m, k = m + 1 := ⟨k - 1, by omega⟩
    have hg : Go.bits .and .u8 a1 127 = a1 % 128 := and127 h0 h1
    simp only [epitomelaw15_SnapSizes.l0]
    rw [if_pos (by omega), seqL_len, if_pos (by omega), hg, w64 (x := a1 % 128) (by omega) (by omega), w64 (x := a1 % 128 + (i : Int)) (by omega) (by omega), w64 (x := (i : Int) + 1) (by omega) (by omega), ← seqL_snoc, show (i : Int) + 1 = ((i + 1 : Nat) : Int) by omega]
    exact ih (i + 1) k (by omega) (by omega) (by omega)
theorem mn_cut (s : ByteArray) (m : Int) (hm : 0 ≤ m) : 0 ≤ mn (s.size : Int) m ∧ mn (s.size : Int) m ≤ (s.size : Int) ∧ ((s.extract 0 (mn (s.size : Int) m).toNat).size : Int) ≤ m := by
  have h : 0 ≤ mn (s.size : Int) m ∧ mn (s.size : Int) m ≤ (s.size : Int) ∧ mn (s.size : Int) m ≤ m := by
    unfold mn; split <;> omega
  refine ⟨h.1, h.2.1, ?_⟩
  rw [ByteArray.size_extract]; omega
theorem SnapSizes : epitomelaw15_SnapSizes.Pure := by
  intro a0 a1 a2 _ h1 h2
  have b1 := u8_wf h1
  have b2 := u8_wf h2
  obtain ⟨m0, m1, m2⟩ := mn_cut a0 100 (by omega)
  obtain ⟨l, el, hl, _, hs⟩ := fit_ok (a0.extract 0 (mn (a0.size : Int) 100).toNat) (by omega) (500 + 20) (by omega)
  refine ⟨500 + 20, ?_⟩
  have ew : wrap64 a2 = a2 := w64 (by omega) (by omega)
  have t0 : 0 ≤ Int.tmod a2 100 := Int.tmod_nonneg _ (by omega)
  have t1 : Int.tmod a2 100 < 100 := Int.tmod_lt_of_pos _ (by omega)
  have go : ∀ c : Nat, c = (putS 3 ((enc l).size : Int)).length → epitomelaw15_SnapSizes.j0 (500 + 20) a1 a2 true (enc l) (putS 3 (enc l).size ++ bytesOf (enc l)) 0 (c : Int) = some true := by
    intro c hc
    simp only [epitomelaw15_SnapSizes.j0]
    rw [ew]
    generalize Int.tmod a2 100 = t at *
    rw [w64 (x := 1 + t) (by omega) (by omega), show 1 + t = ((t.toNat + 1 : Nat) : Int) by omega]
    have hlen : (putS 3 ((enc l).size : Int) ++ bytesOf (enc l)).length = c + (enc l).size := by rw [List.length_append, bytesOf_length, hc]
    have hp := put_len (n := ((enc l).size : Int)) (by omega) (by omega)
    exact sizes_l0 a1 b1.1 b1.2 (enc l) _ c t.toNat (by omega) (by rw [hlen]; omega) (by rw [hlen]; omega) (by rw [hc, List.drop_left, str_bytes]) (t.toNat + 1) 0 _ rfl (by omega) (by omega)
  unfold epitomelaw15_SnapSizes.f
  rw [shown15, Option.bind_some, if_pos m0, if_pos m1]
  refine Eq.trans (congrArg (fun z => Option.bind z _) el) ?_
  rw [Option.bind_some, put15 _ (by omega), if_pos (validT_enc hl), Option.bind_some]
  by_cases c : ((enc l).size : Int) ≥ 128
  · rw [if_pos c]
    refine go 2 ?_
    rcases put_cases (n := ((enc l).size : Int)) (by omega) (by omega) with ⟨_, e⟩ | ⟨_, _, e⟩ | ⟨_, _, e⟩ | ⟨_, e⟩
    · omega
    · rw [e]; rfl
    all_goals omega
  · rw [if_neg c]
    refine go 1 ?_
    rcases put_cases (n := ((enc l).size : Int)) (by omega) (by omega) with ⟨_, e⟩ | ⟨_, _, e⟩ | ⟨_, _, e⟩ | ⟨_, e⟩
    · rw [e]; rfl
    all_goals omega
end Go.Proofs.YtolljobehfmffaaDoor.Pure
