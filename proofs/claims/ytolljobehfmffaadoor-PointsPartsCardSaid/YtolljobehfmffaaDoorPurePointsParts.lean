/- What PointsParts tells. -/
import Derived.Test.YtolljobehfmffaaDoorPx8
import Derived.Test.YtolljobehfmffaaDoorPureOf
namespace Go.Proofs.YtolljobehfmffaaDoor.Pure
open Go.RowKit Go.Proofs.YtolljobehfmffaaDoor.P Go.Proofs.YtolljobehfmffaaDoorW.PrintWords Go.Proofs.YtolljobehfmffaaDoorW.PrintLast Go.Proofs.YtolljobehfmffaaDoorW.PrintMore

theorem PointsParts : epitomelaw01_PointsParts.Pure := by
  intro a0 a1 a2 _ h1 h2
  obtain ⟨r, e, hr⟩ := few_ok a0
  obtain ⟨l, el, hl, hn, hs⟩ := fit_ok r hr 201 (by omega)
  have b1 := u16_wf h1
  have b2 := u16_wf h2
  refine ⟨201, ?_⟩
  unfold epitomelaw01_PointsParts.f
  rw [shown_ok, Option.bind_some, e, Option.bind_some, el, Option.bind_some, count_ok hl (by omega), Option.bind_some, if_pos rfl, decide_eq_false (by omega)]
  simp only [epitomelaw01_PointsParts.j0, Bool.false_eq_true, if_false]
  rw [w64 (x := a1) (by omega) (by omega), w64 (x := a2) (by omega) (by omega), w64 (x := (l.length : Int) + 1) (by omega) (by omega)]
  have i0 : 0 ≤ Int.tmod a1 ((l.length : Int) + 1) := Int.tmod_nonneg _ (by omega)
  have i1 : Int.tmod a1 ((l.length : Int) + 1) < (l.length : Int) + 1 := Int.tmod_lt_of_pos _ (by omega)
  generalize Int.tmod a1 ((l.length : Int) + 1) = i at *
  rw [w64 (x := (l.length : Int) - i) (by omega) (by omega), w64 (x := (l.length : Int) - i + 1) (by omega) (by omega)]
  have d0 : 0 ≤ Int.tmod a2 ((l.length : Int) - i + 1) := Int.tmod_nonneg _ (by omega)
  have d1 : Int.tmod a2 ((l.length : Int) - i + 1) < (l.length : Int) - i + 1 := Int.tmod_lt_of_pos _ (by omega)
  generalize Int.tmod a2 ((l.length : Int) - i + 1) = d at *
  rw [w64 (x := i + d) (by omega) (by omega), w64 (x := i + d + 1) (by omega) (by omega), w64 (x := i + d - i) (by omega) (by omega), w64 (x := (l.length : Int) - (i + d)) (by omega) (by omega)]
  rw [if_neg (by omega), if_neg (by omega), cut_ok hl hs (by omega) (by omega) (by omega), cut_ok hl hs (by omega) (by omega) (by omega), cut_ok hl hs (by omega) (by omega) (by omega),
    cut_off hl hs (by omega), cut_off hl hs (by omega)]
  simp only [Option.bind_some, if_true]
  have z0 := enc_le (l := l) (0 : Int).toNat i.toNat hs
  have z1 := enc_le (l := l) i.toNat (i + d).toNat hs
  have z2 := enc_le (l := l) (i + d).toNat (l.length : Int).toNat hs
  rw [if_pos (by omega), if_pos (by omega), enc_append, enc_append]
  have whole : (l.take i.toNat).drop (0 : Int).toNat ++ (l.take (i + d).toNat).drop i.toNat ++ (l.take (l.length : Int).toNat).drop (i + d).toNat = l := by
    rw [Int.toNat_natCast, List.take_length, show (0 : Int).toNat = 0 from rfl, List.drop_zero]
    have h : l.take i.toNat ++ (l.take (i + d).toNat).drop i.toNat = l.take (i + d).toNat := by
      conv => rhs; rw [← List.take_append_drop i.toNat (l.take (i + d).toNat), List.take_take, Nat.min_eq_left (by omega)]
    rw [h, List.take_append_drop]
  rw [whole, if_pos rfl]
  rw [count_ok ((hl.take _).drop _) (by omega), count_ok ((hl.take _).drop _) (by omega), count_ok ((hl.take _).drop _) (by omega)]
  simp only [Option.bind_some]
  rw [if_pos (by simp only [List.length_drop, List.length_take]; omega), if_pos (by simp only [List.length_drop, List.length_take]; omega)]
  refine congrArg some ?_
  rw [beq_iff_eq]
  simp only [List.length_drop, List.length_take]; omega
end Go.Proofs.YtolljobehfmffaaDoor.Pure
