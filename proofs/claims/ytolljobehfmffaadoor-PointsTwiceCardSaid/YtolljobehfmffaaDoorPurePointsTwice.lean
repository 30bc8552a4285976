/- What PointsTwice tells. -/
import Derived.Test.YtolljobehfmffaaDoorPureTwice
import Derived.OpenShut
namespace Go.Proofs.YtolljobehfmffaaDoor.Pure
open Go.RowKit Go.Proofs.YtolljobehfmffaaDoor.P Go.Proofs.YtolljobehfmffaaDoorW.PrintWords Go.Proofs.YtolljobehfmffaaDoorW.PrintLast Go.Proofs.YtolljobehfmffaaDoorW.PrintMore

theorem okWide_array {P : Program} {w : World} {r : Reach} {base : Nat} {t : TypeId} {v : Value} {n : Nat} {e : TypeId} (ht : P.underlying t = some (.array n e)) (h : Value.okWide P w r base t v) : ∃ cs, v = .agg cs ∧ cs.size = P.cellsOf t := by
  simp only [Value.okWide, ht] at h
  obtain ⟨cs, h1, h2, _⟩ := h
  exact ⟨cs, h1, h2⟩
/-- An array of four whole numbers, by value, opened. -/
theorem open_four {H : Type} {enc : TypeId × Value → H} {P : Program} {w : World} {base b0 : Nat} {spare : Nat → Bool} {held : Bool} {r : Reach} {t e : TypeId} {k : IntKind} {v : Value} {d : DataW H} {p : List MemPlace}
    (ht : P.underlying t = some (.array 4 e)) (he : P.underlying e = some (.int k)) (hC : P.cellsOf t = 4) (hc : P.cellsOf e = 1)
    (hv : Value.okWide P w r b0 t v) (h : DataW.Trod enc P w base spare held t v d p) :
    ∃ x0 x1 x2 x3, v = .agg #[.int k x0, .int k x1, .int k x2, .int k x3] ∧ (Lit.int k x0).wf = true ∧ (Lit.int k x1).wf = true ∧ (Lit.int k x2).wf = true ∧ (Lit.int k x3).wf = true := by
  obtain ⟨cs, rfl, hsz⟩ := okWide_array ht hv
  rw [hC] at hsz
  cases cs with | mk cs =>
  replace hsz : cs.length = 4 := hsz
  obtain ⟨fuel, hf⟩ := h
  obtain ⟨xs, m, _, _, _, hl, hel⟩ := DataW.trod_array ht hf
  match cs, hsz with
  | [c0, c1, c2, c3], _ =>
    rw [hc] at hel
    have g : ∀ i (hi : i < 4) c, ([c0, c1, c2, c3].drop (i * 1)).take 1 = [c] → ∃ n, c = .int k n ∧ (Lit.int k n).wf = true := by
      intro i hi c e0
      have h1 := hel i hi
      simp only [Value.cells] at h1
      rw [e0] at h1
      obtain ⟨y, hy⟩ : ∃ y, xs[i]? = some y := ⟨xs[i]'(by omega), List.getElem?_eq_getElem (by omega)⟩
      rw [hy] at h1
      obtain ⟨n, e1, _, hw⟩ := DataW.trod_int he h1
      simp at e1
      exact ⟨n, e1, hw⟩
    obtain ⟨n0, rfl, w0⟩ := g 0 (by omega) c0 rfl
    obtain ⟨n1, rfl, w1⟩ := g 1 (by omega) c1 rfl
    obtain ⟨n2, rfl, w2⟩ := g 2 (by omega) c2 rfl
    obtain ⟨n3, rfl, w3⟩ := g 3 (by omega) c3 rfl
    exact ⟨n0, n1, n2, n3, rfl, w0, w1, w2, w3⟩

theorem cut_twice (l : List Int) (I K J M : Nat) (h : I + M ≤ K) : (((l.take K).drop I).take M).drop J = (l.take (I + M)).drop (I + J) := by
  rw [List.take_drop, List.take_take, List.drop_drop, Nat.min_eq_left h]
theorem PointsTwice (a0 : ByteArray) (x0 x1 x2 x3 : Int) (w : World) (hT : Tabs w) (b0 : (Lit.int .u16 x0).wf = true) (b1 : (Lit.int .u16 x1).wf = true) (b2 : (Lit.int .u16 x2).wf = true) (b3 : (Lit.int .u16 x3).wf = true) :
    Calls Tryd.prog 6 #[.string a0, .agg #[.int .u16 x0, .int .u16 x1, .int .u16 x2, .int .u16 x3]] w fun e w' => e = .returned (.bool true) ∧ Below w.heap.size w w' := by
  obtain ⟨r, er, hr⟩ := few_ok a0
  obtain ⟨l, el, hl, hn, hs⟩ := fit_ok r hr 201 (by omega)
  have b0 := u16_wf b0
  have b1 := u16_wf b1
  have b2 := u16_wf b2
  have b3 := u16_wf b3
  have i0 : 0 ≤ Int.tmod x0 ((l.length : Int) + 1) := Int.tmod_nonneg _ (by omega)
  have i1 : Int.tmod x0 ((l.length : Int) + 1) < (l.length : Int) + 1 := Int.tmod_lt_of_pos _ (by omega)
  obtain ⟨I, hI⟩ : ∃ I, Int.tmod x0 ((l.length : Int) + 1) = I := ⟨_, rfl⟩
  rw [hI] at i0 i1
  have d0 : 0 ≤ Int.tmod x1 ((l.length : Int) - I + 1) := Int.tmod_nonneg _ (by omega)
  have d1 : Int.tmod x1 ((l.length : Int) - I + 1) < (l.length : Int) - I + 1 := Int.tmod_lt_of_pos _ (by omega)
  obtain ⟨D, hD⟩ : ∃ D, Int.tmod x1 ((l.length : Int) - I + 1) = D := ⟨_, rfl⟩
  rw [hD] at d0 d1
  have j0 : 0 ≤ Int.tmod x2 (D + 1) := Int.tmod_nonneg _ (by omega)
  have j1 : Int.tmod x2 (D + 1) < D + 1 := Int.tmod_lt_of_pos _ (by omega)
  obtain ⟨J, hJ⟩ : ∃ J, Int.tmod x2 (D + 1) = J := ⟨_, rfl⟩
  rw [hJ] at j0 j1
  have m0 : 0 ≤ Int.tmod x3 (D - J + 1) := Int.tmod_nonneg _ (by omega)
  have m1 : Int.tmod x3 (D - J + 1) < D - J + 1 := Int.tmod_lt_of_pos _ (by omega)
  obtain ⟨E, hE⟩ : ∃ E, Int.tmod x3 (D - J + 1) = E := ⟨_, rfl⟩
  rw [hE] at m0 m1
  have hs1 := enc_le (l := l) I.toNat (I + D).toNat hs
  have hl1 : Runes ((l.take (I + D).toNat).drop I.toNat) := (hl.take _).drop _
  have hlen : (((l.take (I + D).toNat).drop I.toNat).length : Int) = D := by rw [List.length_drop, List.length_take]; omega
  have hB := cut_twice l I.toNat (I + D).toNat J.toNat (J + E).toNat (by omega)
  rw [show I.toNat + (J + E).toNat = (I + (J + E)).toNat by omega, show I.toNat + J.toNat = (I + J).toNat by omega] at hB
  refine twice_walk a0 r (enc l) (enc ((l.take (I + D).toNat).drop I.toNat)) (enc ((l.take (I + (J + E)).toNat).drop (I + J).toNat)) x0 x1 x2 x3 (l.length : Int) ((l.length : Int) + 1) I ((l.length : Int) - I) ((l.length : Int) - I + 1) D (I + D) D (D + 1) J (D - J) (D - J + 1) E (J + E) (I + J) (I + (J + E)) w hT
    er ⟨201, el⟩ (count_ok hl (by omega)) (decide_eq_false (by omega)) (w64 (by omega) (by omega)) (w64 (by omega) (by omega)) (w64 (by omega) (by omega)) (w64 (by omega) (by omega))
    (w64 (by omega) (by omega)) (by omega) hI (w64 (by omega) (by omega)) (w64 (by omega) (by omega)) (by omega) hD (w64 (by omega) (by omega))
    (cut_ok hl hs (by omega) (by omega) (by omega)) ((w64 (by omega) (by omega)).trans (by omega)) (w64 (by omega) (by omega)) (by omega) hJ (w64 (by omega) (by omega)) (w64 (by omega) (by omega)) (by omega) hE (w64 (by omega) (by omega))
    ?_ (w64 (by omega) (by omega)) (w64 (by omega) (by omega)) (cut_ok hl hs (by omega) (by omega) (by omega))
  rw [← hB]
  exact cut_ok hl1 hs1 (by omega) (by omega) (by omega)
end Go.Proofs.YtolljobehfmffaaDoor.Pure
