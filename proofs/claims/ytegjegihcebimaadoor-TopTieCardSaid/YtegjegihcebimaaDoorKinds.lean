/- What the listed variable span.kinds holds, out of the datum that the row lays. -/
import Derived.Test.YtegjegihcebimaaDoorTabs
import Derived.Test.YtegjegihcebimaaDoorRows
import Derived.Lib.LaidU8
import Derived.ChangeArms
namespace Go.Proofs.YtegjegihcebimaaDoor
open Go.Lib
/-- The cells of span.kinds. -/
def kindsCells : Array Value := (kindsTab.map Value.bool).toArray
theorem kind_cells {H : Type} {enc : TypeId × Value → H} {w : World} {base : Nat} {sp : Nat → Bool} {held : Bool} {fuel : Nat} {cs : List Value} {b0 b1 : Bool} {p : List MemPlace}
    (h : DataW.trod enc Tryd.prog w base sp held fuel 138 cs = some (.agg [.lit (.bool b0), .lit (.bool b1)], p)) : cs[0]? = some (.bool b0) ∧ cs[1]? = some (.bool b1) := by
  obtain ⟨xs, n, rfl, hx, hl, hxl, hall⟩ := DataW.trod_struct Tryd.underlying138 h
  have h0 : DataW.trod enc Tryd.prog w base sp held n 4 ((cs.drop 0).take (Tryd.prog.cellsOf 4)) = xs[0]? := hall 0 _ rfl
  have h1 : DataW.trod enc Tryd.prog w base sp held n 4 ((cs.drop 1).take (Tryd.prog.cellsOf 4)) = xs[1]? := hall 1 _ rfl
  have hc : Tryd.prog.cellsOf 4 = 1 := by kernel_rfl
  rw [hc] at h0 h1
  have hxs : xs.map (·.1) = [.lit (.bool b0), .lit (.bool b1)] := by
    have := congrArg Prod.fst hx
    simpa using this.symm
  match xs, hxs with
  | [x0, x1], hxs =>
    simp only [List.map_cons, List.map_nil, List.cons.injEq, and_true] at hxs
    obtain ⟨e0, e1⟩ := hxs
    obtain ⟨c0, k0, hx0⟩ := DataW.trod_bool Tryd.underlying4 (h0.trans (by rfl : ([x0, x1] : List _)[0]? = some x0))
    obtain ⟨c1, k1, hx1⟩ := DataW.trod_bool Tryd.underlying4 (h1.trans (by rfl : ([x0, x1] : List _)[1]? = some x1))
    subst hx0 hx1
    simp only [DataW.lit.injEq, Lit.bool.injEq] at e0 e1
    subst e0 e1
    constructor
    · have := congrArg (·[0]?) k0
      simpa [List.getElem?_take, List.getElem?_drop] using this
    · have := congrArg (·[0]?) k1
      simpa [List.getElem?_take, List.getElem?_drop] using this
theorem kinds_of_reads {w : World} (h : VarReads Tryd.prog w "epitome/span.kinds" (Rows.laid_epitome_span_kinds : DataW Unit)) : KindsAt w := by
  obtain ⟨g, t, cs, fuel, p, hg, hty, hvar, hd⟩ := h
  obtain rfl : 2 = g := Option.some.inj ((show Tryd.prog.globalNamed "epitome/span.kinds" = some 2 by kernel_rfl).symm.trans hg)
  obtain rfl : 157 = t := Option.some.inj ((show (Tryd.prog.globals[2]?).map (·.type) = some 157 by kernel_rfl).symm.trans hty)
  have hc : Tryd.prog.cellsOf 138 = 2 := by kernel_rfl
  intro i hi
  obtain ⟨fuel', d, q, hdi, he⟩ := array_elem Tryd.underlying157 hd (i / 2) (by omega)
  rw [hc] at he
  rw [World.var?_cell hg hvar i, ← Array.getElem?_toList]
  have key : ∀ (b0 b1 : Bool), d = .agg [.lit (.bool b0), .lit (.bool b1)] → (cs.toList[i / 2 * 2]? = some (.bool b0) ∧ cs.toList[i / 2 * 2 + 1]? = some (.bool b1)) := by
    intro b0 b1 e
    subst e
    obtain ⟨e0, e1⟩ := kind_cells he
    simp only [List.getElem?_take, List.getElem?_drop] at e0 e1
    exact ⟨by simpa using e0, by simpa using e1⟩
  rcases (by omega : i = 0 ∨ i = 1 ∨ i = 2 ∨ i = 3 ∨ i = 4 ∨ i = 5 ∨ i = 6 ∨ i = 7) with rfl | rfl | rfl | rfl | rfl | rfl | rfl | rfl
  · exact (key false false (Option.some.inj hdi).symm).1
  · exact (key false false (Option.some.inj hdi).symm).2
  · exact (key true true (Option.some.inj hdi).symm).1
  · exact (key true true (Option.some.inj hdi).symm).2
  · exact (key false false (Option.some.inj hdi).symm).1
  · exact (key false false (Option.some.inj hdi).symm).2
  · exact (key true false (Option.some.inj hdi).symm).1
  · exact (key true false (Option.some.inj hdi).symm).2
end Go.Proofs.YtegjegihcebimaaDoor
