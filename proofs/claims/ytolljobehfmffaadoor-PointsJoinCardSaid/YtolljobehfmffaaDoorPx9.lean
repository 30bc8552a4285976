-- WRITTEN BY A PROGRAM OF THIS SESSION (wip/pp in its repo), made after the kit's print
import Derived.Test.YtolljobehfmffaaDoorPx0
import Derived.Test.YtolljobehfmffaaDoorPx1
import Derived.Test.YtolljobehfmffaaDoorPx2
import Derived.Test.YtolljobehfmffaaDoorPx7
namespace Go.Proofs.YtolljobehfmffaaDoor.P
open Go.RowKit Go.Proofs.YtolljobehfmffaaDoorW.PrintWords Go.Proofs.YtolljobehfmffaaDoorW.PrintLast Go.Proofs.YtolljobehfmffaaDoorW.PrintMore
attribute [local go_sem] max2_int min2_int max_two min_two max_three min_three max_four min_four   -- for this text's walks alone
set_option linter.unusedVariables false
set_option linter.unusedSimpArgs false

/-! ### epitomelaw01_PointsJoin: function 5 -/
def epitomelaw01_PointsJoin.f (k : Nat) (a0 : ByteArray) (a1 : ByteArray) (a2 : Int) : Option (Bool) := (epitomelaw01_shown.f).bind fun t180 => ((epitomelaw01_few.f a0).bind fun t181 => ((epitomeref01_Fit.f k t181).bind fun t182 => ((epitomelaw01_few.f a1).bind fun t183 => ((epitomeref01_Fit.f k t183).bind fun t184 => ((some (([Go.bits .or .u8 128 a2] : List Int) : List Int)).bind fun y185 => (if t182.size + (strOfNums y185).size ≤ 9223372036854775807 then (if t182.size + (strOfNums y185).size + 1 ≤ 9223372036854775807 then (if t182.size + (strOfNums y185).size + 1 + t184.size ≤ 9223372036854775807 then ((points_Cut.f (((t182 ++ (strOfNums y185)) ++ (⟨#[97]⟩ : ByteArray)) ++ t184) 0 0).bind fun bt188 => (if t180 = true then (if t182.size + t184.size ≤ 9223372036854775807 then ((points_Valid.f (t182 ++ t184)).bind fun t190 => (if t190 = true then ((points_Count.f (t182 ++ t184)).bind fun t191 => ((points_Count.f t182).bind fun t192 => ((points_Count.f t184).bind fun t193 => (if t191 = (wrap64 (t192 + t193)) then ((points_Valid.f (((t182 ++ (strOfNums y185)) ++ (⟨#[97]⟩ : ByteArray)) ++ t184)).bind fun t194 => (if t194 = true then (some false) else ((points_Count.f (((t182 ++ (strOfNums y185)) ++ (⟨#[97]⟩ : ByteArray)) ++ t184)).bind fun t195 => (if t195 = (-1) then (some (bt188.2 == 3)) else (some false))))) else (some false))))) else (some false))) else (none)) else (some false))) else (none)) else (none)) else (none)))))))
theorem epitomelaw01_PointsJoin.mono : ∀ a0 a1 a2 k, LeO (epitomelaw01_PointsJoin.f k a0 a1 a2) (epitomelaw01_PointsJoin.f (k + 1) a0 a1 a2) := by
  intro a0 a1 a2 k
  unfold epitomelaw01_PointsJoin.f
  repeat' first
      | (with_reducible exact epitomeref01_Fit.mono _ _)
      | (with_reducible exact LeO.refl _)
      | (with_reducible exact LeO.none _)
      | (with_reducible refine LeO.ite ?_ ?_)
      | (with_reducible refine LeO.bind ?_ (fun _ => ?_))
      | exact epitomeref01_Fit.mono _ _
      | exact LeO.none _
      | refine LeO.ite ?_ ?_
      | refine LeO.bind ?_ (fun _ => ?_)
set_option maxHeartbeats 8000000 in
set_option maxRecDepth 100000 in
theorem epitomelaw01_PointsJoin.calls (k : Nat) (a0 : ByteArray) (a1 : ByteArray) (a2 : Int) (r : Bool) (w : World) (hT : Tabs w) (h : epitomelaw01_PointsJoin.f k a0 a1 a2 = some r) (hlaw : r = true) :
    Calls Tryd.prog 5 #[.string a0, .string a1, .int .u8 a2] w fun e w' => e = .returned (.bool r) ∧ Below w.heap.size w w' := by
  have HLAW := Aside0.mk hlaw
  clear hlaw
  have HT := Aside0.mk hT
  clear hT
  have HB := Aside0.mk (Below.refl w.heap.size w)
  have H : ((epitomelaw01_shown.f).bind fun t180 => ((epitomelaw01_few.f a0).bind fun t181 => ((epitomeref01_Fit.f k t181).bind fun t182 => ((epitomelaw01_few.f a1).bind fun t183 => ((epitomeref01_Fit.f k t183).bind fun t184 => ((some (([Go.bits .or .u8 128 a2] : List Int) : List Int)).bind fun y185 => (if t182.size + (strOfNums y185).size ≤ 9223372036854775807 then (if t182.size + (strOfNums y185).size + 1 ≤ 9223372036854775807 then (if t182.size + (strOfNums y185).size + 1 + t184.size ≤ 9223372036854775807 then ((points_Cut.f (((t182 ++ (strOfNums y185)) ++ (⟨#[97]⟩ : ByteArray)) ++ t184) 0 0).bind fun bt188 => (if t180 = true then (if t182.size + t184.size ≤ 9223372036854775807 then ((points_Valid.f (t182 ++ t184)).bind fun t190 => (if t190 = true then ((points_Count.f (t182 ++ t184)).bind fun t191 => ((points_Count.f t182).bind fun t192 => ((points_Count.f t184).bind fun t193 => (if t191 = (wrap64 (t192 + t193)) then ((points_Valid.f (((t182 ++ (strOfNums y185)) ++ (⟨#[97]⟩ : ByteArray)) ++ t184)).bind fun t194 => (if t194 = true then (some false) else ((points_Count.f (((t182 ++ (strOfNums y185)) ++ (⟨#[97]⟩ : ByteArray)) ++ t184)).bind fun t195 => (if t195 = (-1) then (some (bt188.2 == 3)) else (some false))))) else (some false))))) else (some false))) else (none)) else (some false))) else (none)) else (none)) else (none)))))))) = some r := h
  clear h
  replace H := Option.bind_eq_some_iff.mp H
  obtain ⟨t180, A40, H⟩ := H
  replace H : ((epitomelaw01_few.f a0).bind fun t181 => ((epitomeref01_Fit.f k t181).bind fun t182 => ((epitomelaw01_few.f a1).bind fun t183 => ((epitomeref01_Fit.f k t183).bind fun t184 => ((some (([Go.bits .or .u8 128 a2] : List Int) : List Int)).bind fun y185 => (if t182.size + (strOfNums y185).size ≤ 9223372036854775807 then (if t182.size + (strOfNums y185).size + 1 ≤ 9223372036854775807 then (if t182.size + (strOfNums y185).size + 1 + t184.size ≤ 9223372036854775807 then ((points_Cut.f (((t182 ++ (strOfNums y185)) ++ (⟨#[97]⟩ : ByteArray)) ++ t184) 0 0).bind fun bt188 => (if t180 = true then (if t182.size + t184.size ≤ 9223372036854775807 then ((points_Valid.f (t182 ++ t184)).bind fun t190 => (if t190 = true then ((points_Count.f (t182 ++ t184)).bind fun t191 => ((points_Count.f t182).bind fun t192 => ((points_Count.f t184).bind fun t193 => (if t191 = (wrap64 (t192 + t193)) then ((points_Valid.f (((t182 ++ (strOfNums y185)) ++ (⟨#[97]⟩ : ByteArray)) ++ t184)).bind fun t194 => (if t194 = true then (some false) else ((points_Count.f (((t182 ++ (strOfNums y185)) ++ (⟨#[97]⟩ : ByteArray)) ++ t184)).bind fun t195 => (if t195 = (-1) then (some (bt188.2 == 3)) else (some false))))) else (some false))))) else (some false))) else (none)) else (some false))) else (none)) else (none)) else (none))))))) = some r := H
  have A4 := Aside0.mk A40
  clear A40
  replace H := Option.bind_eq_some_iff.mp H
  obtain ⟨t181, A50, H⟩ := H
  replace H : ((epitomeref01_Fit.f k t181).bind fun t182 => ((epitomelaw01_few.f a1).bind fun t183 => ((epitomeref01_Fit.f k t183).bind fun t184 => ((some (([Go.bits .or .u8 128 a2] : List Int) : List Int)).bind fun y185 => (if t182.size + (strOfNums y185).size ≤ 9223372036854775807 then (if t182.size + (strOfNums y185).size + 1 ≤ 9223372036854775807 then (if t182.size + (strOfNums y185).size + 1 + t184.size ≤ 9223372036854775807 then ((points_Cut.f (((t182 ++ (strOfNums y185)) ++ (⟨#[97]⟩ : ByteArray)) ++ t184) 0 0).bind fun bt188 => (if t180 = true then (if t182.size + t184.size ≤ 9223372036854775807 then ((points_Valid.f (t182 ++ t184)).bind fun t190 => (if t190 = true then ((points_Count.f (t182 ++ t184)).bind fun t191 => ((points_Count.f t182).bind fun t192 => ((points_Count.f t184).bind fun t193 => (if t191 = (wrap64 (t192 + t193)) then ((points_Valid.f (((t182 ++ (strOfNums y185)) ++ (⟨#[97]⟩ : ByteArray)) ++ t184)).bind fun t194 => (if t194 = true then (some false) else ((points_Count.f (((t182 ++ (strOfNums y185)) ++ (⟨#[97]⟩ : ByteArray)) ++ t184)).bind fun t195 => (if t195 = (-1) then (some (bt188.2 == 3)) else (some false))))) else (some false))))) else (some false))) else (none)) else (some false))) else (none)) else (none)) else (none)))))) = some r := H
  have A5 := Aside0.mk A50
  clear A50
  replace H := Option.bind_eq_some_iff.mp H
  obtain ⟨t182, A60, H⟩ := H
  replace H : ((epitomelaw01_few.f a1).bind fun t183 => ((epitomeref01_Fit.f k t183).bind fun t184 => ((some (([Go.bits .or .u8 128 a2] : List Int) : List Int)).bind fun y185 => (if t182.size + (strOfNums y185).size ≤ 9223372036854775807 then (if t182.size + (strOfNums y185).size + 1 ≤ 9223372036854775807 then (if t182.size + (strOfNums y185).size + 1 + t184.size ≤ 9223372036854775807 then ((points_Cut.f (((t182 ++ (strOfNums y185)) ++ (⟨#[97]⟩ : ByteArray)) ++ t184) 0 0).bind fun bt188 => (if t180 = true then (if t182.size + t184.size ≤ 9223372036854775807 then ((points_Valid.f (t182 ++ t184)).bind fun t190 => (if t190 = true then ((points_Count.f (t182 ++ t184)).bind fun t191 => ((points_Count.f t182).bind fun t192 => ((points_Count.f t184).bind fun t193 => (if t191 = (wrap64 (t192 + t193)) then ((points_Valid.f (((t182 ++ (strOfNums y185)) ++ (⟨#[97]⟩ : ByteArray)) ++ t184)).bind fun t194 => (if t194 = true then (some false) else ((points_Count.f (((t182 ++ (strOfNums y185)) ++ (⟨#[97]⟩ : ByteArray)) ++ t184)).bind fun t195 => (if t195 = (-1) then (some (bt188.2 == 3)) else (some false))))) else (some false))))) else (some false))) else (none)) else (some false))) else (none)) else (none)) else (none))))) = some r := H
  have A6 := Aside0.mk A60
  clear A60
  replace H := Option.bind_eq_some_iff.mp H
  obtain ⟨t183, A70, H⟩ := H
  replace H : ((epitomeref01_Fit.f k t183).bind fun t184 => ((some (([Go.bits .or .u8 128 a2] : List Int) : List Int)).bind fun y185 => (if t182.size + (strOfNums y185).size ≤ 9223372036854775807 then (if t182.size + (strOfNums y185).size + 1 ≤ 9223372036854775807 then (if t182.size + (strOfNums y185).size + 1 + t184.size ≤ 9223372036854775807 then ((points_Cut.f (((t182 ++ (strOfNums y185)) ++ (⟨#[97]⟩ : ByteArray)) ++ t184) 0 0).bind fun bt188 => (if t180 = true then (if t182.size + t184.size ≤ 9223372036854775807 then ((points_Valid.f (t182 ++ t184)).bind fun t190 => (if t190 = true then ((points_Count.f (t182 ++ t184)).bind fun t191 => ((points_Count.f t182).bind fun t192 => ((points_Count.f t184).bind fun t193 => (if t191 = (wrap64 (t192 + t193)) then ((points_Valid.f (((t182 ++ (strOfNums y185)) ++ (⟨#[97]⟩ : ByteArray)) ++ t184)).bind fun t194 => (if t194 = true then (some false) else ((points_Count.f (((t182 ++ (strOfNums y185)) ++ (⟨#[97]⟩ : ByteArray)) ++ t184)).bind fun t195 => (if t195 = (-1) then (some (bt188.2 == 3)) else (some false))))) else (some false))))) else (some false))) else (none)) else (some false))) else (none)) else (none)) else (none)))) = some r := H
  have A7 := Aside0.mk A70
  clear A70
  replace H := Option.bind_eq_some_iff.mp H
  obtain ⟨t184, A80, H⟩ := H
  replace H : ((some (([Go.bits .or .u8 128 a2] : List Int) : List Int)).bind fun y185 => (if t182.size + (strOfNums y185).size ≤ 9223372036854775807 then (if t182.size + (strOfNums y185).size + 1 ≤ 9223372036854775807 then (if t182.size + (strOfNums y185).size + 1 + t184.size ≤ 9223372036854775807 then ((points_Cut.f (((t182 ++ (strOfNums y185)) ++ (⟨#[97]⟩ : ByteArray)) ++ t184) 0 0).bind fun bt188 => (if t180 = true then (if t182.size + t184.size ≤ 9223372036854775807 then ((points_Valid.f (t182 ++ t184)).bind fun t190 => (if t190 = true then ((points_Count.f (t182 ++ t184)).bind fun t191 => ((points_Count.f t182).bind fun t192 => ((points_Count.f t184).bind fun t193 => (if t191 = (wrap64 (t192 + t193)) then ((points_Valid.f (((t182 ++ (strOfNums y185)) ++ (⟨#[97]⟩ : ByteArray)) ++ t184)).bind fun t194 => (if t194 = true then (some false) else ((points_Count.f (((t182 ++ (strOfNums y185)) ++ (⟨#[97]⟩ : ByteArray)) ++ t184)).bind fun t195 => (if t195 = (-1) then (some (bt188.2 == 3)) else (some false))))) else (some false))))) else (some false))) else (none)) else (some false))) else (none)) else (none)) else (none))) = some r := H
  have A8 := Aside0.mk A80
  clear A80
  obtain ⟨y185, hy185⟩ : ∃ y_ : List Int, y_ = (([Go.bits .or .u8 128 a2] : List Int)) := ⟨_, rfl⟩
  replace H : (if t182.size + (strOfNums y185).size ≤ 9223372036854775807 then (if t182.size + (strOfNums y185).size + 1 ≤ 9223372036854775807 then (if t182.size + (strOfNums y185).size + 1 + t184.size ≤ 9223372036854775807 then ((points_Cut.f (((t182 ++ (strOfNums y185)) ++ (⟨#[97]⟩ : ByteArray)) ++ t184) 0 0).bind fun bt188 => (if t180 = true then (if t182.size + t184.size ≤ 9223372036854775807 then ((points_Valid.f (t182 ++ t184)).bind fun t190 => (if t190 = true then ((points_Count.f (t182 ++ t184)).bind fun t191 => ((points_Count.f t182).bind fun t192 => ((points_Count.f t184).bind fun t193 => (if t191 = (wrap64 (t192 + t193)) then ((points_Valid.f (((t182 ++ (strOfNums y185)) ++ (⟨#[97]⟩ : ByteArray)) ++ t184)).bind fun t194 => (if t194 = true then (some false) else ((points_Count.f (((t182 ++ (strOfNums y185)) ++ (⟨#[97]⟩ : ByteArray)) ++ t184)).bind fun t195 => (if t195 = (-1) then (some (bt188.2 == 3)) else (some false))))) else (some false))))) else (some false))) else (none)) else (some false))) else (none)) else (none)) else (none)) = some r := by first | (rw [hy185]; with_reducible exact H) | (have H2_ := (Option.bind_some _ _).symm.trans H; rw [hy185]; with_reducible exact H2_) | (have H2_ := (Option.bind_some _ _).symm.trans H; with_reducible exact H2_) | with_reducible exact H | (rw [hy185]; exact H) | exact H
  have Ny185 := Aside0.mk hy185
  clear hy185
  by_cases c9 : t182.size + (strOfNums y185).size ≤ 9223372036854775807
  · rw [if_pos c9] at H
    have c9b0 := eq_true c9
    have c9b1 : decide (t182.size + (strOfNums y185).size ≤ 9223372036854775807) = true := decide_eq_true c9
    try have c9b2 : (9223372036854775807 < t182.size + (strOfNums y185).size) = False := eq_false (Nat.not_lt.2 c9)
    by_cases c10 : t182.size + (strOfNums y185).size + 1 ≤ 9223372036854775807
    · rw [if_pos c10] at H
      have c10b0 := eq_true c10
      have c10b1 : decide (t182.size + (strOfNums y185).size + 1 ≤ 9223372036854775807) = true := decide_eq_true c10
      try have c10b2 : (9223372036854775807 < t182.size + (strOfNums y185).size + 1) = False := eq_false (Nat.not_lt.2 c10)
      by_cases c11 : t182.size + (strOfNums y185).size + 1 + t184.size ≤ 9223372036854775807
      · rw [if_pos c11] at H
        have c11b0 := eq_true c11
        have c11b1 : decide (t182.size + (strOfNums y185).size + 1 + t184.size ≤ 9223372036854775807) = true := decide_eq_true c11
        try have c11b2 : (9223372036854775807 < t182.size + (strOfNums y185).size + 1 + t184.size) = False := eq_false (Nat.not_lt.2 c11)
        replace H := Option.bind_eq_some_iff.mp H
        obtain ⟨⟨t188, t189⟩, A120, H⟩ := H
        replace H : (if t180 = true then (if t182.size + t184.size ≤ 9223372036854775807 then ((points_Valid.f (t182 ++ t184)).bind fun t190 => (if t190 = true then ((points_Count.f (t182 ++ t184)).bind fun t191 => ((points_Count.f t182).bind fun t192 => ((points_Count.f t184).bind fun t193 => (if t191 = (wrap64 (t192 + t193)) then ((points_Valid.f (((t182 ++ (strOfNums y185)) ++ (⟨#[97]⟩ : ByteArray)) ++ t184)).bind fun t194 => (if t194 = true then (some false) else ((points_Count.f (((t182 ++ (strOfNums y185)) ++ (⟨#[97]⟩ : ByteArray)) ++ t184)).bind fun t195 => (if t195 = (-1) then (some (t189 == 3)) else (some false))))) else (some false))))) else (some false))) else (none)) else (some false)) = some r := H
        have A12 := Aside0.mk A120
        clear A120
        by_cases c13 : t180 = true
        · subst c13
          have H1 : (if t182.size + t184.size ≤ 9223372036854775807 then ((points_Valid.f (t182 ++ t184)).bind fun t190 => (if t190 = true then ((points_Count.f (t182 ++ t184)).bind fun t191 => ((points_Count.f t182).bind fun t192 => ((points_Count.f t184).bind fun t193 => (if t191 = (wrap64 (t192 + t193)) then ((points_Valid.f (((t182 ++ (strOfNums y185)) ++ (⟨#[97]⟩ : ByteArray)) ++ t184)).bind fun t194 => (if t194 = true then (some false) else ((points_Count.f (((t182 ++ (strOfNums y185)) ++ (⟨#[97]⟩ : ByteArray)) ++ t184)).bind fun t195 => (if t195 = (-1) then (some (t189 == 3)) else (some false))))) else (some false))))) else (some false))) else (none)) = some r := by rw [if_pos rfl] at H; exact H
          clear H
          have H := H1
          clear H1
          by_cases c14 : t182.size + t184.size ≤ 9223372036854775807
          · rw [if_pos c14] at H
            have c14b0 := eq_true c14
            have c14b1 : decide (t182.size + t184.size ≤ 9223372036854775807) = true := decide_eq_true c14
            try have c14b2 : (9223372036854775807 < t182.size + t184.size) = False := eq_false (Nat.not_lt.2 c14)
            replace H := Option.bind_eq_some_iff.mp H
            obtain ⟨t190, A150, H⟩ := H
            replace H : (if t190 = true then ((points_Count.f (t182 ++ t184)).bind fun t191 => ((points_Count.f t182).bind fun t192 => ((points_Count.f t184).bind fun t193 => (if t191 = (wrap64 (t192 + t193)) then ((points_Valid.f (((t182 ++ (strOfNums y185)) ++ (⟨#[97]⟩ : ByteArray)) ++ t184)).bind fun t194 => (if t194 = true then (some false) else ((points_Count.f (((t182 ++ (strOfNums y185)) ++ (⟨#[97]⟩ : ByteArray)) ++ t184)).bind fun t195 => (if t195 = (-1) then (some (t189 == 3)) else (some false))))) else (some false))))) else (some false)) = some r := H
            have A15 := Aside0.mk A150
            clear A150
            by_cases c16 : t190 = true
            · subst c16
              have H1 : ((points_Count.f (t182 ++ t184)).bind fun t191 => ((points_Count.f t182).bind fun t192 => ((points_Count.f t184).bind fun t193 => (if t191 = (wrap64 (t192 + t193)) then ((points_Valid.f (((t182 ++ (strOfNums y185)) ++ (⟨#[97]⟩ : ByteArray)) ++ t184)).bind fun t194 => (if t194 = true then (some false) else ((points_Count.f (((t182 ++ (strOfNums y185)) ++ (⟨#[97]⟩ : ByteArray)) ++ t184)).bind fun t195 => (if t195 = (-1) then (some (t189 == 3)) else (some false))))) else (some false))))) = some r := by rw [if_pos rfl] at H; exact H
              clear H
              have H := H1
              clear H1
              replace H := Option.bind_eq_some_iff.mp H
              obtain ⟨t191, A170, H⟩ := H
              replace H : ((points_Count.f t182).bind fun t192 => ((points_Count.f t184).bind fun t193 => (if t191 = (wrap64 (t192 + t193)) then ((points_Valid.f (((t182 ++ (strOfNums y185)) ++ (⟨#[97]⟩ : ByteArray)) ++ t184)).bind fun t194 => (if t194 = true then (some false) else ((points_Count.f (((t182 ++ (strOfNums y185)) ++ (⟨#[97]⟩ : ByteArray)) ++ t184)).bind fun t195 => (if t195 = (-1) then (some (t189 == 3)) else (some false))))) else (some false)))) = some r := H
              have A17 := Aside0.mk A170
              clear A170
              replace H := Option.bind_eq_some_iff.mp H
              obtain ⟨t192, A180, H⟩ := H
              replace H : ((points_Count.f t184).bind fun t193 => (if t191 = (wrap64 (t192 + t193)) then ((points_Valid.f (((t182 ++ (strOfNums y185)) ++ (⟨#[97]⟩ : ByteArray)) ++ t184)).bind fun t194 => (if t194 = true then (some false) else ((points_Count.f (((t182 ++ (strOfNums y185)) ++ (⟨#[97]⟩ : ByteArray)) ++ t184)).bind fun t195 => (if t195 = (-1) then (some (t189 == 3)) else (some false))))) else (some false))) = some r := H
              have A18 := Aside0.mk A180
              clear A180
              replace H := Option.bind_eq_some_iff.mp H
              obtain ⟨t193, A190, H⟩ := H
              replace H : (if t191 = (wrap64 (t192 + t193)) then ((points_Valid.f (((t182 ++ (strOfNums y185)) ++ (⟨#[97]⟩ : ByteArray)) ++ t184)).bind fun t194 => (if t194 = true then (some false) else ((points_Count.f (((t182 ++ (strOfNums y185)) ++ (⟨#[97]⟩ : ByteArray)) ++ t184)).bind fun t195 => (if t195 = (-1) then (some (t189 == 3)) else (some false))))) else (some false)) = some r := H
              have A19 := Aside0.mk A190
              clear A190
              by_cases c20 : t191 = (wrap64 (t192 + t193))
              · rw [if_pos c20] at H
                have c20b0 : (t191 == (wrap64 (t192 + t193))) = true := beq_iff_eq.mpr c20
                have c20b1 : (t191 != (wrap64 (t192 + t193))) = false := bne_eq_false_iff_eq.mpr c20
                clear c20
                replace H := Option.bind_eq_some_iff.mp H
                obtain ⟨t194, A210, H⟩ := H
                replace H : (if t194 = true then (some false) else ((points_Count.f (((t182 ++ (strOfNums y185)) ++ (⟨#[97]⟩ : ByteArray)) ++ t184)).bind fun t195 => (if t195 = (-1) then (some (t189 == 3)) else (some false)))) = some r := H
                have A21 := Aside0.mk A210
                clear A210
                by_cases c22 : t194 = true
                · subst c22
                  have H1 : (some false) = some r := by rw [if_pos rfl] at H; exact H
                  clear H
                  have H := H1
                  clear H1
                  obtain rfl := Option.some.inj H
                  exact absurd HLAW.out (by decide)
                · replace c22 := Bool.eq_false_iff.mpr c22
                  subst c22
                  have H1 : ((points_Count.f (((t182 ++ (strOfNums y185)) ++ (⟨#[97]⟩ : ByteArray)) ++ t184)).bind fun t195 => (if t195 = (-1) then (some (t189 == 3)) else (some false))) = some r := by rw [if_neg (show ¬ (false = true) by decide)] at H; exact H
                  clear H
                  have H := H1
                  clear H1
                  replace H := Option.bind_eq_some_iff.mp H
                  obtain ⟨t195, A230, H⟩ := H
                  replace H : (if t195 = (-1) then (some (t189 == 3)) else (some false)) = some r := H
                  have A23 := Aside0.mk A230
                  clear A230
                  by_cases c24 : t195 = (-1)
                  · rw [if_pos c24] at H
                    have c24b0 : (t195 == (-1)) = true := beq_iff_eq.mpr c24
                    have c24b1 : (t195 != (-1)) = false := bne_eq_false_iff_eq.mpr c24
                    clear c24
                    obtain rfl := Option.some.inj H
                    simp only [Option.some.injEq, Prod.mk.injEq] at H
                    obtain ⟨rfl⟩ := H
                    go_enter Tryd.func5, Tryd.ntmps5
                    go_wp2_with (first | ((with_reducible refine gate_callee (f := 14) rfl ?_); refine goesL_ (some 13) rfl rfl Tryd.func14 (by kernel_rfl) rfl #[] rfl (by (try simp only [List.map_toArray, List.map_cons, List.map_nil]); first | done | rfl | (simp only [List.length_drop, List.length_take]; rfl)) ?_; (with_reducible refine (epitomelaw01_shown.calls  true _ ?side1 A4.out).mono ?_); (case side1 => exact Tabs.below HT.out (by repeat (first | (with_reducible first | exact HB.out | apply below_alloc | apply pw_below_drewN | apply below_drew1) | exact HB.out))); rintro e w25 ⟨rfl, hb⟩; refine ⟨_, rfl, ?_⟩; have n0_ := Aside0.mk (below_step (by repeat (first | (with_reducible first | exact HB.out | apply below_alloc | apply pw_below_drewN | apply below_drew1) | exact HB.out)) hb); clear HB; have HB := n0_; clear n0_; (try clear hb); (try clear hb2); (try clear hk); (try clear hi)) | ((with_reducible refine gate_callee (f := 15) rfl ?_); refine goesL_ (some 15) rfl rfl Tryd.func15 (by kernel_rfl) rfl #[.string a0] rfl (by (try simp only [List.map_toArray, List.map_cons, List.map_nil]); first | done | rfl | (simp only [List.length_drop, List.length_take]; rfl)) ?_; (with_reducible refine (epitomelaw01_few.calls a0 t181 _ A5.out).mono ?_); rintro e w26 ⟨rfl, hb⟩; refine ⟨_, rfl, ?_⟩; have n0_ := Aside0.mk (below_step (by repeat (first | (with_reducible first | exact HB.out | apply below_alloc | apply pw_below_drewN | apply below_drew1) | exact HB.out)) hb); clear HB; have HB := n0_; clear n0_; (try clear hb); (try clear hb2); (try clear hk); (try clear hi)) | ((with_reducible refine gate_callee (f := 22) rfl ?_); refine goesL_ (some 16) rfl rfl Tryd.func22 (by kernel_rfl) rfl #[.string t181] rfl (by (try simp only [List.map_toArray, List.map_cons, List.map_nil]); first | done | rfl | (simp only [List.length_drop, List.length_take]; rfl)) ?_; (with_reducible refine (epitomeref01_Fit.calls k t181 t182 _ A6.out).mono ?_); rintro e w27 ⟨rfl, hb⟩; refine ⟨_, rfl, ?_⟩; have n0_ := Aside0.mk (below_step (by repeat (first | (with_reducible first | exact HB.out | apply below_alloc | apply pw_below_drewN | apply below_drew1) | exact HB.out)) hb); clear HB; have HB := n0_; clear n0_; (try clear hb); (try clear hb2); (try clear hk); (try clear hi)) | ((with_reducible refine gate_callee (f := 15) rfl ?_); refine goesL_ (some 18) rfl rfl Tryd.func15 (by kernel_rfl) rfl #[.string a1] rfl (by (try simp only [List.map_toArray, List.map_cons, List.map_nil]); first | done | rfl | (simp only [List.length_drop, List.length_take]; rfl)) ?_; (with_reducible refine (epitomelaw01_few.calls a1 t183 _ A7.out).mono ?_); rintro e w28 ⟨rfl, hb⟩; refine ⟨_, rfl, ?_⟩; have n0_ := Aside0.mk (below_step (by repeat (first | (with_reducible first | exact HB.out | apply below_alloc | apply pw_below_drewN | apply below_drew1) | exact HB.out)) hb); clear HB; have HB := n0_; clear n0_; (try clear hb); (try clear hb2); (try clear hk); (try clear hi)) | ((with_reducible refine gate_callee (f := 22) rfl ?_); refine goesL_ (some 19) rfl rfl Tryd.func22 (by kernel_rfl) rfl #[.string t183] rfl (by (try simp only [List.map_toArray, List.map_cons, List.map_nil]); first | done | rfl | (simp only [List.length_drop, List.length_take]; rfl)) ?_; (with_reducible refine (epitomeref01_Fit.calls k t183 t184 _ A8.out).mono ?_); rintro e w29 ⟨rfl, hb⟩; refine ⟨_, rfl, ?_⟩; have n0_ := Aside0.mk (below_step (by repeat (first | (with_reducible first | exact HB.out | apply below_alloc | apply pw_below_drewN | apply below_drew1) | exact HB.out)) hb); clear HB; have HB := n0_; clear n0_; (try clear hb); (try clear hb2); (try clear hk); (try clear hi)) | ((with_reducible refine gate_dst (N := 23) rfl ?_); refine Kd.R_lit (Kd.int .u8) _ 5 ?hg (N := 23) ?hd (xs := ([Go.bits .or .u8 128 a2] : List Int)) (inner := [.int .u8 (Go.bits .or .u8 128 a2)]) (ok := fun _ => True) (okp := fun _ => True) ?hr ?hp (fun _ hk => hk) trivial (Below.refl _ _) (Nat.le_refl _) (by simp) ?_; (case hd => rfl); (case hg => rfl); (case hr => first | (go_simp; done) | (go_simp; rfl)); (case hp => exact (Reps.one (show Kd.M (Kd.int .u8) _ _ _ (Go.bits .or .u8 128 a2) [.int .u8 (Go.bits .or .u8 128 a2)] from rfl) (Reps.none _ _))); intro v186 w30 ho31 hb hg_ hnew_; clear hg_ hnew_; (first | rw [← Ny185.out] at ho31 | (simp only [Int.reduceToNat] at ho31; rw [← Ny185.out] at ho31)); have n0_ := Aside0.mk (Kd.R_lower ho31 (below_size (by repeat (first | (with_reducible first | exact HB.out | apply below_alloc | apply pw_below_drewN | apply below_drew1) | exact HB.out)))); have n1_ := Aside0.mk (below_step (by repeat (first | (with_reducible first | exact HB.out | apply below_alloc | apply pw_below_drewN | apply below_drew1) | exact HB.out)) hb); clear HB; have HO187 := n0_; have HB := n1_; clear n0_ n1_; clear hb ho31; have hcv32 := own_string (P := Tryd.prog) Tryd.underlying32 Tryd.underlying5 Tryd.underlying9 (Kd.own_of_R HO187.out); have hcv33 := fun (m_ : Nat) => own_string (P := Tryd.prog) Tryd.underlying32 Tryd.underlying5 Tryd.underlying9 (Kd.own_of_R (Kd.R_drewN HO187.out m_))) | ((with_reducible refine gate_callee (f := 16) rfl ?_); refine goesL_ (some 31) rfl rfl Tryd.func16 (by kernel_rfl) rfl #[.string (((t182 ++ (strOfNums y185)) ++ (⟨#[97]⟩ : ByteArray)) ++ t184), .int .i64 0, .int .i64 0] rfl (by (try simp only [List.map_toArray, List.map_cons, List.map_nil]); first | done | rfl | (simp only [List.length_drop, List.length_take]; rfl)) ?_; (with_reducible refine (points_Cut.calls (((t182 ++ (strOfNums y185)) ++ (⟨#[97]⟩ : ByteArray)) ++ t184) 0 0 t188 t189 _ ?side1 A12.out).mono ?_); (case side1 => exact Tabs.below HT.out (by repeat (first | (with_reducible first | exact HB.out | apply below_alloc | apply pw_below_drewN | apply below_drew1) | exact HB.out))); rintro e w34 ⟨rfl, hb⟩; refine ⟨_, rfl, ?_⟩; have n0_ := Aside0.mk (Kd.R_below (by (with_reducible repeat (first | apply Kd.R_alloc | apply Kd.R_drewN | apply Kd.R_drew)); exact HO187.out) hb); have n1_ := Aside0.mk (below_step (by repeat (first | (with_reducible first | exact HB.out | apply below_alloc | apply pw_below_drewN | apply below_drew1) | exact HB.out)) hb); clear HO187; clear HB; have HO187 := n0_; have HB := n1_; clear n0_ n1_; (try clear hb); (try clear hb2); (try clear hk); (try clear hi)) | (go_at_call 18; (with_reducible refine (points_Valid.calls (t182 ++ t184) true _ ?side1 A15.out).mono ?_); (case side1 => exact Tabs.below HT.out (by repeat (first | (with_reducible first | exact HB.out | apply below_alloc | apply pw_below_drewN | apply below_drew1) | exact HB.out))); rintro e w35 ⟨rfl, hb⟩; have n0_ := Aside0.mk (Kd.R_below (by (with_reducible repeat (first | apply Kd.R_alloc | apply Kd.R_drewN | apply Kd.R_drew)); exact HO187.out) hb); have n1_ := Aside0.mk (below_step (by repeat (first | (with_reducible first | exact HB.out | apply below_alloc | apply pw_below_drewN | apply below_drew1) | exact HB.out)) hb); clear HO187; clear HB; have HO187 := n0_; have HB := n1_; clear n0_ n1_; (try clear hb); (try clear hb2); (try clear hk); (try clear hi)) | (go_at_call 20; (with_reducible refine (points_Count.calls (t182 ++ t184) t191 _ ?side1 A17.out).mono ?_); (case side1 => exact Tabs.below HT.out (by repeat (first | (with_reducible first | exact HB.out | apply below_alloc | apply pw_below_drewN | apply below_drew1) | exact HB.out))); rintro e w36 ⟨rfl, hb⟩; have n0_ := Aside0.mk (Kd.R_below (by (with_reducible repeat (first | apply Kd.R_alloc | apply Kd.R_drewN | apply Kd.R_drew)); exact HO187.out) hb); have n1_ := Aside0.mk (below_step (by repeat (first | (with_reducible first | exact HB.out | apply below_alloc | apply pw_below_drewN | apply below_drew1) | exact HB.out)) hb); clear HO187; clear HB; have HO187 := n0_; have HB := n1_; clear n0_ n1_; (try clear hb); (try clear hb2); (try clear hk); (try clear hi)) | (go_at_call 20; (with_reducible refine (points_Count.calls t182 t192 _ ?side1 A18.out).mono ?_); (case side1 => exact Tabs.below HT.out (by repeat (first | (with_reducible first | exact HB.out | apply below_alloc | apply pw_below_drewN | apply below_drew1) | exact HB.out))); rintro e w37 ⟨rfl, hb⟩; have n0_ := Aside0.mk (Kd.R_below (by (with_reducible repeat (first | apply Kd.R_alloc | apply Kd.R_drewN | apply Kd.R_drew)); exact HO187.out) hb); have n1_ := Aside0.mk (below_step (by repeat (first | (with_reducible first | exact HB.out | apply below_alloc | apply pw_below_drewN | apply below_drew1) | exact HB.out)) hb); clear HO187; clear HB; have HO187 := n0_; have HB := n1_; clear n0_ n1_; (try clear hb); (try clear hb2); (try clear hk); (try clear hi)) | (go_at_call 20; (with_reducible refine (points_Count.calls t184 t193 _ ?side1 A19.out).mono ?_); (case side1 => exact Tabs.below HT.out (by repeat (first | (with_reducible first | exact HB.out | apply below_alloc | apply pw_below_drewN | apply below_drew1) | exact HB.out))); rintro e w38 ⟨rfl, hb⟩; have n0_ := Aside0.mk (Kd.R_below (by (with_reducible repeat (first | apply Kd.R_alloc | apply Kd.R_drewN | apply Kd.R_drew)); exact HO187.out) hb); have n1_ := Aside0.mk (below_step (by repeat (first | (with_reducible first | exact HB.out | apply below_alloc | apply pw_below_drewN | apply below_drew1) | exact HB.out)) hb); clear HO187; clear HB; have HO187 := n0_; have HB := n1_; clear n0_ n1_; (try clear hb); (try clear hb2); (try clear hk); (try clear hi)) | (go_at_call 18; (with_reducible refine (points_Valid.calls (((t182 ++ (strOfNums y185)) ++ (⟨#[97]⟩ : ByteArray)) ++ t184) false _ ?side1 A21.out).mono ?_); (case side1 => exact Tabs.below HT.out (by repeat (first | (with_reducible first | exact HB.out | apply below_alloc | apply pw_below_drewN | apply below_drew1) | exact HB.out))); rintro e w39 ⟨rfl, hb⟩; have n0_ := Aside0.mk (Kd.R_below (by (with_reducible repeat (first | apply Kd.R_alloc | apply Kd.R_drewN | apply Kd.R_drew)); exact HO187.out) hb); have n1_ := Aside0.mk (below_step (by repeat (first | (with_reducible first | exact HB.out | apply below_alloc | apply pw_below_drewN | apply below_drew1) | exact HB.out)) hb); clear HO187; clear HB; have HO187 := n0_; have HB := n1_; clear n0_ n1_; (try clear hb); (try clear hb2); (try clear hk); (try clear hi)) | (go_at_call 20; (with_reducible refine (points_Count.calls (((t182 ++ (strOfNums y185)) ++ (⟨#[97]⟩ : ByteArray)) ++ t184) t195 _ ?side1 A23.out).mono ?_); (case side1 => exact Tabs.below HT.out (by repeat (first | (with_reducible first | exact HB.out | apply below_alloc | apply pw_below_drewN | apply below_drew1) | exact HB.out))); rintro e w40 ⟨rfl, hb⟩; have n0_ := Aside0.mk (Kd.R_below (by (with_reducible repeat (first | apply Kd.R_alloc | apply Kd.R_drewN | apply Kd.R_drew)); exact HO187.out) hb); have n1_ := Aside0.mk (below_step (by repeat (first | (with_reducible first | exact HB.out | apply below_alloc | apply pw_below_drewN | apply below_drew1) | exact HB.out)) hb); clear HO187; clear HB; have HO187 := n0_; have HB := n1_; clear n0_ n1_; (try clear hb); (try clear hb2); (try clear hk); (try clear hi)))
                    go_ret
                    exact ⟨by first | rfl | (simp [errW_none, errW_some] <;> rfl) | (simp [*, errW_none, errW_some] <;> rfl), by repeat (first | (with_reducible first | exact HB.out | apply below_alloc | apply pw_below_drewN | apply below_drew1) | exact HB.out)⟩
                  · rw [if_neg c24] at H
                    have c24b0 : (t195 == (-1)) = false := beq_eq_false_iff_ne.mpr c24
                    have c24b1 : (t195 != (-1)) = true := bne_iff_ne.mpr c24
                    obtain rfl := Option.some.inj H
                    exact absurd HLAW.out (by decide)
              · rw [if_neg c20] at H
                have c20b0 : (t191 == (wrap64 (t192 + t193))) = false := beq_eq_false_iff_ne.mpr c20
                have c20b1 : (t191 != (wrap64 (t192 + t193))) = true := bne_iff_ne.mpr c20
                obtain rfl := Option.some.inj H
                exact absurd HLAW.out (by decide)
            · replace c16 := Bool.eq_false_iff.mpr c16
              subst c16
              have H1 : (some false) = some r := by rw [if_neg (show ¬ (false = true) by decide)] at H; exact H
              clear H
              have H := H1
              clear H1
              obtain rfl := Option.some.inj H
              exact absurd HLAW.out (by decide)
          · rw [if_neg c14] at H
            exact absurd H (by simp)
        · replace c13 := Bool.eq_false_iff.mpr c13
          subst c13
          have H1 : (some false) = some r := by rw [if_neg (show ¬ (false = true) by decide)] at H; exact H
          clear H
          have H := H1
          clear H1
          obtain rfl := Option.some.inj H
          exact absurd HLAW.out (by decide)
      · rw [if_neg c11] at H
        exact absurd H (by simp)
    · rw [if_neg c10] at H
      exact absurd H (by simp)
  · rw [if_neg c9] at H
    exact absurd H (by simp)

/-- THE ONE PURE STATEMENT of epitomelaw01_PointsJoin: yours. -/
def epitomelaw01_PointsJoin.Pure : Prop := ∀ (a0 : ByteArray) (a1 : ByteArray) (a2 : Int), a0.size ≤ 140737488351232 → a1.size ≤ 140737488351232 → (Lit.int .u8 a2).wf = true → ∃ k, epitomelaw01_PointsJoin.f k a0 a1 a2 = some true
theorem epitomelaw01_PointsJoin.walk (P : epitomelaw01_PointsJoin.Pure) (a0 : ByteArray) (a1 : ByteArray) (a2 : Int) (w : World) (hT : Tabs w) (w0 : a0.size ≤ 140737488351232) (w1 : a1.size ≤ 140737488351232) (w2 : (Lit.int .u8 a2).wf = true) :
    Calls Tryd.prog 5 #[.string a0, .string a1, .int .u8 a2] w fun e w' => e = .returned (.bool true) ∧ Below w.heap.size w w' := by
  obtain ⟨k, h⟩ := P a0 a1 a2 w0 w1 w2
  refine (epitomelaw01_PointsJoin.calls k a0 a1 a2 true w hT h rfl).mono ?_
  rintro e w' ⟨rfl, hd⟩
  exact ⟨rfl, hd⟩

-- NOT PRINTED: function 6 (epitomelaw01_PointsTwice)

end Go.Proofs.YtolljobehfmffaaDoor.P
