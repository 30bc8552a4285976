-- WRITTEN BY A PROGRAM OF THIS SESSION (wip/pp in its repo), made after the kit's print
import Derived.Test.YtegjegihcebimaaDoorPx0
import Derived.Test.YtegjegihcebimaaDoorPx7
import Derived.Test.YtegjegihcebimaaDoorPx10
import Derived.Test.YtegjegihcebimaaDoorPx11
import Derived.Test.YtegjegihcebimaaDoorPx12
import Derived.Test.YtegjegihcebimaaDoorPx14
import Derived.Test.YtegjegihcebimaaDoorPx17
import Derived.Test.YtegjegihcebimaaDoorPx18
import Derived.Test.YtegjegihcebimaaDoorPx20
namespace Go.Proofs.YtegjegihcebimaaDoor.P
open Go.RowKit Go.Proofs.YtegjegihcebimaaDoorW.PrintWords Go.Proofs.YtegjegihcebimaaDoorW.PrintLast Go.Proofs.YtegjegihcebimaaDoorW.PrintMore
attribute [local go_sem] max2_int min2_int max_two min_two max_three min_three max_four min_four   -- for this text's walks alone
set_option linter.unusedVariables false
set_option linter.unusedSimpArgs false

/-! ### epitometop_TopTie: function 3 -/
def epitometop_TopTie.f (k : Nat) (a0 : ByteArray) (a1 : ByteArray) : Option (Bool) := (epitometop_shown.f k).bind fun t225 => (if 0 ≤ (mn (a0.size : Int) 8) then (if (mn (a0.size : Int) 8) ≤ (a0.size : Int) then (if 1 + (a0.extract 0 ((mn (a0.size : Int) 8) : Int).toNat).size ≤ 9223372036854775807 then ((epitomeref01_Fit.f k ((⟨#[97]⟩ : ByteArray) ++ (a0.extract 0 ((mn (a0.size : Int) 8) : Int).toNat))).bind fun t226 => (if 0 ≤ (mn (a1.size : Int) 8) then (if (mn (a1.size : Int) 8) ≤ (a1.size : Int) then (if 1 + (a1.extract 0 ((mn (a1.size : Int) 8) : Int).toNat).size ≤ 9223372036854775807 then ((epitomeref01_Fit.f k ((⟨#[98]⟩ : ByteArray) ++ (a1.extract 0 ((mn (a1.size : Int) 8) : Int).toNat))).bind fun t227 => ((points_Count.f t226).bind fun t231 => ((some (([(⟨1, 1, (⟨#[]⟩ : ByteArray)⟩ : S25), (⟨2, 0, t227⟩ : S25), (⟨1, 1, (⟨#[]⟩ : ByteArray)⟩ : S25), (⟨1, 1, (⟨#[]⟩ : ByteArray)⟩ : S25)] : List (S25)) : List (S25))).bind fun y233 => ((some (([(([(⟨1, 1, (⟨#[]⟩ : ByteArray)⟩ : S25), (⟨1, 1, (⟨#[]⟩ : ByteArray)⟩ : S25), (⟨2, 0, t226⟩ : S25), (⟨1, 1, (⟨#[]⟩ : ByteArray)⟩ : S25)] : List (S25))), (([(⟨1, 1, (⟨#[]⟩ : ByteArray)⟩ : S25), (⟨3, 1, (⟨#[]⟩ : ByteArray)⟩ : S25), (⟨1, t231, (⟨#[]⟩ : ByteArray)⟩ : S25), (⟨1, 1, (⟨#[]⟩ : ByteArray)⟩ : S25)] : List (S25)))] : List (List (S25))) : List (List (S25)))).bind fun y242 => ((some (([(([(⟨1, 1, (⟨#[]⟩ : ByteArray)⟩ : S25), (⟨3, 1, (⟨#[]⟩ : ByteArray)⟩ : S25), (⟨1, 1, (⟨#[]⟩ : ByteArray)⟩ : S25)] : List (S25))), (([(⟨1, 1, (⟨#[]⟩ : ByteArray)⟩ : S25), (⟨2, 0, t226⟩ : S25), (⟨1, 1, (⟨#[]⟩ : ByteArray)⟩ : S25)] : List (S25)))] : List (List (S25))) : List (List (S25)))).bind fun y251 => ((fuse_Of.f k 3 y242).bind fun bt254 => ((fuse_Of.f k 3 y251).bind fun bt258 => ((through_Of.f k y233 y242).bind fun bt262 => ((through_Of.f k y233 y251).bind fun bt266 => ((over_Of.f k y233 bt254.1).bind fun bt270 => ((over_Of.f k y233 bt258.1).bind fun bt274 => (if 0 < (y242.length : Int) then (if 1 < (y242.length : Int) then ((apply_All.f k (⟨#[97, 98, 99]⟩ : ByteArray) (([rd_L3 y242 0, rd_L3 y242 1, bt262.1] : List (List (S25))))).bind fun bt283 => (if 0 < (y251.length : Int) then (if 1 < (y251.length : Int) then ((apply_All.f k (⟨#[97, 98, 99]⟩ : ByteArray) (([rd_L3 y251 0, rd_L3 y251 1, bt266.1] : List (List (S25))))).bind fun bt290 => (if t225 = true then (if bt254.2 = 0 then (if bt258.2 = 0 then (if bt262.2 = 0 then (if bt266.2 = 0 then (if bt270.2 = 0 then (if bt274.2 = 0 then (if bt283.2 = 0 then (if bt290.2 = 0 then ((epitomeref04_Same.f k bt254.1 bt258.1).bind fun t292 => (if t292 = true then (some false) else ((epitomeref04_Same.f k bt262.1 bt270.1).bind fun t293 => (if t293 = true then ((epitomeref04_Same.f k bt266.1 bt274.1).bind fun t294 => (if t294 = true then (if 1 + t227.size ≤ 9223372036854775807 then (if 1 + t227.size + t226.size ≤ 9223372036854775807 then (if 1 + t227.size + t226.size + 1 ≤ 9223372036854775807 then (if bt283.1.toList = ((((⟨#[97]⟩ : ByteArray) ++ t227) ++ t226) ++ (⟨#[99]⟩ : ByteArray)).toList then (if 1 + t226.size ≤ 9223372036854775807 then (if 1 + t226.size + t227.size ≤ 9223372036854775807 then (if 1 + t226.size + t227.size + 1 ≤ 9223372036854775807 then (some (bt290.1.toList == ((((⟨#[97]⟩ : ByteArray) ++ t226) ++ t227) ++ (⟨#[99]⟩ : ByteArray)).toList)) else (none)) else (none)) else (none)) else (some false)) else (none)) else (none)) else (none)) else (some false))) else (some false))))) else (some false)) else (some false)) else (some false)) else (some false)) else (some false)) else (some false)) else (some false)) else (some false)) else (some false))) else (none)) else (none))) else (none)) else (none))))))))))))) else (none)) else (none)) else (none))) else (none)) else (none)) else (none))
theorem epitometop_TopTie.mono : ∀ a0 a1 k, LeO (epitometop_TopTie.f k a0 a1) (epitometop_TopTie.f (k + 1) a0 a1) := by
 intro a0 a1 k
 unfold epitometop_TopTie.f
 repeat' first
   | (with_reducible exact apply_All.mono _ _ _)
   | (with_reducible exact epitomeref01_Fit.mono _ _)
   | (with_reducible exact epitomeref04_Same.mono _ _ _)
   | (with_reducible exact epitometop_shown.mono _)
   | (with_reducible exact fuse_Of.mono _ _ _)
   | (with_reducible exact over_Of.mono _ _ _)
   | (with_reducible exact through_Of.mono _ _ _)
   | (with_reducible exact LeO.refl _)
   | (with_reducible exact LeO.none _)
   | (with_reducible refine LeO.ite ?_ ?_)
   | (with_reducible refine LeO.bind ?_ (fun _ => ?_))
   | exact apply_All.mono _ _ _
   | exact epitomeref01_Fit.mono _ _
   | exact epitomeref04_Same.mono _ _ _
   | exact epitometop_shown.mono _
   | exact fuse_Of.mono _ _ _
   | exact over_Of.mono _ _ _
   | exact through_Of.mono _ _ _
   | exact LeO.none _
   | refine LeO.ite ?_ ?_
   | refine LeO.bind ?_ (fun _ => ?_)
def epitometop_TopTie.T17 : Bool × List (List Nat × List Nat) := (true, [([], []), ([0], [0]), ([1], [1]), ([], []), ([3], [3]), ([4], [4]), ([], []), ([2, 5, 6], [2, 5, 6]), ([7], [7]), ([8], [8]), ([9], [9]), ([9], [9]), ([10, 8, 0, 1, 2, 3, 4, 5, 6, 7, 8, 9, 10], [10]), ([11, 12, 0, 1, 2, 3, 4, 5, 6, 7, 8, 9, 10, 11, 12], [11])])
def epitometop_TopTie.B17 : List Nat := [0, 1, 3, 0, 8, 24, 0, 127, 255, 511, 1023, 1023, 2047, 8191]
theorem epitometop_TopTie.tab17 : rtab .any (opsOf Tryd.f3 17) = epitometop_TopTie.T17 := by kernel_rfl
theorem epitometop_TopTie.bits17 : waitsOk epitometop_TopTie.T17.2 epitometop_TopTie.B17 = true := by kernel_rfl
def epitometop_TopTie.T18 : Bool × List (List Nat × List Nat) := (true, [([], []), ([0], [0]), ([1], [1]), ([], []), ([3], [3]), ([4], [4]), ([], []), ([2, 5, 6], [2, 5, 6]), ([7], [7]), ([8], [8]), ([9], [9]), ([9], [9]), ([10, 8, 0, 1, 2, 3, 4, 5, 6, 7, 8, 9, 10], [10]), ([11, 12, 0, 1, 2, 3, 4, 5, 6, 7, 8, 9, 10, 11, 12], [11])])
def epitometop_TopTie.B18 : List Nat := [0, 1, 3, 0, 8, 24, 0, 127, 255, 511, 1023, 1023, 2047, 8191]
theorem epitometop_TopTie.tab18 : rtab .any (opsOf Tryd.f3 18) = epitometop_TopTie.T18 := by kernel_rfl
theorem epitometop_TopTie.bits18 : waitsOk epitometop_TopTie.T18.2 epitometop_TopTie.B18 = true := by kernel_rfl
set_option maxHeartbeats 8000000 in
set_option maxRecDepth 100000 in
theorem epitometop_TopTie.calls (k : Nat) (a0 : ByteArray) (a1 : ByteArray) (r : Bool) (w : World) (hT : Tabs w) (h : epitometop_TopTie.f k a0 a1 = some r) (hlaw : r = true) :
  Calls Tryd.prog 3 #[.string a0, .string a1] w fun e w' => e = .returned (.bool r) ∧ Below w.heap.size w w' := by
 have HLAW := Aside0.mk hlaw
 clear hlaw
 have HT := Aside0.mk hT
 clear hT
 have hu25 := Tryd.underlying25
 have HB := Aside0.mk (Below.refl w.heap.size w)
 have H := h
 unfold epitometop_TopTie.f at H
 clear h
 replace H := Option.bind_eq_some_iff.mp H
 obtain ⟨t225, A30, H⟩ := H
 try dsimp only at H
 have A3 := Aside0.mk A30
 clear A30
 obtain ⟨ji4, hji4⟩ : ∃ j_ : Int, (mn (a0.size : Int) 8) = j_ := ⟨_, rfl⟩
 replace H : (if 0 ≤ (ji4) then (if (ji4) ≤ (a0.size : Int) then (if 1 + (a0.extract 0 ((ji4) : Int).toNat).size ≤ 9223372036854775807 then ((epitomeref01_Fit.f k ((⟨#[97]⟩ : ByteArray) ++ (a0.extract 0 ((ji4) : Int).toNat))).bind fun t226 => (if 0 ≤ (mn (a1.size : Int) 8) then (if (mn (a1.size : Int) 8) ≤ (a1.size : Int) then (if 1 + (a1.extract 0 ((mn (a1.size : Int) 8) : Int).toNat).size ≤ 9223372036854775807 then ((epitomeref01_Fit.f k ((⟨#[98]⟩ : ByteArray) ++ (a1.extract 0 ((mn (a1.size : Int) 8) : Int).toNat))).bind fun t227 => ((points_Count.f t226).bind fun t231 => ((some (([(⟨1, 1, (⟨#[]⟩ : ByteArray)⟩ : S25), (⟨2, 0, t227⟩ : S25), (⟨1, 1, (⟨#[]⟩ : ByteArray)⟩ : S25), (⟨1, 1, (⟨#[]⟩ : ByteArray)⟩ : S25)] : List (S25)) : List (S25))).bind fun y233 => ((some (([(([(⟨1, 1, (⟨#[]⟩ : ByteArray)⟩ : S25), (⟨1, 1, (⟨#[]⟩ : ByteArray)⟩ : S25), (⟨2, 0, t226⟩ : S25), (⟨1, 1, (⟨#[]⟩ : ByteArray)⟩ : S25)] : List (S25))), (([(⟨1, 1, (⟨#[]⟩ : ByteArray)⟩ : S25), (⟨3, 1, (⟨#[]⟩ : ByteArray)⟩ : S25), (⟨1, t231, (⟨#[]⟩ : ByteArray)⟩ : S25), (⟨1, 1, (⟨#[]⟩ : ByteArray)⟩ : S25)] : List (S25)))] : List (List (S25))) : List (List (S25)))).bind fun y242 => ((some (([(([(⟨1, 1, (⟨#[]⟩ : ByteArray)⟩ : S25), (⟨3, 1, (⟨#[]⟩ : ByteArray)⟩ : S25), (⟨1, 1, (⟨#[]⟩ : ByteArray)⟩ : S25)] : List (S25))), (([(⟨1, 1, (⟨#[]⟩ : ByteArray)⟩ : S25), (⟨2, 0, t226⟩ : S25), (⟨1, 1, (⟨#[]⟩ : ByteArray)⟩ : S25)] : List (S25)))] : List (List (S25))) : List (List (S25)))).bind fun y251 => ((fuse_Of.f k 3 y242).bind fun bt254 => ((fuse_Of.f k 3 y251).bind fun bt258 => ((through_Of.f k y233 y242).bind fun bt262 => ((through_Of.f k y233 y251).bind fun bt266 => ((over_Of.f k y233 bt254.1).bind fun bt270 => ((over_Of.f k y233 bt258.1).bind fun bt274 => (if 0 < (y242.length : Int) then (if 1 < (y242.length : Int) then ((apply_All.f k (⟨#[97, 98, 99]⟩ : ByteArray) (([rd_L3 y242 0, rd_L3 y242 1, bt262.1] : List (List (S25))))).bind fun bt283 => (if 0 < (y251.length : Int) then (if 1 < (y251.length : Int) then ((apply_All.f k (⟨#[97, 98, 99]⟩ : ByteArray) (([rd_L3 y251 0, rd_L3 y251 1, bt266.1] : List (List (S25))))).bind fun bt290 => (if t225 = true then (if bt254.2 = 0 then (if bt258.2 = 0 then (if bt262.2 = 0 then (if bt266.2 = 0 then (if bt270.2 = 0 then (if bt274.2 = 0 then (if bt283.2 = 0 then (if bt290.2 = 0 then ((epitomeref04_Same.f k bt254.1 bt258.1).bind fun t292 => (if t292 = true then (some false) else ((epitomeref04_Same.f k bt262.1 bt270.1).bind fun t293 => (if t293 = true then ((epitomeref04_Same.f k bt266.1 bt274.1).bind fun t294 => (if t294 = true then (if 1 + t227.size ≤ 9223372036854775807 then (if 1 + t227.size + t226.size ≤ 9223372036854775807 then (if 1 + t227.size + t226.size + 1 ≤ 9223372036854775807 then (if bt283.1.toList = ((((⟨#[97]⟩ : ByteArray) ++ t227) ++ t226) ++ (⟨#[99]⟩ : ByteArray)).toList then (if 1 + t226.size ≤ 9223372036854775807 then (if 1 + t226.size + t227.size ≤ 9223372036854775807 then (if 1 + t226.size + t227.size + 1 ≤ 9223372036854775807 then (some (bt290.1.toList == ((((⟨#[97]⟩ : ByteArray) ++ t226) ++ t227) ++ (⟨#[99]⟩ : ByteArray)).toList)) else (none)) else (none)) else (none)) else (some false)) else (none)) else (none)) else (none)) else (some false))) else (some false))))) else (some false)) else (some false)) else (some false)) else (some false)) else (some false)) else (some false)) else (some false)) else (some false)) else (some false))) else (none)) else (none))) else (none)) else (none))))))))))))) else (none)) else (none)) else (none))) else (none)) else (none)) else (none)) = some r := by first | (rw [hji4] at H; exact H) | (simp only [hji4] at H ⊢; exact H)
 (try rw [hji4] at A3)
 (try (have hji4h : ji4 ≤ 8 := by (rw [← hji4]; unfold mn; (repeat' split) <;> omega)))
 (try (have hji4g : ji4 ≤ 64 := by omega))
 (try (have hji4l : 0 ≤ ji4 := by (rw [← hji4]; unfold mn; (repeat' split) <;> omega)))
 (try (have hji4m : 0 ≤ ji4 := by omega))
 have hji4_ : (if 8 < (a0.size : Int) then 8 else (a0.size : Int)) = ji4 := hji4
 by_cases c5 : 0 ≤ (ji4)
 ·rw [if_pos c5] at H
  have c5b0 := eq_true c5
  have c5b1 : decide (0 ≤ (ji4)) = true := decide_eq_true c5
  clear c5
  by_cases c6 : (ji4) ≤ (a0.size : Int)
  ·rw [if_pos c6] at H
   have c6b0 := eq_true c6
   have c6b1 : decide ((ji4) ≤ (a0.size : Int)) = true := decide_eq_true c6
   clear c6
   by_cases c7 : 1 + (a0.extract 0 ((ji4) : Int).toNat).size ≤ 9223372036854775807
   ·rw [if_pos c7] at H
    have c7b0 := eq_true c7
    have c7b1 : decide (1 + (a0.extract 0 ((ji4) : Int).toNat).size ≤ 9223372036854775807) = true := decide_eq_true c7
    try have c7b2 : (9223372036854775807 < 1 + (a0.extract 0 ((ji4) : Int).toNat).size) = False := eq_false (Nat.not_lt.2 c7)
    replace H := Option.bind_eq_some_iff.mp H
    obtain ⟨t226, A80, H⟩ := H
    try dsimp only at H
    have A8 := Aside0.mk A80
    clear A80
    obtain ⟨ji9, hji9⟩ : ∃ j_ : Int, (mn (a1.size : Int) 8) = j_ := ⟨_, rfl⟩
    replace H : (if 0 ≤ (ji9) then (if (ji9) ≤ (a1.size : Int) then (if 1 + (a1.extract 0 ((ji9) : Int).toNat).size ≤ 9223372036854775807 then ((epitomeref01_Fit.f k ((⟨#[98]⟩ : ByteArray) ++ (a1.extract 0 ((ji9) : Int).toNat))).bind fun t227 => ((points_Count.f t226).bind fun t231 => ((some (([(⟨1, 1, (⟨#[]⟩ : ByteArray)⟩ : S25), (⟨2, 0, t227⟩ : S25), (⟨1, 1, (⟨#[]⟩ : ByteArray)⟩ : S25), (⟨1, 1, (⟨#[]⟩ : ByteArray)⟩ : S25)] : List (S25)) : List (S25))).bind fun y233 => ((some (([(([(⟨1, 1, (⟨#[]⟩ : ByteArray)⟩ : S25), (⟨1, 1, (⟨#[]⟩ : ByteArray)⟩ : S25), (⟨2, 0, t226⟩ : S25), (⟨1, 1, (⟨#[]⟩ : ByteArray)⟩ : S25)] : List (S25))), (([(⟨1, 1, (⟨#[]⟩ : ByteArray)⟩ : S25), (⟨3, 1, (⟨#[]⟩ : ByteArray)⟩ : S25), (⟨1, t231, (⟨#[]⟩ : ByteArray)⟩ : S25), (⟨1, 1, (⟨#[]⟩ : ByteArray)⟩ : S25)] : List (S25)))] : List (List (S25))) : List (List (S25)))).bind fun y242 => ((some (([(([(⟨1, 1, (⟨#[]⟩ : ByteArray)⟩ : S25), (⟨3, 1, (⟨#[]⟩ : ByteArray)⟩ : S25), (⟨1, 1, (⟨#[]⟩ : ByteArray)⟩ : S25)] : List (S25))), (([(⟨1, 1, (⟨#[]⟩ : ByteArray)⟩ : S25), (⟨2, 0, t226⟩ : S25), (⟨1, 1, (⟨#[]⟩ : ByteArray)⟩ : S25)] : List (S25)))] : List (List (S25))) : List (List (S25)))).bind fun y251 => ((fuse_Of.f k 3 y242).bind fun bt254 => ((fuse_Of.f k 3 y251).bind fun bt258 => ((through_Of.f k y233 y242).bind fun bt262 => ((through_Of.f k y233 y251).bind fun bt266 => ((over_Of.f k y233 bt254.1).bind fun bt270 => ((over_Of.f k y233 bt258.1).bind fun bt274 => (if 0 < (y242.length : Int) then (if 1 < (y242.length : Int) then ((apply_All.f k (⟨#[97, 98, 99]⟩ : ByteArray) (([rd_L3 y242 0, rd_L3 y242 1, bt262.1] : List (List (S25))))).bind fun bt283 => (if 0 < (y251.length : Int) then (if 1 < (y251.length : Int) then ((apply_All.f k (⟨#[97, 98, 99]⟩ : ByteArray) (([rd_L3 y251 0, rd_L3 y251 1, bt266.1] : List (List (S25))))).bind fun bt290 => (if t225 = true then (if bt254.2 = 0 then (if bt258.2 = 0 then (if bt262.2 = 0 then (if bt266.2 = 0 then (if bt270.2 = 0 then (if bt274.2 = 0 then (if bt283.2 = 0 then (if bt290.2 = 0 then ((epitomeref04_Same.f k bt254.1 bt258.1).bind fun t292 => (if t292 = true then (some false) else ((epitomeref04_Same.f k bt262.1 bt270.1).bind fun t293 => (if t293 = true then ((epitomeref04_Same.f k bt266.1 bt274.1).bind fun t294 => (if t294 = true then (if 1 + t227.size ≤ 9223372036854775807 then (if 1 + t227.size + t226.size ≤ 9223372036854775807 then (if 1 + t227.size + t226.size + 1 ≤ 9223372036854775807 then (if bt283.1.toList = ((((⟨#[97]⟩ : ByteArray) ++ t227) ++ t226) ++ (⟨#[99]⟩ : ByteArray)).toList then (if 1 + t226.size ≤ 9223372036854775807 then (if 1 + t226.size + t227.size ≤ 9223372036854775807 then (if 1 + t226.size + t227.size + 1 ≤ 9223372036854775807 then (some (bt290.1.toList == ((((⟨#[97]⟩ : ByteArray) ++ t226) ++ t227) ++ (⟨#[99]⟩ : ByteArray)).toList)) else (none)) else (none)) else (none)) else (some false)) else (none)) else (none)) else (none)) else (some false))) else (some false))))) else (some false)) else (some false)) else (some false)) else (some false)) else (some false)) else (some false)) else (some false)) else (some false)) else (some false))) else (none)) else (none))) else (none)) else (none))))))))))))) else (none)) else (none)) else (none)) = some r := by first | (rw [hji9] at H; exact H) | (simp only [hji9] at H ⊢; exact H)
    (try rw [hji9] at A3)
    (try rw [hji9] at A8)
    (try (have hji9h : ji9 ≤ 8 := by (rw [← hji9]; unfold mn; (repeat' split) <;> omega)))
    (try (have hji9g : ji9 ≤ 64 := by omega))
    (try (have hji9l : 0 ≤ ji9 := by (rw [← hji9]; unfold mn; (repeat' split) <;> omega)))
    (try (have hji9m : 0 ≤ ji9 := by omega))
    have hji9_ : (if 8 < (a1.size : Int) then 8 else (a1.size : Int)) = ji9 := hji9
    by_cases c10 : 0 ≤ (ji9)
    ·rw [if_pos c10] at H
     have c10b0 := eq_true c10
     have c10b1 : decide (0 ≤ (ji9)) = true := decide_eq_true c10
     clear c10
     by_cases c11 : (ji9) ≤ (a1.size : Int)
     ·rw [if_pos c11] at H
      have c11b0 := eq_true c11
      have c11b1 : decide ((ji9) ≤ (a1.size : Int)) = true := decide_eq_true c11
      clear c11
      by_cases c12 : 1 + (a1.extract 0 ((ji9) : Int).toNat).size ≤ 9223372036854775807
      ·rw [if_pos c12] at H
       have c12b0 := eq_true c12
       have c12b1 : decide (1 + (a1.extract 0 ((ji9) : Int).toNat).size ≤ 9223372036854775807) = true := decide_eq_true c12
       try have c12b2 : (9223372036854775807 < 1 + (a1.extract 0 ((ji9) : Int).toNat).size) = False := eq_false (Nat.not_lt.2 c12)
       replace H := Option.bind_eq_some_iff.mp H
       obtain ⟨t227, A130, H⟩ := H
       try dsimp only at H
       have A13 := Aside0.mk A130
       clear A130
       replace H := Option.bind_eq_some_iff.mp H
       obtain ⟨t231, A140, H⟩ := H
       try dsimp only at H
       have A14 := Aside0.mk A140
       clear A140
       obtain ⟨y233, hy233, H⟩ := bind_y H
       try dsimp only at H
       have Ny233 := Aside0.mk hy233
       clear hy233
       obtain ⟨y236, hy236⟩ : ∃ y_ : List (S25), y_ = (([(⟨1, 1, (⟨#[]⟩ : ByteArray)⟩ : S25), (⟨1, 1, (⟨#[]⟩ : ByteArray)⟩ : S25), (⟨2, 0, t226⟩ : S25), (⟨1, 1, (⟨#[]⟩ : ByteArray)⟩ : S25)] : List (S25))) := ⟨_, rfl⟩
       replace H : ((some (([y236, (([(⟨1, 1, (⟨#[]⟩ : ByteArray)⟩ : S25), (⟨3, 1, (⟨#[]⟩ : ByteArray)⟩ : S25), (⟨1, t231, (⟨#[]⟩ : ByteArray)⟩ : S25), (⟨1, 1, (⟨#[]⟩ : ByteArray)⟩ : S25)] : List (S25)))] : List (List (S25))) : List (List (S25)))).bind fun y242 => ((some (([(([(⟨1, 1, (⟨#[]⟩ : ByteArray)⟩ : S25), (⟨3, 1, (⟨#[]⟩ : ByteArray)⟩ : S25), (⟨1, 1, (⟨#[]⟩ : ByteArray)⟩ : S25)] : List (S25))), (([(⟨1, 1, (⟨#[]⟩ : ByteArray)⟩ : S25), (⟨2, 0, t226⟩ : S25), (⟨1, 1, (⟨#[]⟩ : ByteArray)⟩ : S25)] : List (S25)))] : List (List (S25))) : List (List (S25)))).bind fun y251 => ((fuse_Of.f k 3 y242).bind fun bt254 => ((fuse_Of.f k 3 y251).bind fun bt258 => ((through_Of.f k y233 y242).bind fun bt262 => ((through_Of.f k y233 y251).bind fun bt266 => ((over_Of.f k y233 bt254.1).bind fun bt270 => ((over_Of.f k y233 bt258.1).bind fun bt274 => (if 0 < (y242.length : Int) then (if 1 < (y242.length : Int) then ((apply_All.f k (⟨#[97, 98, 99]⟩ : ByteArray) (([rd_L3 y242 0, rd_L3 y242 1, bt262.1] : List (List (S25))))).bind fun bt283 => (if 0 < (y251.length : Int) then (if 1 < (y251.length : Int) then ((apply_All.f k (⟨#[97, 98, 99]⟩ : ByteArray) (([rd_L3 y251 0, rd_L3 y251 1, bt266.1] : List (List (S25))))).bind fun bt290 => (if t225 = true then (if bt254.2 = 0 then (if bt258.2 = 0 then (if bt262.2 = 0 then (if bt266.2 = 0 then (if bt270.2 = 0 then (if bt274.2 = 0 then (if bt283.2 = 0 then (if bt290.2 = 0 then ((epitomeref04_Same.f k bt254.1 bt258.1).bind fun t292 => (if t292 = true then (some false) else ((epitomeref04_Same.f k bt262.1 bt270.1).bind fun t293 => (if t293 = true then ((epitomeref04_Same.f k bt266.1 bt274.1).bind fun t294 => (if t294 = true then (if 1 + t227.size ≤ 9223372036854775807 then (if 1 + t227.size + t226.size ≤ 9223372036854775807 then (if 1 + t227.size + t226.size + 1 ≤ 9223372036854775807 then (if bt283.1.toList = ((((⟨#[97]⟩ : ByteArray) ++ t227) ++ t226) ++ (⟨#[99]⟩ : ByteArray)).toList then (if 1 + t226.size ≤ 9223372036854775807 then (if 1 + t226.size + t227.size ≤ 9223372036854775807 then (if 1 + t226.size + t227.size + 1 ≤ 9223372036854775807 then (some (bt290.1.toList == ((((⟨#[97]⟩ : ByteArray) ++ t226) ++ t227) ++ (⟨#[99]⟩ : ByteArray)).toList)) else (none)) else (none)) else (none)) else (some false)) else (none)) else (none)) else (none)) else (some false))) else (some false))))) else (some false)) else (some false)) else (some false)) else (some false)) else (some false)) else (some false)) else (some false)) else (some false)) else (some false))) else (none)) else (none))) else (none)) else (none)))))))))) = some r := by first | (rw [hy236]; with_reducible exact H) | (have H2_ := (Option.bind_some _ _).symm.trans H; rw [hy236]; with_reducible exact H2_) | (have H2_ := (Option.bind_some _ _).symm.trans H; with_reducible exact H2_) | with_reducible exact H | (rw [hy236]; exact H) | exact H
       have Ny236 := Aside0.mk hy236
       clear hy236
       obtain ⟨y239, hy239⟩ : ∃ y_ : List (S25), y_ = (([(⟨1, 1, (⟨#[]⟩ : ByteArray)⟩ : S25), (⟨3, 1, (⟨#[]⟩ : ByteArray)⟩ : S25), (⟨1, t231, (⟨#[]⟩ : ByteArray)⟩ : S25), (⟨1, 1, (⟨#[]⟩ : ByteArray)⟩ : S25)] : List (S25))) := ⟨_, rfl⟩
       replace H : ((some (([y236, y239] : List (List (S25))) : List (List (S25)))).bind fun y242 => ((some (([(([(⟨1, 1, (⟨#[]⟩ : ByteArray)⟩ : S25), (⟨3, 1, (⟨#[]⟩ : ByteArray)⟩ : S25), (⟨1, 1, (⟨#[]⟩ : ByteArray)⟩ : S25)] : List (S25))), (([(⟨1, 1, (⟨#[]⟩ : ByteArray)⟩ : S25), (⟨2, 0, t226⟩ : S25), (⟨1, 1, (⟨#[]⟩ : ByteArray)⟩ : S25)] : List (S25)))] : List (List (S25))) : List (List (S25)))).bind fun y251 => ((fuse_Of.f k 3 y242).bind fun bt254 => ((fuse_Of.f k 3 y251).bind fun bt258 => ((through_Of.f k y233 y242).bind fun bt262 => ((through_Of.f k y233 y251).bind fun bt266 => ((over_Of.f k y233 bt254.1).bind fun bt270 => ((over_Of.f k y233 bt258.1).bind fun bt274 => (if 0 < (y242.length : Int) then (if 1 < (y242.length : Int) then ((apply_All.f k (⟨#[97, 98, 99]⟩ : ByteArray) (([rd_L3 y242 0, rd_L3 y242 1, bt262.1] : List (List (S25))))).bind fun bt283 => (if 0 < (y251.length : Int) then (if 1 < (y251.length : Int) then ((apply_All.f k (⟨#[97, 98, 99]⟩ : ByteArray) (([rd_L3 y251 0, rd_L3 y251 1, bt266.1] : List (List (S25))))).bind fun bt290 => (if t225 = true then (if bt254.2 = 0 then (if bt258.2 = 0 then (if bt262.2 = 0 then (if bt266.2 = 0 then (if bt270.2 = 0 then (if bt274.2 = 0 then (if bt283.2 = 0 then (if bt290.2 = 0 then ((epitomeref04_Same.f k bt254.1 bt258.1).bind fun t292 => (if t292 = true then (some false) else ((epitomeref04_Same.f k bt262.1 bt270.1).bind fun t293 => (if t293 = true then ((epitomeref04_Same.f k bt266.1 bt274.1).bind fun t294 => (if t294 = true then (if 1 + t227.size ≤ 9223372036854775807 then (if 1 + t227.size + t226.size ≤ 9223372036854775807 then (if 1 + t227.size + t226.size + 1 ≤ 9223372036854775807 then (if bt283.1.toList = ((((⟨#[97]⟩ : ByteArray) ++ t227) ++ t226) ++ (⟨#[99]⟩ : ByteArray)).toList then (if 1 + t226.size ≤ 9223372036854775807 then (if 1 + t226.size + t227.size ≤ 9223372036854775807 then (if 1 + t226.size + t227.size + 1 ≤ 9223372036854775807 then (some (bt290.1.toList == ((((⟨#[97]⟩ : ByteArray) ++ t226) ++ t227) ++ (⟨#[99]⟩ : ByteArray)).toList)) else (none)) else (none)) else (none)) else (some false)) else (none)) else (none)) else (none)) else (some false))) else (some false))))) else (some false)) else (some false)) else (some false)) else (some false)) else (some false)) else (some false)) else (some false)) else (some false)) else (some false))) else (none)) else (none))) else (none)) else (none)))))))))) = some r := by first | (rw [hy239]; with_reducible exact H) | (have H2_ := (Option.bind_some _ _).symm.trans H; rw [hy239]; with_reducible exact H2_) | (have H2_ := (Option.bind_some _ _).symm.trans H; with_reducible exact H2_) | with_reducible exact H | (rw [hy239]; exact H) | exact H
       have Ny239 := Aside0.mk hy239
       clear hy239
       obtain ⟨y242, hy242, H⟩ := bind_y H
       try dsimp only at H
       have Ny242 := Aside0.mk hy242
       clear hy242
       obtain ⟨y245, hy245⟩ : ∃ y_ : List (S25), y_ = (([(⟨1, 1, (⟨#[]⟩ : ByteArray)⟩ : S25), (⟨3, 1, (⟨#[]⟩ : ByteArray)⟩ : S25), (⟨1, 1, (⟨#[]⟩ : ByteArray)⟩ : S25)] : List (S25))) := ⟨_, rfl⟩
       replace H : ((some (([y245, (([(⟨1, 1, (⟨#[]⟩ : ByteArray)⟩ : S25), (⟨2, 0, t226⟩ : S25), (⟨1, 1, (⟨#[]⟩ : ByteArray)⟩ : S25)] : List (S25)))] : List (List (S25))) : List (List (S25)))).bind fun y251 => ((fuse_Of.f k 3 y242).bind fun bt254 => ((fuse_Of.f k 3 y251).bind fun bt258 => ((through_Of.f k y233 y242).bind fun bt262 => ((through_Of.f k y233 y251).bind fun bt266 => ((over_Of.f k y233 bt254.1).bind fun bt270 => ((over_Of.f k y233 bt258.1).bind fun bt274 => (if 0 < (y242.length : Int) then (if 1 < (y242.length : Int) then ((apply_All.f k (⟨#[97, 98, 99]⟩ : ByteArray) (([rd_L3 y242 0, rd_L3 y242 1, bt262.1] : List (List (S25))))).bind fun bt283 => (if 0 < (y251.length : Int) then (if 1 < (y251.length : Int) then ((apply_All.f k (⟨#[97, 98, 99]⟩ : ByteArray) (([rd_L3 y251 0, rd_L3 y251 1, bt266.1] : List (List (S25))))).bind fun bt290 => (if t225 = true then (if bt254.2 = 0 then (if bt258.2 = 0 then (if bt262.2 = 0 then (if bt266.2 = 0 then (if bt270.2 = 0 then (if bt274.2 = 0 then (if bt283.2 = 0 then (if bt290.2 = 0 then ((epitomeref04_Same.f k bt254.1 bt258.1).bind fun t292 => (if t292 = true then (some false) else ((epitomeref04_Same.f k bt262.1 bt270.1).bind fun t293 => (if t293 = true then ((epitomeref04_Same.f k bt266.1 bt274.1).bind fun t294 => (if t294 = true then (if 1 + t227.size ≤ 9223372036854775807 then (if 1 + t227.size + t226.size ≤ 9223372036854775807 then (if 1 + t227.size + t226.size + 1 ≤ 9223372036854775807 then (if bt283.1.toList = ((((⟨#[97]⟩ : ByteArray) ++ t227) ++ t226) ++ (⟨#[99]⟩ : ByteArray)).toList then (if 1 + t226.size ≤ 9223372036854775807 then (if 1 + t226.size + t227.size ≤ 9223372036854775807 then (if 1 + t226.size + t227.size + 1 ≤ 9223372036854775807 then (some (bt290.1.toList == ((((⟨#[97]⟩ : ByteArray) ++ t226) ++ t227) ++ (⟨#[99]⟩ : ByteArray)).toList)) else (none)) else (none)) else (none)) else (some false)) else (none)) else (none)) else (none)) else (some false))) else (some false))))) else (some false)) else (some false)) else (some false)) else (some false)) else (some false)) else (some false)) else (some false)) else (some false)) else (some false))) else (none)) else (none))) else (none)) else (none))))))))) = some r := by first | (rw [hy245]; with_reducible exact H) | (have H2_ := (Option.bind_some _ _).symm.trans H; rw [hy245]; with_reducible exact H2_) | (have H2_ := (Option.bind_some _ _).symm.trans H; with_reducible exact H2_) | with_reducible exact H | (rw [hy245]; exact H) | exact H
       have Ny245 := Aside0.mk hy245
       clear hy245
       obtain ⟨y248, hy248⟩ : ∃ y_ : List (S25), y_ = (([(⟨1, 1, (⟨#[]⟩ : ByteArray)⟩ : S25), (⟨2, 0, t226⟩ : S25), (⟨1, 1, (⟨#[]⟩ : ByteArray)⟩ : S25)] : List (S25))) := ⟨_, rfl⟩
       replace H : ((some (([y245, y248] : List (List (S25))) : List (List (S25)))).bind fun y251 => ((fuse_Of.f k 3 y242).bind fun bt254 => ((fuse_Of.f k 3 y251).bind fun bt258 => ((through_Of.f k y233 y242).bind fun bt262 => ((through_Of.f k y233 y251).bind fun bt266 => ((over_Of.f k y233 bt254.1).bind fun bt270 => ((over_Of.f k y233 bt258.1).bind fun bt274 => (if 0 < (y242.length : Int) then (if 1 < (y242.length : Int) then ((apply_All.f k (⟨#[97, 98, 99]⟩ : ByteArray) (([rd_L3 y242 0, rd_L3 y242 1, bt262.1] : List (List (S25))))).bind fun bt283 => (if 0 < (y251.length : Int) then (if 1 < (y251.length : Int) then ((apply_All.f k (⟨#[97, 98, 99]⟩ : ByteArray) (([rd_L3 y251 0, rd_L3 y251 1, bt266.1] : List (List (S25))))).bind fun bt290 => (if t225 = true then (if bt254.2 = 0 then (if bt258.2 = 0 then (if bt262.2 = 0 then (if bt266.2 = 0 then (if bt270.2 = 0 then (if bt274.2 = 0 then (if bt283.2 = 0 then (if bt290.2 = 0 then ((epitomeref04_Same.f k bt254.1 bt258.1).bind fun t292 => (if t292 = true then (some false) else ((epitomeref04_Same.f k bt262.1 bt270.1).bind fun t293 => (if t293 = true then ((epitomeref04_Same.f k bt266.1 bt274.1).bind fun t294 => (if t294 = true then (if 1 + t227.size ≤ 9223372036854775807 then (if 1 + t227.size + t226.size ≤ 9223372036854775807 then (if 1 + t227.size + t226.size + 1 ≤ 9223372036854775807 then (if bt283.1.toList = ((((⟨#[97]⟩ : ByteArray) ++ t227) ++ t226) ++ (⟨#[99]⟩ : ByteArray)).toList then (if 1 + t226.size ≤ 9223372036854775807 then (if 1 + t226.size + t227.size ≤ 9223372036854775807 then (if 1 + t226.size + t227.size + 1 ≤ 9223372036854775807 then (some (bt290.1.toList == ((((⟨#[97]⟩ : ByteArray) ++ t226) ++ t227) ++ (⟨#[99]⟩ : ByteArray)).toList)) else (none)) else (none)) else (none)) else (some false)) else (none)) else (none)) else (none)) else (some false))) else (some false))))) else (some false)) else (some false)) else (some false)) else (some false)) else (some false)) else (some false)) else (some false)) else (some false)) else (some false))) else (none)) else (none))) else (none)) else (none))))))))) = some r := by first | (rw [hy248]; with_reducible exact H) | (have H2_ := (Option.bind_some _ _).symm.trans H; rw [hy248]; with_reducible exact H2_) | (have H2_ := (Option.bind_some _ _).symm.trans H; with_reducible exact H2_) | with_reducible exact H | (rw [hy248]; exact H) | exact H
       have Ny248 := Aside0.mk hy248
       clear hy248
       obtain ⟨y251, hy251, H⟩ := bind_y H
       try dsimp only at H
       have Ny251 := Aside0.mk hy251
       clear hy251
       replace H := Option.bind_eq_some_iff.mp H
       obtain ⟨⟨t254, t255⟩, A150, H⟩ := H
       try dsimp only at H
       have A15 := Aside0.mk A150
       clear A150
       replace H := Option.bind_eq_some_iff.mp H
       obtain ⟨⟨t258, t259⟩, A160, H⟩ := H
       try dsimp only at H
       have A16 := Aside0.mk A160
       clear A160
       replace H := Option.bind_eq_some_iff.mp H
       obtain ⟨⟨t262, t263⟩, A170, H⟩ := H
       try dsimp only at H
       have A17 := Aside0.mk A170
       clear A170
       replace H := Option.bind_eq_some_iff.mp H
       obtain ⟨⟨t266, t267⟩, A180, H⟩ := H
       try dsimp only at H
       have A18 := Aside0.mk A180
       clear A180
       replace H := Option.bind_eq_some_iff.mp H
       obtain ⟨⟨t270, t271⟩, A190, H⟩ := H
       try dsimp only at H
       have A19 := Aside0.mk A190
       clear A190
       replace H := Option.bind_eq_some_iff.mp H
       obtain ⟨⟨t274, t275⟩, A200, H⟩ := H
       try dsimp only at H
       have A20 := Aside0.mk A200
       clear A200
       by_cases c21 : 0 < (y242.length : Int)
       ·rw [if_pos c21] at H
        have c21b0 : decide (0 < (y242.length : Int)) = true := decide_eq_true c21
        have c21b1 : decide (0 < y242.length) = true := decide_eq_true (by omega)
        clear c21
        by_cases c22 : 1 < (y242.length : Int)
        ·rw [if_pos c22] at H
         have c22b0 : decide (1 < (y242.length : Int)) = true := decide_eq_true c22
         have c22b1 : decide (1 < y242.length) = true := decide_eq_true (by omega)
         clear c22
         obtain ⟨y280, hy280⟩ : ∃ y_ : List (List (S25)), y_ = (([rd_L3 y242 0, rd_L3 y242 1, t262] : List (List (S25)))) := ⟨_, rfl⟩
         replace H : ((apply_All.f k (⟨#[97, 98, 99]⟩ : ByteArray) y280).bind fun bt283 => (if 0 < (y251.length : Int) then (if 1 < (y251.length : Int) then ((apply_All.f k (⟨#[97, 98, 99]⟩ : ByteArray) (([rd_L3 y251 0, rd_L3 y251 1, t266] : List (List (S25))))).bind fun bt290 => (if t225 = true then (if t255 = 0 then (if t259 = 0 then (if t263 = 0 then (if t267 = 0 then (if t271 = 0 then (if t275 = 0 then (if bt283.2 = 0 then (if bt290.2 = 0 then ((epitomeref04_Same.f k t254 t258).bind fun t292 => (if t292 = true then (some false) else ((epitomeref04_Same.f k t262 t270).bind fun t293 => (if t293 = true then ((epitomeref04_Same.f k t266 t274).bind fun t294 => (if t294 = true then (if 1 + t227.size ≤ 9223372036854775807 then (if 1 + t227.size + t226.size ≤ 9223372036854775807 then (if 1 + t227.size + t226.size + 1 ≤ 9223372036854775807 then (if bt283.1.toList = ((((⟨#[97]⟩ : ByteArray) ++ t227) ++ t226) ++ (⟨#[99]⟩ : ByteArray)).toList then (if 1 + t226.size ≤ 9223372036854775807 then (if 1 + t226.size + t227.size ≤ 9223372036854775807 then (if 1 + t226.size + t227.size + 1 ≤ 9223372036854775807 then (some (bt290.1.toList == ((((⟨#[97]⟩ : ByteArray) ++ t226) ++ t227) ++ (⟨#[99]⟩ : ByteArray)).toList)) else (none)) else (none)) else (none)) else (some false)) else (none)) else (none)) else (none)) else (some false))) else (some false))))) else (some false)) else (some false)) else (some false)) else (some false)) else (some false)) else (some false)) else (some false)) else (some false)) else (some false))) else (none)) else (none))) = some r := by first | (rw [hy280]; with_reducible exact H) | (have H2_ := (Option.bind_some _ _).symm.trans H; rw [hy280]; with_reducible exact H2_) | (have H2_ := (Option.bind_some _ _).symm.trans H; with_reducible exact H2_) | with_reducible exact H | (rw [hy280]; exact H) | exact H
         have Ny280 := Aside0.mk hy280
         clear hy280
         replace H := Option.bind_eq_some_iff.mp H
         obtain ⟨⟨t283, t284⟩, A230, H⟩ := H
         try dsimp only at H
         have A23 := Aside0.mk A230
         clear A230
         by_cases c24 : 0 < (y251.length : Int)
         ·rw [if_pos c24] at H
          have c24b0 : decide (0 < (y251.length : Int)) = true := decide_eq_true c24
          have c24b1 : decide (0 < y251.length) = true := decide_eq_true (by omega)
          clear c24
          by_cases c25 : 1 < (y251.length : Int)
          ·rw [if_pos c25] at H
           have c25b0 : decide (1 < (y251.length : Int)) = true := decide_eq_true c25
           have c25b1 : decide (1 < y251.length) = true := decide_eq_true (by omega)
           clear c25
           obtain ⟨y287, hy287⟩ : ∃ y_ : List (List (S25)), y_ = (([rd_L3 y251 0, rd_L3 y251 1, t266] : List (List (S25)))) := ⟨_, rfl⟩
           replace H : ((apply_All.f k (⟨#[97, 98, 99]⟩ : ByteArray) y287).bind fun bt290 => (if t225 = true then (if t255 = 0 then (if t259 = 0 then (if t263 = 0 then (if t267 = 0 then (if t271 = 0 then (if t275 = 0 then (if t284 = 0 then (if bt290.2 = 0 then ((epitomeref04_Same.f k t254 t258).bind fun t292 => (if t292 = true then (some false) else ((epitomeref04_Same.f k t262 t270).bind fun t293 => (if t293 = true then ((epitomeref04_Same.f k t266 t274).bind fun t294 => (if t294 = true then (if 1 + t227.size ≤ 9223372036854775807 then (if 1 + t227.size + t226.size ≤ 9223372036854775807 then (if 1 + t227.size + t226.size + 1 ≤ 9223372036854775807 then (if t283.toList = ((((⟨#[97]⟩ : ByteArray) ++ t227) ++ t226) ++ (⟨#[99]⟩ : ByteArray)).toList then (if 1 + t226.size ≤ 9223372036854775807 then (if 1 + t226.size + t227.size ≤ 9223372036854775807 then (if 1 + t226.size + t227.size + 1 ≤ 9223372036854775807 then (some (bt290.1.toList == ((((⟨#[97]⟩ : ByteArray) ++ t226) ++ t227) ++ (⟨#[99]⟩ : ByteArray)).toList)) else (none)) else (none)) else (none)) else (some false)) else (none)) else (none)) else (none)) else (some false))) else (some false))))) else (some false)) else (some false)) else (some false)) else (some false)) else (some false)) else (some false)) else (some false)) else (some false)) else (some false))) = some r := by first | (rw [hy287]; with_reducible exact H) | (have H2_ := (Option.bind_some _ _).symm.trans H; rw [hy287]; with_reducible exact H2_) | (have H2_ := (Option.bind_some _ _).symm.trans H; with_reducible exact H2_) | with_reducible exact H | (rw [hy287]; exact H) | exact H
           have Ny287 := Aside0.mk hy287
           clear hy287
           replace H := Option.bind_eq_some_iff.mp H
           obtain ⟨⟨t290, t291⟩, A260, H⟩ := H
           try dsimp only at H
           have A26 := Aside0.mk A260
           clear A260
           by_cases c27 : t225 = true
           ·subst c27
            have H1 : (if t255 = 0 then (if t259 = 0 then (if t263 = 0 then (if t267 = 0 then (if t271 = 0 then (if t275 = 0 then (if t284 = 0 then (if t291 = 0 then ((epitomeref04_Same.f k t254 t258).bind fun t292 => (if t292 = true then (some false) else ((epitomeref04_Same.f k t262 t270).bind fun t293 => (if t293 = true then ((epitomeref04_Same.f k t266 t274).bind fun t294 => (if t294 = true then (if 1 + t227.size ≤ 9223372036854775807 then (if 1 + t227.size + t226.size ≤ 9223372036854775807 then (if 1 + t227.size + t226.size + 1 ≤ 9223372036854775807 then (if t283.toList = ((((⟨#[97]⟩ : ByteArray) ++ t227) ++ t226) ++ (⟨#[99]⟩ : ByteArray)).toList then (if 1 + t226.size ≤ 9223372036854775807 then (if 1 + t226.size + t227.size ≤ 9223372036854775807 then (if 1 + t226.size + t227.size + 1 ≤ 9223372036854775807 then (some (t290.toList == ((((⟨#[97]⟩ : ByteArray) ++ t226) ++ t227) ++ (⟨#[99]⟩ : ByteArray)).toList)) else (none)) else (none)) else (none)) else (some false)) else (none)) else (none)) else (none)) else (some false))) else (some false))))) else (some false)) else (some false)) else (some false)) else (some false)) else (some false)) else (some false)) else (some false)) else (some false)) = some r := by rw [if_pos rfl] at H; exact H
            clear H
            have H := H1
            clear H1
            by_cases c28 : t255 = 0
            ·rw [if_pos c28] at H
             have c28b0 : (t255 == 0) = true := beq_iff_eq.mpr c28
             have c28b1 : (t255 != 0) = false := bne_eq_false_iff_eq.mpr c28
             clear c28
             by_cases c29 : t259 = 0
             ·rw [if_pos c29] at H
              have c29b0 : (t259 == 0) = true := beq_iff_eq.mpr c29
              have c29b1 : (t259 != 0) = false := bne_eq_false_iff_eq.mpr c29
              clear c29
              by_cases c30 : t263 = 0
              ·rw [if_pos c30] at H
               have c30b0 : (t263 == 0) = true := beq_iff_eq.mpr c30
               have c30b1 : (t263 != 0) = false := bne_eq_false_iff_eq.mpr c30
               clear c30
               by_cases c31 : t267 = 0
               ·rw [if_pos c31] at H
                have c31b0 : (t267 == 0) = true := beq_iff_eq.mpr c31
                have c31b1 : (t267 != 0) = false := bne_eq_false_iff_eq.mpr c31
                clear c31
                by_cases c32 : t271 = 0
                ·rw [if_pos c32] at H
                 have c32b0 : (t271 == 0) = true := beq_iff_eq.mpr c32
                 have c32b1 : (t271 != 0) = false := bne_eq_false_iff_eq.mpr c32
                 clear c32
                 by_cases c33 : t275 = 0
                 ·rw [if_pos c33] at H
                  have c33b0 : (t275 == 0) = true := beq_iff_eq.mpr c33
                  have c33b1 : (t275 != 0) = false := bne_eq_false_iff_eq.mpr c33
                  clear c33
                  by_cases c34 : t284 = 0
                  ·rw [if_pos c34] at H
                   have c34b0 : (t284 == 0) = true := beq_iff_eq.mpr c34
                   have c34b1 : (t284 != 0) = false := bne_eq_false_iff_eq.mpr c34
                   clear c34
                   by_cases c35 : t291 = 0
                   ·rw [if_pos c35] at H
                    have c35b0 : (t291 == 0) = true := beq_iff_eq.mpr c35
                    have c35b1 : (t291 != 0) = false := bne_eq_false_iff_eq.mpr c35
                    clear c35
                    replace H := Option.bind_eq_some_iff.mp H
                    obtain ⟨t292, A360, H⟩ := H
                    try dsimp only at H
                    have A36 := Aside0.mk A360
                    clear A360
                    by_cases c37 : t292 = true
                    ·subst c37
                     have H1 : (some false) = some r := by rw [if_pos rfl] at H; exact H
                     clear H
                     have H := H1
                     clear H1
                     obtain rfl := Option.some.inj H
                     exact absurd HLAW.out (by decide)
                    ·replace c37 := Bool.eq_false_iff.mpr c37
                     subst c37
                     have H1 : ((epitomeref04_Same.f k t262 t270).bind fun t293 => (if t293 = true then ((epitomeref04_Same.f k t266 t274).bind fun t294 => (if t294 = true then (if 1 + t227.size ≤ 9223372036854775807 then (if 1 + t227.size + t226.size ≤ 9223372036854775807 then (if 1 + t227.size + t226.size + 1 ≤ 9223372036854775807 then (if t283.toList = ((((⟨#[97]⟩ : ByteArray) ++ t227) ++ t226) ++ (⟨#[99]⟩ : ByteArray)).toList then (if 1 + t226.size ≤ 9223372036854775807 then (if 1 + t226.size + t227.size ≤ 9223372036854775807 then (if 1 + t226.size + t227.size + 1 ≤ 9223372036854775807 then (some (t290.toList == ((((⟨#[97]⟩ : ByteArray) ++ t226) ++ t227) ++ (⟨#[99]⟩ : ByteArray)).toList)) else (none)) else (none)) else (none)) else (some false)) else (none)) else (none)) else (none)) else (some false))) else (some false))) = some r := by rw [if_neg (show ¬ (false = true) by decide)] at H; exact H
                     clear H
                     have H := H1
                     clear H1
                     replace H := Option.bind_eq_some_iff.mp H
                     obtain ⟨t293, A380, H⟩ := H
                     try dsimp only at H
                     have A38 := Aside0.mk A380
                     clear A380
                     by_cases c39 : t293 = true
                     ·subst c39
                      have H1 : ((epitomeref04_Same.f k t266 t274).bind fun t294 => (if t294 = true then (if 1 + t227.size ≤ 9223372036854775807 then (if 1 + t227.size + t226.size ≤ 9223372036854775807 then (if 1 + t227.size + t226.size + 1 ≤ 9223372036854775807 then (if t283.toList = ((((⟨#[97]⟩ : ByteArray) ++ t227) ++ t226) ++ (⟨#[99]⟩ : ByteArray)).toList then (if 1 + t226.size ≤ 9223372036854775807 then (if 1 + t226.size + t227.size ≤ 9223372036854775807 then (if 1 + t226.size + t227.size + 1 ≤ 9223372036854775807 then (some (t290.toList == ((((⟨#[97]⟩ : ByteArray) ++ t226) ++ t227) ++ (⟨#[99]⟩ : ByteArray)).toList)) else (none)) else (none)) else (none)) else (some false)) else (none)) else (none)) else (none)) else (some false))) = some r := by rw [if_pos rfl] at H; exact H
                      clear H
                      have H := H1
                      clear H1
                      replace H := Option.bind_eq_some_iff.mp H
                      obtain ⟨t294, A400, H⟩ := H
                      try dsimp only at H
                      have A40 := Aside0.mk A400
                      clear A400
                      by_cases c41 : t294 = true
                      ·subst c41
                       have H1 : (if 1 + t227.size ≤ 9223372036854775807 then (if 1 + t227.size + t226.size ≤ 9223372036854775807 then (if 1 + t227.size + t226.size + 1 ≤ 9223372036854775807 then (if t283.toList = ((((⟨#[97]⟩ : ByteArray) ++ t227) ++ t226) ++ (⟨#[99]⟩ : ByteArray)).toList then (if 1 + t226.size ≤ 9223372036854775807 then (if 1 + t226.size + t227.size ≤ 9223372036854775807 then (if 1 + t226.size + t227.size + 1 ≤ 9223372036854775807 then (some (t290.toList == ((((⟨#[97]⟩ : ByteArray) ++ t226) ++ t227) ++ (⟨#[99]⟩ : ByteArray)).toList)) else (none)) else (none)) else (none)) else (some false)) else (none)) else (none)) else (none)) = some r := by rw [if_pos rfl] at H; exact H
                       clear H
                       have H := H1
                       clear H1
                       by_cases c42 : 1 + t227.size ≤ 9223372036854775807
                       ·rw [if_pos c42] at H
                        have c42b0 := eq_true c42
                        have c42b1 : decide (1 + t227.size ≤ 9223372036854775807) = true := decide_eq_true c42
                        try have c42b2 : (9223372036854775807 < 1 + t227.size) = False := eq_false (Nat.not_lt.2 c42)
                        by_cases c43 : 1 + t227.size + t226.size ≤ 9223372036854775807
                        ·rw [if_pos c43] at H
                         have c43b0 := eq_true c43
                         have c43b1 : decide (1 + t227.size + t226.size ≤ 9223372036854775807) = true := decide_eq_true c43
                         try have c43b2 : (9223372036854775807 < 1 + t227.size + t226.size) = False := eq_false (Nat.not_lt.2 c43)
                         by_cases c44 : 1 + t227.size + t226.size + 1 ≤ 9223372036854775807
                         ·rw [if_pos c44] at H
                          have c44b0 := eq_true c44
                          have c44b1 : decide (1 + t227.size + t226.size + 1 ≤ 9223372036854775807) = true := decide_eq_true c44
                          try have c44b2 : (9223372036854775807 < 1 + t227.size + t226.size + 1) = False := eq_false (Nat.not_lt.2 c44)
                          by_cases c45 : t283.toList = ((((⟨#[97]⟩ : ByteArray) ++ t227) ++ t226) ++ (⟨#[99]⟩ : ByteArray)).toList
                          ·rw [if_pos c45] at H
                           have c45b0 : (t283.toList == ((((⟨#[97]⟩ : ByteArray) ++ t227) ++ t226) ++ (⟨#[99]⟩ : ByteArray)).toList) = true := beq_iff_eq.mpr c45
                           have c45b1 : (t283.toList != ((((⟨#[97]⟩ : ByteArray) ++ t227) ++ t226) ++ (⟨#[99]⟩ : ByteArray)).toList) = false := bne_eq_false_iff_eq.mpr c45
                           clear c45
                           by_cases c46 : 1 + t226.size ≤ 9223372036854775807
                           ·rw [if_pos c46] at H
                            have c46b0 := eq_true c46
                            have c46b1 : decide (1 + t226.size ≤ 9223372036854775807) = true := decide_eq_true c46
                            try have c46b2 : (9223372036854775807 < 1 + t226.size) = False := eq_false (Nat.not_lt.2 c46)
                            by_cases c47 : 1 + t226.size + t227.size ≤ 9223372036854775807
                            ·rw [if_pos c47] at H
                             have c47b0 := eq_true c47
                             have c47b1 : decide (1 + t226.size + t227.size ≤ 9223372036854775807) = true := decide_eq_true c47
                             try have c47b2 : (9223372036854775807 < 1 + t226.size + t227.size) = False := eq_false (Nat.not_lt.2 c47)
                             by_cases c48 : 1 + t226.size + t227.size + 1 ≤ 9223372036854775807
                             ·rw [if_pos c48] at H
                              have c48b0 := eq_true c48
                              have c48b1 : decide (1 + t226.size + t227.size + 1 ≤ 9223372036854775807) = true := decide_eq_true c48
                              try have c48b2 : (9223372036854775807 < 1 + t226.size + t227.size + 1) = False := eq_false (Nat.not_lt.2 c48)
                              obtain rfl := Option.some.inj H
                              simp only [Option.some.injEq, Prod.mk.injEq] at H
                              obtain ⟨rfl⟩ := H
                              go_enter Tryd.func3, Tryd.ntmps3
                              try go_wp2_with (first | ((with_reducible refine gate_callee (f := 8) rfl ?_); refine goesL_ (some 31) rfl rfl Tryd.func8 (by kernel_rfl) rfl #[] rfl (by (try simp only [List.map_toArray, List.map_cons, List.map_nil]); first | done | rfl | (simp only [List.length_drop, List.length_take]; rfl)) ?_; (with_reducible refine (epitometop_shown.calls k  true _ ?side1 A3.out rfl).mono ?_); (case side1 => exact Tabs.below HT.out (by repeat (first | (with_reducible first | exact HB.out | apply below_alloc | apply pw_below_drewN | apply below_drew1) | exact HB.out))); rintro e w49 ⟨rfl, hb⟩; refine ⟨_, rfl, ?_⟩; have n0_ := Aside0.mk (below_step (by repeat (first | (with_reducible first | exact HB.out | apply below_alloc | apply pw_below_drewN | apply below_drew1) | exact HB.out)) hb); clear HB; have HB := n0_; clear n0_; (try clear hb); (try clear hb2); (try clear hk); (try clear hi)) | ((with_reducible refine gate_callee (f := 9) rfl ?_); refine goesL_ (some 38) rfl rfl Tryd.func9 (by kernel_rfl) rfl #[.string ((⟨#[97]⟩ : ByteArray) ++ (a0.extract 0 ((ji4) : Int).toNat))] rfl (by (try simp only [List.map_toArray, List.map_cons, List.map_nil]); first | done | (simp only [hji4]; rfl) | rfl | (simp only [List.length_drop, List.length_take]; rfl)) ?_; (with_reducible refine (epitomeref01_Fit.calls k ((⟨#[97]⟩ : ByteArray) ++ (a0.extract 0 ((ji4) : Int).toNat)) t226 _ A8.out).mono ?_); rintro e w50 ⟨rfl, hb⟩; refine ⟨_, rfl, ?_⟩; have n0_ := Aside0.mk (below_step (by repeat (first | (with_reducible first | exact HB.out | apply below_alloc | apply pw_below_drewN | apply below_drew1) | exact HB.out)) hb); clear HB; have HB := n0_; clear n0_; (try clear hb); (try clear hb2); (try clear hk); (try clear hi)) | ((with_reducible refine gate_callee (f := 9) rfl ?_); refine goesL_ (some 45) rfl rfl Tryd.func9 (by kernel_rfl) rfl #[.string ((⟨#[98]⟩ : ByteArray) ++ (a1.extract 0 ((ji9) : Int).toNat))] rfl (by (try simp only [List.map_toArray, List.map_cons, List.map_nil]); first | done | (simp only [hji9]; rfl) | rfl | (simp only [List.length_drop, List.length_take]; rfl)) ?_; (with_reducible refine (epitomeref01_Fit.calls k ((⟨#[98]⟩ : ByteArray) ++ (a1.extract 0 ((ji9) : Int).toNat)) t227 _ A13.out).mono ?_); rintro e w51 ⟨rfl, hb⟩; refine ⟨_, rfl, ?_⟩; have n0_ := Aside0.mk (below_step (by repeat (first | (with_reducible first | exact HB.out | apply below_alloc | apply pw_below_drewN | apply below_drew1) | exact HB.out)) hb); clear HB; have HB := n0_; clear n0_; (try clear hb); (try clear hb2); (try clear hk); (try clear hi)) | ((with_reducible refine gate_dst (N := 8) rfl ?_); refine box_event ?hg (N := 8) ?hd (cs := #[.int .i64 0, .int .i64 0, .string (⟨#[]⟩ : ByteArray)]) (t := 25) ?hr ?_; (case hd => rfl); (case hg => rfl); (case hr => first | (go_simp; done) | (go_simp; rfl)); intro gb228 hg w52 hbox hb; have n0_ := Aside0.mk (below_step (by repeat (first | (with_reducible first | exact HB.out | apply below_alloc | apply pw_below_drewN | apply below_drew1) | exact HB.out)) hb); have n1_ := Aside0.mk (hbox); have n2_ := Aside0.mk ((by rw [hg]; exact (below_size (by repeat (first | (with_reducible first | exact HB.out | apply below_alloc | apply pw_below_drewN | apply below_drew1) | exact HB.out))) : w.heap.size ≤ gb228)); have n3_ := Aside0.mk ((by rw [hg]; exact (below_size (by repeat (first | (with_reducible first | exact HB.out | apply below_alloc | apply pw_below_drewN | apply below_drew1) | exact HB.out))) : w.heap.size ≤ gb228)); clear HB; have HB := n0_; have BK228 := n1_; have GW228 := n2_; have GE228 := n3_; clear n0_ n1_ n2_ n3_; clear hb hbox hg; have hcz53_0 : w52.cell? ⟨gb228, 0, none⟩ = some (.int .i64 0) := (blk_cell BK228.out 0).trans rfl; have hcz53_1 : w52.cell? ⟨gb228, 1, none⟩ = some (.int .i64 0) := (blk_cell BK228.out 1).trans rfl; have hcz53_2 : w52.cell? ⟨gb228, 2, none⟩ = some (.string (⟨#[]⟩ : ByteArray)) := (blk_cell BK228.out 2).trans rfl; have hfz53_0 := blk_frozen BK228.out 0; have hfz53_1 := blk_frozen BK228.out 1; have hfz53_2 := blk_frozen BK228.out 2) | ((with_reducible refine gate_dst (N := 9) rfl ?_); refine box_event ?hg (N := 9) ?hd (cs := #[.int .i64 0, .int .i64 0, .string (⟨#[]⟩ : ByteArray)]) (t := 25) ?hr ?_; (case hd => rfl); (case hg => rfl); (case hr => first | (go_simp; done) | (go_simp; rfl)); intro gb229 hg w54 hbox hb; have n0_ := Aside0.mk (blk_below (g := gb228) (o := .cells #[.int .i64 2, .int .i64 0, .string t226] 25 (0, 0)) (by (with_reducible repeat (first | refine blk_drewN ?_ _ | refine blk_drew ?_ | refine blk_alloc ?_ _)); refine blk_put (cs := #[.int .i64 2, .int .i64 0, .string (⟨#[]⟩ : ByteArray)]) ?_ 2 _ rfl; (with_reducible repeat (first | refine blk_drewN ?_ _ | refine blk_drew ?_ | refine blk_alloc ?_ _)); refine blk_put (cs := #[.int .i64 2, .int .i64 0, .string (⟨#[]⟩ : ByteArray)]) ?_ 1 _ rfl; (with_reducible repeat (first | refine blk_drewN ?_ _ | refine blk_drew ?_ | refine blk_alloc ?_ _)); refine blk_put (cs := #[.int .i64 0, .int .i64 0, .string (⟨#[]⟩ : ByteArray)]) ?_ 0 _ rfl; (with_reducible repeat (first | refine blk_drewN ?_ _ | refine blk_drew ?_ | refine blk_alloc ?_ _)); exact BK228.out) hb); have n1_ := Aside0.mk (below_step (by repeat (first | (with_reducible first | exact HB.out | apply below_alloc | apply pw_below_drewN | apply below_drew1 | refine below_set ?_ GE228.out) | exact HB.out)) hb); have n2_ := Aside0.mk (hbox); have n3_ := Aside0.mk ((by rw [hg]; exact (below_size (by repeat (first | (with_reducible first | exact HB.out | apply below_alloc | apply pw_below_drewN | apply below_drew1 | refine below_set ?_ GE228.out) | exact HB.out))) : w.heap.size ≤ gb229)); have n4_ := Aside0.mk ((by rw [hg]; exact (below_size (by repeat (first | (with_reducible first | exact HB.out | apply below_alloc | apply pw_below_drewN | apply below_drew1 | refine below_set ?_ GE228.out) | exact HB.out))) : w.heap.size ≤ gb229)); have n5_ := Aside0.mk ((by rw [hg]; exact Nat.ne_of_lt (blk_lt (g := gb228) (o := .cells #[.int .i64 2, .int .i64 0, .string t226] 25 (0, 0)) (by (with_reducible repeat (first | refine blk_drewN ?_ _ | refine blk_drew ?_ | refine blk_alloc ?_ _)); refine blk_put (cs := #[.int .i64 2, .int .i64 0, .string (⟨#[]⟩ : ByteArray)]) ?_ 2 _ rfl; (with_reducible repeat (first | refine blk_drewN ?_ _ | refine blk_drew ?_ | refine blk_alloc ?_ _)); refine blk_put (cs := #[.int .i64 2, .int .i64 0, .string (⟨#[]⟩ : ByteArray)]) ?_ 1 _ rfl; (with_reducible repeat (first | refine blk_drewN ?_ _ | refine blk_drew ?_ | refine blk_alloc ?_ _)); refine blk_put (cs := #[.int .i64 0, .int .i64 0, .string (⟨#[]⟩ : ByteArray)]) ?_ 0 _ rfl; (with_reducible repeat (first | refine blk_drewN ?_ _ | refine blk_drew ?_ | refine blk_alloc ?_ _)); exact BK228.out)) : gb228 ≠ gb229)); have n6_ := Aside0.mk ((by rw [hg]; exact Nat.ne_of_gt (blk_lt (g := gb228) (o := .cells #[.int .i64 2, .int .i64 0, .string t226] 25 (0, 0)) (by (with_reducible repeat (first | refine blk_drewN ?_ _ | refine blk_drew ?_ | refine blk_alloc ?_ _)); refine blk_put (cs := #[.int .i64 2, .int .i64 0, .string (⟨#[]⟩ : ByteArray)]) ?_ 2 _ rfl; (with_reducible repeat (first | refine blk_drewN ?_ _ | refine blk_drew ?_ | refine blk_alloc ?_ _)); refine blk_put (cs := #[.int .i64 2, .int .i64 0, .string (⟨#[]⟩ : ByteArray)]) ?_ 1 _ rfl; (with_reducible repeat (first | refine blk_drewN ?_ _ | refine blk_drew ?_ | refine blk_alloc ?_ _)); refine blk_put (cs := #[.int .i64 0, .int .i64 0, .string (⟨#[]⟩ : ByteArray)]) ?_ 0 _ rfl; (with_reducible repeat (first | refine blk_drewN ?_ _ | refine blk_drew ?_ | refine blk_alloc ?_ _)); exact BK228.out)) : gb229 ≠ gb228)); clear BK228; clear HB; have BK228 := n0_; have HB := n1_; have BK229 := n2_; have GW229 := n3_; have GE229 := n4_; have NB228_229 := n5_; have NB229_228 := n6_; clear n0_ n1_ n2_ n3_ n4_ n5_ n6_; clear hb hbox hg; have hnb55 := NB229_228.out; have hnc55 := NB228_229.out; have hcz56_0 : w54.cell? ⟨gb229, 0, none⟩ = some (.int .i64 0) := (blk_cell BK229.out 0).trans rfl; have hcz56_1 : w54.cell? ⟨gb229, 1, none⟩ = some (.int .i64 0) := (blk_cell BK229.out 1).trans rfl; have hcz56_2 : w54.cell? ⟨gb229, 2, none⟩ = some (.string (⟨#[]⟩ : ByteArray)) := (blk_cell BK229.out 2).trans rfl; have hfz56_0 := blk_frozen BK229.out 0; have hfz56_1 := blk_frozen BK229.out 1; have hfz56_2 := blk_frozen BK229.out 2) | ((with_reducible refine gate_dst (N := 10) rfl ?_); refine box_event ?hg (N := 10) ?hd (cs := #[.int .i64 0, .int .i64 0, .string (⟨#[]⟩ : ByteArray)]) (t := 25) ?hr ?_; (case hd => rfl); (case hg => rfl); (case hr => first | (go_simp; done) | (go_simp; rfl)); intro gb230 hg w57 hbox hb; have n0_ := Aside0.mk (blk_below (g := gb228) (o := .cells #[.int .i64 2, .int .i64 0, .string t226] 25 (0, 0)) (by (with_reducible repeat (first | refine blk_drewN ?_ _ | refine blk_drew ?_ | refine blk_alloc ?_ _)); refine blk_far ?_ NB228_229.out _; (with_reducible repeat (first | refine blk_drewN ?_ _ | refine blk_drew ?_ | refine blk_alloc ?_ _)); refine blk_far ?_ NB228_229.out _; (with_reducible repeat (first | refine blk_drewN ?_ _ | refine blk_drew ?_ | refine blk_alloc ?_ _)); refine blk_far ?_ NB228_229.out _; (with_reducible repeat (first | refine blk_drewN ?_ _ | refine blk_drew ?_ | refine blk_alloc ?_ _)); exact BK228.out) hb); have n1_ := Aside0.mk (blk_below (g := gb229) (o := .cells #[.int .i64 1, .int .i64 1, .string (⟨#[]⟩ : ByteArray)] 25 (0, 0)) (by (with_reducible repeat (first | refine blk_drewN ?_ _ | refine blk_drew ?_ | refine blk_alloc ?_ _)); refine blk_put (cs := #[.int .i64 1, .int .i64 1, .string (⟨#[]⟩ : ByteArray)]) ?_ 2 _ rfl; (with_reducible repeat (first | refine blk_drewN ?_ _ | refine blk_drew ?_ | refine blk_alloc ?_ _)); refine blk_put (cs := #[.int .i64 1, .int .i64 0, .string (⟨#[]⟩ : ByteArray)]) ?_ 1 _ rfl; (with_reducible repeat (first | refine blk_drewN ?_ _ | refine blk_drew ?_ | refine blk_alloc ?_ _)); refine blk_put (cs := #[.int .i64 0, .int .i64 0, .string (⟨#[]⟩ : ByteArray)]) ?_ 0 _ rfl; (with_reducible repeat (first | refine blk_drewN ?_ _ | refine blk_drew ?_ | refine blk_alloc ?_ _)); exact BK229.out) hb); have n2_ := Aside0.mk (below_step (by repeat (first | (with_reducible first | exact HB.out | apply below_alloc | apply pw_below_drewN | apply below_drew1 | refine below_set ?_ GE228.out | refine below_set ?_ GE229.out) | exact HB.out)) hb); have n3_ := Aside0.mk (hbox); have n4_ := Aside0.mk ((by rw [hg]; exact (below_size (by repeat (first | (with_reducible first | exact HB.out | apply below_alloc | apply pw_below_drewN | apply below_drew1 | refine below_set ?_ GE228.out | refine below_set ?_ GE229.out) | exact HB.out))) : w.heap.size ≤ gb230)); have n5_ := Aside0.mk ((by rw [hg]; exact (below_size (by repeat (first | (with_reducible first | exact HB.out | apply below_alloc | apply pw_below_drewN | apply below_drew1 | refine below_set ?_ GE228.out | refine below_set ?_ GE229.out) | exact HB.out))) : w.heap.size ≤ gb230)); have n6_ := Aside0.mk ((by rw [hg]; exact Nat.ne_of_lt (blk_lt (g := gb228) (o := .cells #[.int .i64 2, .int .i64 0, .string t226] 25 (0, 0)) (by (with_reducible repeat (first | refine blk_drewN ?_ _ | refine blk_drew ?_ | refine blk_alloc ?_ _)); refine blk_far ?_ NB228_229.out _; (with_reducible repeat (first | refine blk_drewN ?_ _ | refine blk_drew ?_ | refine blk_alloc ?_ _)); refine blk_far ?_ NB228_229.out _; (with_reducible repeat (first | refine blk_drewN ?_ _ | refine blk_drew ?_ | refine blk_alloc ?_ _)); refine blk_far ?_ NB228_229.out _; (with_reducible repeat (first | refine blk_drewN ?_ _ | refine blk_drew ?_ | refine blk_alloc ?_ _)); exact BK228.out)) : gb228 ≠ gb230)); have n7_ := Aside0.mk ((by rw [hg]; exact Nat.ne_of_gt (blk_lt (g := gb228) (o := .cells #[.int .i64 2, .int .i64 0, .string t226] 25 (0, 0)) (by (with_reducible repeat (first | refine blk_drewN ?_ _ | refine blk_drew ?_ | refine blk_alloc ?_ _)); refine blk_far ?_ NB228_229.out _; (with_reducible repeat (first | refine blk_drewN ?_ _ | refine blk_drew ?_ | refine blk_alloc ?_ _)); refine blk_far ?_ NB228_229.out _; (with_reducible repeat (first | refine blk_drewN ?_ _ | refine blk_drew ?_ | refine blk_alloc ?_ _)); refine blk_far ?_ NB228_229.out _; (with_reducible repeat (first | refine blk_drewN ?_ _ | refine blk_drew ?_ | refine blk_alloc ?_ _)); exact BK228.out)) : gb230 ≠ gb228)); have n8_ := Aside0.mk ((by rw [hg]; exact Nat.ne_of_lt (blk_lt (g := gb229) (o := .cells #[.int .i64 1, .int .i64 1, .string (⟨#[]⟩ : ByteArray)] 25 (0, 0)) (by (with_reducible repeat (first | refine blk_drewN ?_ _ | refine blk_drew ?_ | refine blk_alloc ?_ _)); refine blk_put (cs := #[.int .i64 1, .int .i64 1, .string (⟨#[]⟩ : ByteArray)]) ?_ 2 _ rfl; (with_reducible repeat (first | refine blk_drewN ?_ _ | refine blk_drew ?_ | refine blk_alloc ?_ _)); refine blk_put (cs := #[.int .i64 1, .int .i64 0, .string (⟨#[]⟩ : ByteArray)]) ?_ 1 _ rfl; (with_reducible repeat (first | refine blk_drewN ?_ _ | refine blk_drew ?_ | refine blk_alloc ?_ _)); refine blk_put (cs := #[.int .i64 0, .int .i64 0, .string (⟨#[]⟩ : ByteArray)]) ?_ 0 _ rfl; (with_reducible repeat (first | refine blk_drewN ?_ _ | refine blk_drew ?_ | refine blk_alloc ?_ _)); exact BK229.out)) : gb229 ≠ gb230)); have n9_ := Aside0.mk ((by rw [hg]; exact Nat.ne_of_gt (blk_lt (g := gb229) (o := .cells #[.int .i64 1, .int .i64 1, .string (⟨#[]⟩ : ByteArray)] 25 (0, 0)) (by (with_reducible repeat (first | refine blk_drewN ?_ _ | refine blk_drew ?_ | refine blk_alloc ?_ _)); refine blk_put (cs := #[.int .i64 1, .int .i64 1, .string (⟨#[]⟩ : ByteArray)]) ?_ 2 _ rfl; (with_reducible repeat (first | refine blk_drewN ?_ _ | refine blk_drew ?_ | refine blk_alloc ?_ _)); refine blk_put (cs := #[.int .i64 1, .int .i64 0, .string (⟨#[]⟩ : ByteArray)]) ?_ 1 _ rfl; (with_reducible repeat (first | refine blk_drewN ?_ _ | refine blk_drew ?_ | refine blk_alloc ?_ _)); refine blk_put (cs := #[.int .i64 0, .int .i64 0, .string (⟨#[]⟩ : ByteArray)]) ?_ 0 _ rfl; (with_reducible repeat (first | refine blk_drewN ?_ _ | refine blk_drew ?_ | refine blk_alloc ?_ _)); exact BK229.out)) : gb230 ≠ gb229)); clear BK228; clear BK229; clear HB; have BK228 := n0_; have BK229 := n1_; have HB := n2_; have BK230 := n3_; have GW230 := n4_; have GE230 := n5_; have NB228_230 := n6_; have NB230_228 := n7_; have NB229_230 := n8_; have NB230_229 := n9_; clear n0_ n1_ n2_ n3_ n4_ n5_ n6_ n7_ n8_ n9_; clear hb hbox hg; have hnb58 := NB230_228.out; have hnc58 := NB228_230.out; have hnb59 := NB230_229.out; have hnc59 := NB229_230.out; have hcz60_0 : w57.cell? ⟨gb230, 0, none⟩ = some (.int .i64 0) := (blk_cell BK230.out 0).trans rfl; have hcz60_1 : w57.cell? ⟨gb230, 1, none⟩ = some (.int .i64 0) := (blk_cell BK230.out 1).trans rfl; have hcz60_2 : w57.cell? ⟨gb230, 2, none⟩ = some (.string (⟨#[]⟩ : ByteArray)) := (blk_cell BK230.out 2).trans rfl; have hfz60_0 := blk_frozen BK230.out 0; have hfz60_1 := blk_frozen BK230.out 1; have hfz60_2 := blk_frozen BK230.out 2) | ((with_reducible refine gate_callee (f := 10) rfl ?_); refine goesL_ (some 51) rfl rfl Tryd.func10 (by kernel_rfl) rfl #[.string t226] rfl (by (try simp only [List.map_toArray, List.map_cons, List.map_nil]); first | done | rfl | (simp only [List.length_drop, List.length_take]; rfl)) ?_; (with_reducible refine (points_Count.calls t226 t231 _ ?side1 A14.out).mono ?_); (case side1 => exact Tabs.below HT.out (by repeat (first | (with_reducible first | exact HB.out | apply below_alloc | apply pw_below_drewN | apply below_drew1 | refine below_set ?_ GE228.out | refine below_set ?_ GE229.out | refine below_set ?_ GE230.out) | exact HB.out))); rintro e w61 ⟨rfl, hb⟩; refine ⟨_, rfl, ?_⟩; have n0_ := Aside0.mk (blk_below (g := gb228) (o := .cells #[.int .i64 2, .int .i64 0, .string t226] 25 (0, 0)) (by (with_reducible repeat (first | refine blk_drewN ?_ _ | refine blk_drew ?_ | refine blk_alloc ?_ _)); refine blk_far ?_ NB228_230.out _; (with_reducible repeat (first | refine blk_drewN ?_ _ | refine blk_drew ?_ | refine blk_alloc ?_ _)); refine blk_far ?_ NB228_230.out _; (with_reducible repeat (first | refine blk_drewN ?_ _ | refine blk_drew ?_ | refine blk_alloc ?_ _)); refine blk_far ?_ NB228_230.out _; (with_reducible repeat (first | refine blk_drewN ?_ _ | refine blk_drew ?_ | refine blk_alloc ?_ _)); exact BK228.out) hb); have n1_ := Aside0.mk (blk_below (g := gb229) (o := .cells #[.int .i64 1, .int .i64 1, .string (⟨#[]⟩ : ByteArray)] 25 (0, 0)) (by (with_reducible repeat (first | refine blk_drewN ?_ _ | refine blk_drew ?_ | refine blk_alloc ?_ _)); refine blk_far ?_ NB229_230.out _; (with_reducible repeat (first | refine blk_drewN ?_ _ | refine blk_drew ?_ | refine blk_alloc ?_ _)); refine blk_far ?_ NB229_230.out _; (with_reducible repeat (first | refine blk_drewN ?_ _ | refine blk_drew ?_ | refine blk_alloc ?_ _)); refine blk_far ?_ NB229_230.out _; (with_reducible repeat (first | refine blk_drewN ?_ _ | refine blk_drew ?_ | refine blk_alloc ?_ _)); exact BK229.out) hb); have n2_ := Aside0.mk (blk_below (g := gb230) (o := .cells #[.int .i64 3, .int .i64 1, .string (⟨#[]⟩ : ByteArray)] 25 (0, 0)) (by (with_reducible repeat (first | refine blk_drewN ?_ _ | refine blk_drew ?_ | refine blk_alloc ?_ _)); refine blk_put (cs := #[.int .i64 3, .int .i64 1, .string (⟨#[]⟩ : ByteArray)]) ?_ 2 _ rfl; (with_reducible repeat (first | refine blk_drewN ?_ _ | refine blk_drew ?_ | refine blk_alloc ?_ _)); refine blk_put (cs := #[.int .i64 3, .int .i64 0, .string (⟨#[]⟩ : ByteArray)]) ?_ 1 _ rfl; (with_reducible repeat (first | refine blk_drewN ?_ _ | refine blk_drew ?_ | refine blk_alloc ?_ _)); refine blk_put (cs := #[.int .i64 0, .int .i64 0, .string (⟨#[]⟩ : ByteArray)]) ?_ 0 _ rfl; (with_reducible repeat (first | refine blk_drewN ?_ _ | refine blk_drew ?_ | refine blk_alloc ?_ _)); exact BK230.out) hb); have n3_ := Aside0.mk (below_step (by repeat (first | (with_reducible first | exact HB.out | apply below_alloc | apply pw_below_drewN | apply below_drew1 | refine below_set ?_ GE228.out | refine below_set ?_ GE229.out | refine below_set ?_ GE230.out) | exact HB.out)) hb); clear BK228; clear BK229; clear BK230; clear HB; have BK228 := n0_; have BK229 := n1_; have BK230 := n2_; have HB := n3_; clear n0_ n1_ n2_ n3_; (try clear hb); (try clear hb2); (try clear hk); (try clear hi)) | ((with_reducible refine gate_dst (N := 11) rfl ?_); refine box_event ?hg (N := 11) ?hd (cs := #[.int .i64 0, .int .i64 0, .string (⟨#[]⟩ : ByteArray)]) (t := 25) ?hr ?_; (case hd => rfl); (case hg => rfl); (case hr => first | (go_simp; done) | (go_simp; rfl)); intro gb232 hg w62 hbox hb; have n0_ := Aside0.mk (blk_below (g := gb228) (o := .cells #[.int .i64 2, .int .i64 0, .string t226] 25 (0, 0)) (by (with_reducible repeat (first | refine blk_drewN ?_ _ | refine blk_drew ?_ | refine blk_alloc ?_ _)); exact BK228.out) hb); have n1_ := Aside0.mk (blk_below (g := gb229) (o := .cells #[.int .i64 1, .int .i64 1, .string (⟨#[]⟩ : ByteArray)] 25 (0, 0)) (by (with_reducible repeat (first | refine blk_drewN ?_ _ | refine blk_drew ?_ | refine blk_alloc ?_ _)); exact BK229.out) hb); have n2_ := Aside0.mk (blk_below (g := gb230) (o := .cells #[.int .i64 3, .int .i64 1, .string (⟨#[]⟩ : ByteArray)] 25 (0, 0)) (by (with_reducible repeat (first | refine blk_drewN ?_ _ | refine blk_drew ?_ | refine blk_alloc ?_ _)); exact BK230.out) hb); have n3_ := Aside0.mk (below_step (by repeat (first | (with_reducible first | exact HB.out | apply below_alloc | apply pw_below_drewN | apply below_drew1 | refine below_set ?_ GE228.out | refine below_set ?_ GE229.out | refine below_set ?_ GE230.out) | exact HB.out)) hb); have n4_ := Aside0.mk (hbox); have n5_ := Aside0.mk ((by rw [hg]; exact (below_size (by repeat (first | (with_reducible first | exact HB.out | apply below_alloc | apply pw_below_drewN | apply below_drew1 | refine below_set ?_ GE228.out | refine below_set ?_ GE229.out | refine below_set ?_ GE230.out) | exact HB.out))) : w.heap.size ≤ gb232)); have n6_ := Aside0.mk ((by rw [hg]; exact (below_size (by repeat (first | (with_reducible first | exact HB.out | apply below_alloc | apply pw_below_drewN | apply below_drew1 | refine below_set ?_ GE228.out | refine below_set ?_ GE229.out | refine below_set ?_ GE230.out) | exact HB.out))) : w.heap.size ≤ gb232)); have n7_ := Aside0.mk ((by rw [hg]; exact Nat.ne_of_lt (blk_lt (g := gb228) (o := .cells #[.int .i64 2, .int .i64 0, .string t226] 25 (0, 0)) (by (with_reducible repeat (first | refine blk_drewN ?_ _ | refine blk_drew ?_ | refine blk_alloc ?_ _)); exact BK228.out)) : gb228 ≠ gb232)); have n8_ := Aside0.mk ((by rw [hg]; exact Nat.ne_of_gt (blk_lt (g := gb228) (o := .cells #[.int .i64 2, .int .i64 0, .string t226] 25 (0, 0)) (by (with_reducible repeat (first | refine blk_drewN ?_ _ | refine blk_drew ?_ | refine blk_alloc ?_ _)); exact BK228.out)) : gb232 ≠ gb228)); have n9_ := Aside0.mk ((by rw [hg]; exact Nat.ne_of_lt (blk_lt (g := gb229) (o := .cells #[.int .i64 1, .int .i64 1, .string (⟨#[]⟩ : ByteArray)] 25 (0, 0)) (by (with_reducible repeat (first | refine blk_drewN ?_ _ | refine blk_drew ?_ | refine blk_alloc ?_ _)); exact BK229.out)) : gb229 ≠ gb232)); have n10_ := Aside0.mk ((by rw [hg]; exact Nat.ne_of_gt (blk_lt (g := gb229) (o := .cells #[.int .i64 1, .int .i64 1, .string (⟨#[]⟩ : ByteArray)] 25 (0, 0)) (by (with_reducible repeat (first | refine blk_drewN ?_ _ | refine blk_drew ?_ | refine blk_alloc ?_ _)); exact BK229.out)) : gb232 ≠ gb229)); have n11_ := Aside0.mk ((by rw [hg]; exact Nat.ne_of_lt (blk_lt (g := gb230) (o := .cells #[.int .i64 3, .int .i64 1, .string (⟨#[]⟩ : ByteArray)] 25 (0, 0)) (by (with_reducible repeat (first | refine blk_drewN ?_ _ | refine blk_drew ?_ | refine blk_alloc ?_ _)); exact BK230.out)) : gb230 ≠ gb232)); have n12_ := Aside0.mk ((by rw [hg]; exact Nat.ne_of_gt (blk_lt (g := gb230) (o := .cells #[.int .i64 3, .int .i64 1, .string (⟨#[]⟩ : ByteArray)] 25 (0, 0)) (by (with_reducible repeat (first | refine blk_drewN ?_ _ | refine blk_drew ?_ | refine blk_alloc ?_ _)); exact BK230.out)) : gb232 ≠ gb230)); clear BK228; clear BK229; clear BK230; clear HB; have BK228 := n0_; have BK229 := n1_; have BK230 := n2_; have HB := n3_; have BK232 := n4_; have GW232 := n5_; have GE232 := n6_; have NB228_232 := n7_; have NB232_228 := n8_; have NB229_232 := n9_; have NB232_229 := n10_; have NB230_232 := n11_; have NB232_230 := n12_; clear n0_ n1_ n2_ n3_ n4_ n5_ n6_ n7_ n8_ n9_ n10_ n11_ n12_; clear hb hbox hg; have hnb63 := NB232_228.out; have hnc63 := NB228_232.out; have hnb64 := NB232_229.out; have hnc64 := NB229_232.out; have hnb65 := NB232_230.out; have hnc65 := NB230_232.out; have hcz66_0 : w62.cell? ⟨gb232, 0, none⟩ = some (.int .i64 0) := (blk_cell BK232.out 0).trans rfl; have hcz66_1 : w62.cell? ⟨gb232, 1, none⟩ = some (.int .i64 0) := (blk_cell BK232.out 1).trans rfl; have hcz66_2 : w62.cell? ⟨gb232, 2, none⟩ = some (.string (⟨#[]⟩ : ByteArray)) := (blk_cell BK232.out 2).trans rfl; have hfz66_0 := blk_frozen BK232.out 0; have hfz66_1 := blk_frozen BK232.out 1; have hfz66_2 := blk_frozen BK232.out 2; have hcz67_0 : w62.cell? ⟨gb229, 0, none⟩ = some (.int .i64 1) := (blk_cell BK229.out 0).trans rfl; have hcz67_1 : w62.cell? ⟨gb229, 1, none⟩ = some (.int .i64 1) := (blk_cell BK229.out 1).trans rfl; have hcz67_2 : w62.cell? ⟨gb229, 2, none⟩ = some (.string (⟨#[]⟩ : ByteArray)) := (blk_cell BK229.out 2).trans rfl; have hfz67_0 := blk_frozen BK229.out 0; have hfz67_1 := blk_frozen BK229.out 1; have hfz67_2 := blk_frozen BK229.out 2) | ((with_reducible refine gate_dst (N := 58) rfl ?_); refine Kd.R_lit k25 _ 25 ?hg (N := 58) ?hd (xs := ([(⟨1, 1, (⟨#[]⟩ : ByteArray)⟩ : S25), (⟨2, 0, t227⟩ : S25), (⟨1, 1, (⟨#[]⟩ : ByteArray)⟩ : S25), (⟨1, 1, (⟨#[]⟩ : ByteArray)⟩ : S25)] : List (S25))) (inner := [.int .i64 1, .int .i64 1, .string (⟨#[]⟩ : ByteArray), .int .i64 2, .int .i64 0, .string t227, .int .i64 1, .int .i64 1, .string (⟨#[]⟩ : ByteArray), .int .i64 1, .int .i64 1, .string (⟨#[]⟩ : ByteArray)]) (ok := fun _ => True) (okp := fun _ => True) ?hr ?hp (fun _ hk => hk) trivial (Below.refl _ _) (Nat.le_refl _) (by simp) ?_; (case hd => rfl); (case hg => rfl); (case hr => first | (go_simp; done) | (go_simp; rfl)); (case hp => exact (Reps.c3 (show Kd.M k25 _ _ _ (⟨1, 1, (⟨#[]⟩ : ByteArray)⟩ : S25) [.int .i64 1, .int .i64 1, .string (⟨#[]⟩ : ByteArray)] from (k25_mkM _ _ _ (⟨1, 1, (⟨#[]⟩ : ByteArray)⟩ : S25) )) (Reps.c3 (show Kd.M k25 _ _ _ (⟨2, 0, t227⟩ : S25) [.int .i64 2, .int .i64 0, .string t227] from (k25_mkM _ _ _ (⟨2, 0, t227⟩ : S25) )) (Reps.c3 (show Kd.M k25 _ _ _ (⟨1, 1, (⟨#[]⟩ : ByteArray)⟩ : S25) [.int .i64 1, .int .i64 1, .string (⟨#[]⟩ : ByteArray)] from (k25_mkM _ _ _ (⟨1, 1, (⟨#[]⟩ : ByteArray)⟩ : S25) )) (Reps.c3 (show Kd.M k25 _ _ _ (⟨1, 1, (⟨#[]⟩ : ByteArray)⟩ : S25) [.int .i64 1, .int .i64 1, .string (⟨#[]⟩ : ByteArray)] from (k25_mkM _ _ _ (⟨1, 1, (⟨#[]⟩ : ByteArray)⟩ : S25) )) (Reps.none _ _)))))); intro v234 w68 ho69 hb hg_ hnew_; clear hg_ hnew_; (first | rw [← Ny233.out] at ho69 | (simp only [Int.reduceToNat] at ho69; rw [← Ny233.out] at ho69)); have n0_ := Aside0.mk (Kd.R_lower (Kd.R_newB (Kd.R_newB (Kd.R_newB (Kd.R_newB ho69 (g := gb228) (o := .cells #[.int .i64 2, .int .i64 0, .string t226] 25 (0, 0)) (by (with_reducible repeat (first | refine blk_drewN ?_ _ | refine blk_drew ?_ | refine blk_alloc ?_ _)); refine blk_far ?_ NB228_232.out _; (with_reducible repeat (first | refine blk_drewN ?_ _ | refine blk_drew ?_ | refine blk_alloc ?_ _)); refine blk_far ?_ NB228_232.out _; (with_reducible repeat (first | refine blk_drewN ?_ _ | refine blk_drew ?_ | refine blk_alloc ?_ _)); refine blk_far ?_ NB228_232.out _; (with_reducible repeat (first | refine blk_drewN ?_ _ | refine blk_drew ?_ | refine blk_alloc ?_ _)); exact BK228.out)) (g := gb229) (o := .cells #[.int .i64 1, .int .i64 1, .string (⟨#[]⟩ : ByteArray)] 25 (0, 0)) (by (with_reducible repeat (first | refine blk_drewN ?_ _ | refine blk_drew ?_ | refine blk_alloc ?_ _)); refine blk_far ?_ NB229_232.out _; (with_reducible repeat (first | refine blk_drewN ?_ _ | refine blk_drew ?_ | refine blk_alloc ?_ _)); refine blk_far ?_ NB229_232.out _; (with_reducible repeat (first | refine blk_drewN ?_ _ | refine blk_drew ?_ | refine blk_alloc ?_ _)); refine blk_far ?_ NB229_232.out _; (with_reducible repeat (first | refine blk_drewN ?_ _ | refine blk_drew ?_ | refine blk_alloc ?_ _)); exact BK229.out)) (g := gb230) (o := .cells #[.int .i64 3, .int .i64 1, .string (⟨#[]⟩ : ByteArray)] 25 (0, 0)) (by (with_reducible repeat (first | refine blk_drewN ?_ _ | refine blk_drew ?_ | refine blk_alloc ?_ _)); refine blk_far ?_ NB230_232.out _; (with_reducible repeat (first | refine blk_drewN ?_ _ | refine blk_drew ?_ | refine blk_alloc ?_ _)); refine blk_far ?_ NB230_232.out _; (with_reducible repeat (first | refine blk_drewN ?_ _ | refine blk_drew ?_ | refine blk_alloc ?_ _)); refine blk_far ?_ NB230_232.out _; (with_reducible repeat (first | refine blk_drewN ?_ _ | refine blk_drew ?_ | refine blk_alloc ?_ _)); exact BK230.out)) (g := gb232) (o := .cells #[.int .i64 1, .int .i64 t231, .string (⟨#[]⟩ : ByteArray)] 25 (0, 0)) (by (with_reducible repeat (first | refine blk_drewN ?_ _ | refine blk_drew ?_ | refine blk_alloc ?_ _)); refine blk_put (cs := #[.int .i64 1, .int .i64 t231, .string (⟨#[]⟩ : ByteArray)]) ?_ 2 _ rfl; (with_reducible repeat (first | refine blk_drewN ?_ _ | refine blk_drew ?_ | refine blk_alloc ?_ _)); refine blk_put (cs := #[.int .i64 1, .int .i64 0, .string (⟨#[]⟩ : ByteArray)]) ?_ 1 _ rfl; (with_reducible repeat (first | refine blk_drewN ?_ _ | refine blk_drew ?_ | refine blk_alloc ?_ _)); refine blk_put (cs := #[.int .i64 0, .int .i64 0, .string (⟨#[]⟩ : ByteArray)]) ?_ 0 _ rfl; (with_reducible repeat (first | refine blk_drewN ?_ _ | refine blk_drew ?_ | refine blk_alloc ?_ _)); exact BK232.out)) (below_size (by repeat (first | (with_reducible first | exact HB.out | apply below_alloc | apply pw_below_drewN | apply below_drew1 | refine below_set ?_ GE228.out | refine below_set ?_ GE229.out | refine below_set ?_ GE230.out | refine below_set ?_ GE232.out) | exact HB.out)))); have n1_ := Aside0.mk (blk_below (g := gb228) (o := .cells #[.int .i64 2, .int .i64 0, .string t226] 25 (0, 0)) (by (with_reducible repeat (first | refine blk_drewN ?_ _ | refine blk_drew ?_ | refine blk_alloc ?_ _)); refine blk_far ?_ NB228_232.out _; (with_reducible repeat (first | refine blk_drewN ?_ _ | refine blk_drew ?_ | refine blk_alloc ?_ _)); refine blk_far ?_ NB228_232.out _; (with_reducible repeat (first | refine blk_drewN ?_ _ | refine blk_drew ?_ | refine blk_alloc ?_ _)); refine blk_far ?_ NB228_232.out _; (with_reducible repeat (first | refine blk_drewN ?_ _ | refine blk_drew ?_ | refine blk_alloc ?_ _)); exact BK228.out) hb); have n2_ := Aside0.mk (blk_below (g := gb229) (o := .cells #[.int .i64 1, .int .i64 1, .string (⟨#[]⟩ : ByteArray)] 25 (0, 0)) (by (with_reducible repeat (first | refine blk_drewN ?_ _ | refine blk_drew ?_ | refine blk_alloc ?_ _)); refine blk_far ?_ NB229_232.out _; (with_reducible repeat (first | refine blk_drewN ?_ _ | refine blk_drew ?_ | refine blk_alloc ?_ _)); refine blk_far ?_ NB229_232.out _; (with_reducible repeat (first | refine blk_drewN ?_ _ | refine blk_drew ?_ | refine blk_alloc ?_ _)); refine blk_far ?_ NB229_232.out _; (with_reducible repeat (first | refine blk_drewN ?_ _ | refine blk_drew ?_ | refine blk_alloc ?_ _)); exact BK229.out) hb); have n3_ := Aside0.mk (blk_below (g := gb230) (o := .cells #[.int .i64 3, .int .i64 1, .string (⟨#[]⟩ : ByteArray)] 25 (0, 0)) (by (with_reducible repeat (first | refine blk_drewN ?_ _ | refine blk_drew ?_ | refine blk_alloc ?_ _)); refine blk_far ?_ NB230_232.out _; (with_reducible repeat (first | refine blk_drewN ?_ _ | refine blk_drew ?_ | refine blk_alloc ?_ _)); refine blk_far ?_ NB230_232.out _; (with_reducible repeat (first | refine blk_drewN ?_ _ | refine blk_drew ?_ | refine blk_alloc ?_ _)); refine blk_far ?_ NB230_232.out _; (with_reducible repeat (first | refine blk_drewN ?_ _ | refine blk_drew ?_ | refine blk_alloc ?_ _)); exact BK230.out) hb); have n4_ := Aside0.mk (blk_below (g := gb232) (o := .cells #[.int .i64 1, .int .i64 t231, .string (⟨#[]⟩ : ByteArray)] 25 (0, 0)) (by (with_reducible repeat (first | refine blk_drewN ?_ _ | refine blk_drew ?_ | refine blk_alloc ?_ _)); refine blk_put (cs := #[.int .i64 1, .int .i64 t231, .string (⟨#[]⟩ : ByteArray)]) ?_ 2 _ rfl; (with_reducible repeat (first | refine blk_drewN ?_ _ | refine blk_drew ?_ | refine blk_alloc ?_ _)); refine blk_put (cs := #[.int .i64 1, .int .i64 0, .string (⟨#[]⟩ : ByteArray)]) ?_ 1 _ rfl; (with_reducible repeat (first | refine blk_drewN ?_ _ | refine blk_drew ?_ | refine blk_alloc ?_ _)); refine blk_put (cs := #[.int .i64 0, .int .i64 0, .string (⟨#[]⟩ : ByteArray)]) ?_ 0 _ rfl; (with_reducible repeat (first | refine blk_drewN ?_ _ | refine blk_drew ?_ | refine blk_alloc ?_ _)); exact BK232.out) hb); have n5_ := Aside0.mk (below_step (by repeat (first | (with_reducible first | exact HB.out | apply below_alloc | apply pw_below_drewN | apply below_drew1 | refine below_set ?_ GE228.out | refine below_set ?_ GE229.out | refine below_set ?_ GE230.out | refine below_set ?_ GE232.out) | exact HB.out)) hb); clear BK228; clear BK229; clear BK230; clear BK232; clear HB; have HO235 := n0_; have BK228 := n1_; have BK229 := n2_; have BK230 := n3_; have BK232 := n4_; have HB := n5_; clear n0_ n1_ n2_ n3_ n4_ n5_; clear hb ho69; have hcz70_0 : w68.cell? ⟨gb229, 0, none⟩ = some (.int .i64 1) := (blk_cell BK229.out 0).trans rfl; have hcz70_1 : w68.cell? ⟨gb229, 1, none⟩ = some (.int .i64 1) := (blk_cell BK229.out 1).trans rfl; have hcz70_2 : w68.cell? ⟨gb229, 2, none⟩ = some (.string (⟨#[]⟩ : ByteArray)) := (blk_cell BK229.out 2).trans rfl; have hfz70_0 := blk_frozen BK229.out 0; have hfz70_1 := blk_frozen BK229.out 1; have hfz70_2 := blk_frozen BK229.out 2; have hcz71_0 : w68.cell? ⟨gb228, 0, none⟩ = some (.int .i64 2) := (blk_cell BK228.out 0).trans rfl; have hcz71_1 : w68.cell? ⟨gb228, 1, none⟩ = some (.int .i64 0) := (blk_cell BK228.out 1).trans rfl; have hcz71_2 : w68.cell? ⟨gb228, 2, none⟩ = some (.string t226) := (blk_cell BK228.out 2).trans rfl; have hfz71_0 := blk_frozen BK228.out 0; have hfz71_1 := blk_frozen BK228.out 1; have hfz71_2 := blk_frozen BK228.out 2) | ((with_reducible refine gate_dst (N := 63) rfl ?_); refine Kd.R_lit k25 _ 25 ?hg (N := 63) ?hd (xs := ([(⟨1, 1, (⟨#[]⟩ : ByteArray)⟩ : S25), (⟨1, 1, (⟨#[]⟩ : ByteArray)⟩ : S25), (⟨2, 0, t226⟩ : S25), (⟨1, 1, (⟨#[]⟩ : ByteArray)⟩ : S25)] : List (S25))) (inner := [.int .i64 1, .int .i64 1, .string (⟨#[]⟩ : ByteArray), .int .i64 1, .int .i64 1, .string (⟨#[]⟩ : ByteArray), .int .i64 2, .int .i64 0, .string t226, .int .i64 1, .int .i64 1, .string (⟨#[]⟩ : ByteArray)]) (ok := fun _ => True) (okp := fun _ => True) ?hr ?hp (fun _ hk => hk) trivial (Below.refl _ _) (Nat.le_refl _) (by simp) ?_; (case hd => rfl); (case hg => rfl); (case hr => first | (go_simp; done) | (go_simp; rfl)); (case hp => exact (Reps.c3 (show Kd.M k25 _ _ _ (⟨1, 1, (⟨#[]⟩ : ByteArray)⟩ : S25) [.int .i64 1, .int .i64 1, .string (⟨#[]⟩ : ByteArray)] from (k25_mkM _ _ _ (⟨1, 1, (⟨#[]⟩ : ByteArray)⟩ : S25) )) (Reps.c3 (show Kd.M k25 _ _ _ (⟨1, 1, (⟨#[]⟩ : ByteArray)⟩ : S25) [.int .i64 1, .int .i64 1, .string (⟨#[]⟩ : ByteArray)] from (k25_mkM _ _ _ (⟨1, 1, (⟨#[]⟩ : ByteArray)⟩ : S25) )) (Reps.c3 (show Kd.M k25 _ _ _ (⟨2, 0, t226⟩ : S25) [.int .i64 2, .int .i64 0, .string t226] from (k25_mkM _ _ _ (⟨2, 0, t226⟩ : S25) )) (Reps.c3 (show Kd.M k25 _ _ _ (⟨1, 1, (⟨#[]⟩ : ByteArray)⟩ : S25) [.int .i64 1, .int .i64 1, .string (⟨#[]⟩ : ByteArray)] from (k25_mkM _ _ _ (⟨1, 1, (⟨#[]⟩ : ByteArray)⟩ : S25) )) (Reps.none _ _)))))); intro v237 w72 ho73 hb hg_ hnew_; clear hg_ hnew_; (first | rw [← Ny236.out] at ho73 | (simp only [Int.reduceToNat] at ho73; rw [← Ny236.out] at ho73)); have n0_ := Aside0.mk (Kd.R_elder' (by (with_reducible repeat (first | apply Kd.R_alloc | apply Kd.R_drewN | apply Kd.R_drew)); exact HO235.out) (Kd.R_base ho73) hb); have n1_ := Aside0.mk (Kd.R_lower (Kd.R_newB (Kd.R_newB (Kd.R_newB (Kd.R_newB (Kd.R_new' ho73 (Kd.R_lt (by (with_reducible repeat (first | apply Kd.R_alloc | apply Kd.R_drewN | apply Kd.R_drew)); exact HO235.out))) (g := gb228) (o := .cells #[.int .i64 2, .int .i64 0, .string t226] 25 (0, 0)) (by (with_reducible repeat (first | refine blk_drewN ?_ _ | refine blk_drew ?_ | refine blk_alloc ?_ _)); exact BK228.out)) (g := gb229) (o := .cells #[.int .i64 1, .int .i64 1, .string (⟨#[]⟩ : ByteArray)] 25 (0, 0)) (by (with_reducible repeat (first | refine blk_drewN ?_ _ | refine blk_drew ?_ | refine blk_alloc ?_ _)); exact BK229.out)) (g := gb230) (o := .cells #[.int .i64 3, .int .i64 1, .string (⟨#[]⟩ : ByteArray)] 25 (0, 0)) (by (with_reducible repeat (first | refine blk_drewN ?_ _ | refine blk_drew ?_ | refine blk_alloc ?_ _)); exact BK230.out)) (g := gb232) (o := .cells #[.int .i64 1, .int .i64 t231, .string (⟨#[]⟩ : ByteArray)] 25 (0, 0)) (by (with_reducible repeat (first | refine blk_drewN ?_ _ | refine blk_drew ?_ | refine blk_alloc ?_ _)); exact BK232.out)) (below_size (by repeat (first | (with_reducible first | exact HB.out | apply below_alloc | apply pw_below_drewN | apply below_drew1 | refine below_set ?_ GE228.out | refine below_set ?_ GE229.out | refine below_set ?_ GE230.out | refine below_set ?_ GE232.out) | exact HB.out)))); have n2_ := Aside0.mk (blk_below (g := gb228) (o := .cells #[.int .i64 2, .int .i64 0, .string t226] 25 (0, 0)) (by (with_reducible repeat (first | refine blk_drewN ?_ _ | refine blk_drew ?_ | refine blk_alloc ?_ _)); exact BK228.out) hb); have n3_ := Aside0.mk (blk_below (g := gb229) (o := .cells #[.int .i64 1, .int .i64 1, .string (⟨#[]⟩ : ByteArray)] 25 (0, 0)) (by (with_reducible repeat (first | refine blk_drewN ?_ _ | refine blk_drew ?_ | refine blk_alloc ?_ _)); exact BK229.out) hb); have n4_ := Aside0.mk (blk_below (g := gb230) (o := .cells #[.int .i64 3, .int .i64 1, .string (⟨#[]⟩ : ByteArray)] 25 (0, 0)) (by (with_reducible repeat (first | refine blk_drewN ?_ _ | refine blk_drew ?_ | refine blk_alloc ?_ _)); exact BK230.out) hb); have n5_ := Aside0.mk (blk_below (g := gb232) (o := .cells #[.int .i64 1, .int .i64 t231, .string (⟨#[]⟩ : ByteArray)] 25 (0, 0)) (by (with_reducible repeat (first | refine blk_drewN ?_ _ | refine blk_drew ?_ | refine blk_alloc ?_ _)); exact BK232.out) hb); have n6_ := Aside0.mk (below_step (by repeat (first | (with_reducible first | exact HB.out | apply below_alloc | apply pw_below_drewN | apply below_drew1 | refine below_set ?_ GE228.out | refine below_set ?_ GE229.out | refine below_set ?_ GE230.out | refine below_set ?_ GE232.out) | exact HB.out)) hb); clear HO235; clear BK228; clear BK229; clear BK230; clear BK232; clear HB; have HO235 := n0_; have HO238 := n1_; have BK228 := n2_; have BK229 := n3_; have BK230 := n4_; have BK232 := n5_; have HB := n6_; clear n0_ n1_ n2_ n3_ n4_ n5_ n6_; clear hb ho73; have hcz74_0 : w72.cell? ⟨gb229, 0, none⟩ = some (.int .i64 1) := (blk_cell BK229.out 0).trans rfl; have hcz74_1 : w72.cell? ⟨gb229, 1, none⟩ = some (.int .i64 1) := (blk_cell BK229.out 1).trans rfl; have hcz74_2 : w72.cell? ⟨gb229, 2, none⟩ = some (.string (⟨#[]⟩ : ByteArray)) := (blk_cell BK229.out 2).trans rfl; have hfz74_0 := blk_frozen BK229.out 0; have hfz74_1 := blk_frozen BK229.out 1; have hfz74_2 := blk_frozen BK229.out 2; have hcz75_0 : w72.cell? ⟨gb230, 0, none⟩ = some (.int .i64 3) := (blk_cell BK230.out 0).trans rfl; have hcz75_1 : w72.cell? ⟨gb230, 1, none⟩ = some (.int .i64 1) := (blk_cell BK230.out 1).trans rfl; have hcz75_2 : w72.cell? ⟨gb230, 2, none⟩ = some (.string (⟨#[]⟩ : ByteArray)) := (blk_cell BK230.out 2).trans rfl; have hfz75_0 := blk_frozen BK230.out 0; have hfz75_1 := blk_frozen BK230.out 1; have hfz75_2 := blk_frozen BK230.out 2; have hcz76_0 : w72.cell? ⟨gb232, 0, none⟩ = some (.int .i64 1) := (blk_cell BK232.out 0).trans rfl; have hcz76_1 : w72.cell? ⟨gb232, 1, none⟩ = some (.int .i64 t231) := (blk_cell BK232.out 1).trans rfl; have hcz76_2 : w72.cell? ⟨gb232, 2, none⟩ = some (.string (⟨#[]⟩ : ByteArray)) := (blk_cell BK232.out 2).trans rfl; have hfz76_0 := blk_frozen BK232.out 0; have hfz76_1 := blk_frozen BK232.out 1; have hfz76_2 := blk_frozen BK232.out 2) | ((with_reducible refine gate_dst (N := 68) rfl ?_); refine Kd.R_lit k25 _ 25 ?hg (N := 68) ?hd (xs := ([(⟨1, 1, (⟨#[]⟩ : ByteArray)⟩ : S25), (⟨3, 1, (⟨#[]⟩ : ByteArray)⟩ : S25), (⟨1, t231, (⟨#[]⟩ : ByteArray)⟩ : S25), (⟨1, 1, (⟨#[]⟩ : ByteArray)⟩ : S25)] : List (S25))) (inner := [.int .i64 1, .int .i64 1, .string (⟨#[]⟩ : ByteArray), .int .i64 3, .int .i64 1, .string (⟨#[]⟩ : ByteArray), .int .i64 1, .int .i64 t231, .string (⟨#[]⟩ : ByteArray), .int .i64 1, .int .i64 1, .string (⟨#[]⟩ : ByteArray)]) (ok := fun _ => True) (okp := fun _ => True) ?hr ?hp (fun _ hk => hk) trivial (Below.refl _ _) (Nat.le_refl _) (by simp) ?_; (case hd => rfl); (case hg => rfl); (case hr => first | (go_simp; done) | (go_simp; rfl)); (case hp => exact (Reps.c3 (show Kd.M k25 _ _ _ (⟨1, 1, (⟨#[]⟩ : ByteArray)⟩ : S25) [.int .i64 1, .int .i64 1, .string (⟨#[]⟩ : ByteArray)] from (k25_mkM _ _ _ (⟨1, 1, (⟨#[]⟩ : ByteArray)⟩ : S25) )) (Reps.c3 (show Kd.M k25 _ _ _ (⟨3, 1, (⟨#[]⟩ : ByteArray)⟩ : S25) [.int .i64 3, .int .i64 1, .string (⟨#[]⟩ : ByteArray)] from (k25_mkM _ _ _ (⟨3, 1, (⟨#[]⟩ : ByteArray)⟩ : S25) )) (Reps.c3 (show Kd.M k25 _ _ _ (⟨1, t231, (⟨#[]⟩ : ByteArray)⟩ : S25) [.int .i64 1, .int .i64 t231, .string (⟨#[]⟩ : ByteArray)] from (k25_mkM _ _ _ (⟨1, t231, (⟨#[]⟩ : ByteArray)⟩ : S25) )) (Reps.c3 (show Kd.M k25 _ _ _ (⟨1, 1, (⟨#[]⟩ : ByteArray)⟩ : S25) [.int .i64 1, .int .i64 1, .string (⟨#[]⟩ : ByteArray)] from (k25_mkM _ _ _ (⟨1, 1, (⟨#[]⟩ : ByteArray)⟩ : S25) )) (Reps.none _ _)))))); intro v240 w77 ho78 hb hg_ hnew_; clear hg_ hnew_; (first | rw [← Ny239.out] at ho78 | (simp only [Int.reduceToNat] at ho78; rw [← Ny239.out] at ho78)); have n0_ := Aside0.mk (Kd.R_elder' (by (with_reducible repeat (first | apply Kd.R_alloc | apply Kd.R_drewN | apply Kd.R_drew)); exact HO235.out) (Kd.R_base ho78) hb); have n1_ := Aside0.mk (Kd.R_elder' (by (with_reducible repeat (first | apply Kd.R_alloc | apply Kd.R_drewN | apply Kd.R_drew)); exact HO238.out) (Kd.R_base ho78) hb); have n2_ := Aside0.mk (Kd.R_lower (Kd.R_newB (Kd.R_newB (Kd.R_newB (Kd.R_newB (Kd.R_new' (Kd.R_new' ho78 (Kd.R_lt (by (with_reducible repeat (first | apply Kd.R_alloc | apply Kd.R_drewN | apply Kd.R_drew)); exact HO235.out))) (Kd.R_lt (by (with_reducible repeat (first | apply Kd.R_alloc | apply Kd.R_drewN | apply Kd.R_drew)); exact HO238.out))) (g := gb228) (o := .cells #[.int .i64 2, .int .i64 0, .string t226] 25 (0, 0)) (by (with_reducible repeat (first | refine blk_drewN ?_ _ | refine blk_drew ?_ | refine blk_alloc ?_ _)); exact BK228.out)) (g := gb229) (o := .cells #[.int .i64 1, .int .i64 1, .string (⟨#[]⟩ : ByteArray)] 25 (0, 0)) (by (with_reducible repeat (first | refine blk_drewN ?_ _ | refine blk_drew ?_ | refine blk_alloc ?_ _)); exact BK229.out)) (g := gb230) (o := .cells #[.int .i64 3, .int .i64 1, .string (⟨#[]⟩ : ByteArray)] 25 (0, 0)) (by (with_reducible repeat (first | refine blk_drewN ?_ _ | refine blk_drew ?_ | refine blk_alloc ?_ _)); exact BK230.out)) (g := gb232) (o := .cells #[.int .i64 1, .int .i64 t231, .string (⟨#[]⟩ : ByteArray)] 25 (0, 0)) (by (with_reducible repeat (first | refine blk_drewN ?_ _ | refine blk_drew ?_ | refine blk_alloc ?_ _)); exact BK232.out)) (below_size (by repeat (first | (with_reducible first | exact HB.out | apply below_alloc | apply pw_below_drewN | apply below_drew1 | refine below_set ?_ GE228.out | refine below_set ?_ GE229.out | refine below_set ?_ GE230.out | refine below_set ?_ GE232.out) | exact HB.out)))); have n3_ := Aside0.mk (blk_below (g := gb228) (o := .cells #[.int .i64 2, .int .i64 0, .string t226] 25 (0, 0)) (by (with_reducible repeat (first | refine blk_drewN ?_ _ | refine blk_drew ?_ | refine blk_alloc ?_ _)); exact BK228.out) hb); have n4_ := Aside0.mk (blk_below (g := gb229) (o := .cells #[.int .i64 1, .int .i64 1, .string (⟨#[]⟩ : ByteArray)] 25 (0, 0)) (by (with_reducible repeat (first | refine blk_drewN ?_ _ | refine blk_drew ?_ | refine blk_alloc ?_ _)); exact BK229.out) hb); have n5_ := Aside0.mk (blk_below (g := gb230) (o := .cells #[.int .i64 3, .int .i64 1, .string (⟨#[]⟩ : ByteArray)] 25 (0, 0)) (by (with_reducible repeat (first | refine blk_drewN ?_ _ | refine blk_drew ?_ | refine blk_alloc ?_ _)); exact BK230.out) hb); have n6_ := Aside0.mk (blk_below (g := gb232) (o := .cells #[.int .i64 1, .int .i64 t231, .string (⟨#[]⟩ : ByteArray)] 25 (0, 0)) (by (with_reducible repeat (first | refine blk_drewN ?_ _ | refine blk_drew ?_ | refine blk_alloc ?_ _)); exact BK232.out) hb); have n7_ := Aside0.mk (below_step (by repeat (first | (with_reducible first | exact HB.out | apply below_alloc | apply pw_below_drewN | apply below_drew1 | refine below_set ?_ GE228.out | refine below_set ?_ GE229.out | refine below_set ?_ GE230.out | refine below_set ?_ GE232.out) | exact HB.out)) hb); clear HO235; clear HO238; clear BK228; clear BK229; clear BK230; clear BK232; clear HB; have HO235 := n0_; have HO238 := n1_; have HO241 := n2_; have BK228 := n3_; have BK229 := n4_; have BK230 := n5_; have BK232 := n6_; have HB := n7_; clear n0_ n1_ n2_ n3_ n4_ n5_ n6_ n7_; clear hb ho78; obtain ⟨Ao79, co79, eo79⟩ := Kd.R_slice HO238.out; subst eo79; obtain ⟨Ao80, co80, eo80⟩ := Kd.R_slice HO241.out; subst eo80) | ((with_reducible refine gate_dst (N := 69) rfl ?_); refine Kd.N_lit (Kd.slice 25 k25) _ 27 ?hg (N' := 69) ?hd (xs := ([y236, y239] : List (List (S25)))) (inner := [.slice Ao79 y236.length co79, .slice Ao80 y239.length co80]) (ok := (fun k_ => some k_ ≠ (v234 : Value).ownBlock ∧ k_ ≠ gb228 ∧ k_ ≠ gb229 ∧ k_ ≠ gb230 ∧ k_ ≠ gb232)) (okp := (fun k_ => some k_ ≠ (v234 : Value).ownBlock ∧ k_ ≠ gb228 ∧ k_ ≠ gb229 ∧ k_ ≠ gb230 ∧ k_ ≠ gb232)) ?hr ?hp (fun _ hk => hk) ((show ∀ k_, w77.heap.size ≤ k_ → (fun k_ => some k_ ≠ (v234 : Value).ownBlock ∧ k_ ≠ gb228 ∧ k_ ≠ gb229 ∧ k_ ≠ gb230 ∧ k_ ≠ gb232) k_ from fun k_ hk => ⟨Kd.fresh' (Kd.R_lt (by (with_reducible repeat (first | apply Kd.R_alloc | apply Kd.R_drewN | apply Kd.R_drew)); exact HO235.out)) k_ hk, Kd.freshB (g := gb228) (o := .cells #[.int .i64 2, .int .i64 0, .string t226] 25 (0, 0)) (by (with_reducible repeat (first | refine blk_drewN ?_ _ | refine blk_drew ?_ | refine blk_alloc ?_ _)); exact BK228.out) k_ hk, Kd.freshB (g := gb229) (o := .cells #[.int .i64 1, .int .i64 1, .string (⟨#[]⟩ : ByteArray)] 25 (0, 0)) (by (with_reducible repeat (first | refine blk_drewN ?_ _ | refine blk_drew ?_ | refine blk_alloc ?_ _)); exact BK229.out) k_ hk, Kd.freshB (g := gb230) (o := .cells #[.int .i64 3, .int .i64 1, .string (⟨#[]⟩ : ByteArray)] 25 (0, 0)) (by (with_reducible repeat (first | refine blk_drewN ?_ _ | refine blk_drew ?_ | refine blk_alloc ?_ _)); exact BK230.out) k_ hk, Kd.freshB (g := gb232) (o := .cells #[.int .i64 1, .int .i64 t231, .string (⟨#[]⟩ : ByteArray)] 25 (0, 0)) (by (with_reducible repeat (first | refine blk_drewN ?_ _ | refine blk_drew ?_ | refine blk_alloc ?_ _)); exact BK232.out) k_ hk⟩) _ (Nat.le_refl _)) (Below.refl _ _) (Nat.le_refl _) (by simp) ?_; (case hd => rfl); (case hg => rfl); (case hr => first | (go_simp; done) | (go_simp; rfl)); (case hp => exact (Reps.one (show Kd.FK (Kd.slice 25 k25) _ _ y236 [.slice Ao79 y236.length co79] from (Kd.FK_slice_mk (Kd.R_reads' (Kd.R_mono (ok' := (fun k_ => some k_ ≠ (v234 : Value).ownBlock ∧ k_ ≠ gb228 ∧ k_ ≠ gb229 ∧ k_ ≠ gb230 ∧ k_ ≠ gb232)) (HO238.out) (fun k_ hk => ⟨hk.1.1.1.1.1.2, ⟨hk.1.1.1.1.2, ⟨hk.1.1.1.2, ⟨hk.1.1.2, hk.1.2⟩⟩⟩⟩))).2.1 (Kd.R_F (Kd.R_mono (ok' := (fun k_ => some k_ ≠ (v234 : Value).ownBlock ∧ k_ ≠ gb228 ∧ k_ ≠ gb229 ∧ k_ ≠ gb230 ∧ k_ ≠ gb232)) (HO238.out) (fun k_ hk => ⟨hk.1.1.1.1.1.2, ⟨hk.1.1.1.1.2, ⟨hk.1.1.1.2, ⟨hk.1.1.2, hk.1.2⟩⟩⟩⟩))))) (Reps.one (show Kd.FK (Kd.slice 25 k25) _ _ y239 [.slice Ao80 y239.length co80] from (Kd.FK_slice_mk (Kd.R_reads' (Kd.R_mono (ok' := (fun k_ => some k_ ≠ (v234 : Value).ownBlock ∧ k_ ≠ gb228 ∧ k_ ≠ gb229 ∧ k_ ≠ gb230 ∧ k_ ≠ gb232)) (HO241.out) (fun k_ hk => ⟨hk.1.1.1.1.1.2, ⟨hk.1.1.1.2, ⟨hk.1.1.2, ⟨hk.1.2, hk.2⟩⟩⟩⟩))).2.1 (Kd.R_F (Kd.R_mono (ok' := (fun k_ => some k_ ≠ (v234 : Value).ownBlock ∧ k_ ≠ gb228 ∧ k_ ≠ gb229 ∧ k_ ≠ gb230 ∧ k_ ≠ gb232)) (HO241.out) (fun k_ hk => ⟨hk.1.1.1.1.1.2, ⟨hk.1.1.1.2, ⟨hk.1.1.2, ⟨hk.1.2, hk.2⟩⟩⟩⟩))))) (Reps.none _ _)))); intro v243 w81 ho82 hb hg_ hnew_; clear hg_ hnew_; (first | rw [← Ny242.out] at ho82 | (simp only [Int.reduceToNat] at ho82; rw [← Ny242.out] at ho82)); have n0_ := Aside0.mk (Kd.R_below (by (with_reducible repeat (first | apply Kd.R_alloc | apply Kd.R_drewN | apply Kd.R_drew)); exact HO235.out) hb); have n1_ := Aside0.mk (Kd.N_lower ho82 (below_size (by repeat (first | (with_reducible first | exact HB.out | apply below_alloc | apply pw_below_drewN | apply below_drew1 | refine below_set ?_ GE228.out | refine below_set ?_ GE229.out | refine below_set ?_ GE230.out | refine below_set ?_ GE232.out) | exact HB.out)))); have n2_ := Aside0.mk (blk_below (g := gb228) (o := .cells #[.int .i64 2, .int .i64 0, .string t226] 25 (0, 0)) (by (with_reducible repeat (first | refine blk_drewN ?_ _ | refine blk_drew ?_ | refine blk_alloc ?_ _)); exact BK228.out) hb); have n3_ := Aside0.mk (blk_below (g := gb229) (o := .cells #[.int .i64 1, .int .i64 1, .string (⟨#[]⟩ : ByteArray)] 25 (0, 0)) (by (with_reducible repeat (first | refine blk_drewN ?_ _ | refine blk_drew ?_ | refine blk_alloc ?_ _)); exact BK229.out) hb); have n4_ := Aside0.mk (blk_below (g := gb230) (o := .cells #[.int .i64 3, .int .i64 1, .string (⟨#[]⟩ : ByteArray)] 25 (0, 0)) (by (with_reducible repeat (first | refine blk_drewN ?_ _ | refine blk_drew ?_ | refine blk_alloc ?_ _)); exact BK230.out) hb); have n5_ := Aside0.mk (blk_below (g := gb232) (o := .cells #[.int .i64 1, .int .i64 t231, .string (⟨#[]⟩ : ByteArray)] 25 (0, 0)) (by (with_reducible repeat (first | refine blk_drewN ?_ _ | refine blk_drew ?_ | refine blk_alloc ?_ _)); exact BK232.out) hb); have n6_ := Aside0.mk (below_step (by repeat (first | (with_reducible first | exact HB.out | apply below_alloc | apply pw_below_drewN | apply below_drew1 | refine below_set ?_ GE228.out | refine below_set ?_ GE229.out | refine below_set ?_ GE230.out | refine below_set ?_ GE232.out) | exact HB.out)) hb); clear HO235; clear BK228; clear BK229; clear BK230; clear BK232; clear HB; clear HO238; clear HO241; have HO235 := n0_; have HO244 := n1_; have BK228 := n2_; have BK229 := n3_; have BK230 := n4_; have BK232 := n5_; have HB := n6_; clear n0_ n1_ n2_ n3_ n4_ n5_ n6_; clear hb ho82; have hcz83_0 : w81.cell? ⟨gb229, 0, none⟩ = some (.int .i64 1) := (blk_cell BK229.out 0).trans rfl; have hcz83_1 : w81.cell? ⟨gb229, 1, none⟩ = some (.int .i64 1) := (blk_cell BK229.out 1).trans rfl; have hcz83_2 : w81.cell? ⟨gb229, 2, none⟩ = some (.string (⟨#[]⟩ : ByteArray)) := (blk_cell BK229.out 2).trans rfl; have hfz83_0 := blk_frozen BK229.out 0; have hfz83_1 := blk_frozen BK229.out 1; have hfz83_2 := blk_frozen BK229.out 2; have hcz84_0 : w81.cell? ⟨gb230, 0, none⟩ = some (.int .i64 3) := (blk_cell BK230.out 0).trans rfl; have hcz84_1 : w81.cell? ⟨gb230, 1, none⟩ = some (.int .i64 1) := (blk_cell BK230.out 1).trans rfl; have hcz84_2 : w81.cell? ⟨gb230, 2, none⟩ = some (.string (⟨#[]⟩ : ByteArray)) := (blk_cell BK230.out 2).trans rfl; have hfz84_0 := blk_frozen BK230.out 0; have hfz84_1 := blk_frozen BK230.out 1; have hfz84_2 := blk_frozen BK230.out 2) | ((with_reducible refine gate_dst (N := 73) rfl ?_); refine Kd.R_lit k25 _ 25 ?hg (N := 73) ?hd (xs := ([(⟨1, 1, (⟨#[]⟩ : ByteArray)⟩ : S25), (⟨3, 1, (⟨#[]⟩ : ByteArray)⟩ : S25), (⟨1, 1, (⟨#[]⟩ : ByteArray)⟩ : S25)] : List (S25))) (inner := [.int .i64 1, .int .i64 1, .string (⟨#[]⟩ : ByteArray), .int .i64 3, .int .i64 1, .string (⟨#[]⟩ : ByteArray), .int .i64 1, .int .i64 1, .string (⟨#[]⟩ : ByteArray)]) (ok := fun _ => True) (okp := fun _ => True) ?hr ?hp (fun _ hk => hk) trivial (Below.refl _ _) (Nat.le_refl _) (by simp) ?_; (case hd => rfl); (case hg => rfl); (case hr => first | (go_simp; done) | (go_simp; rfl)); (case hp => exact (Reps.c3 (show Kd.M k25 _ _ _ (⟨1, 1, (⟨#[]⟩ : ByteArray)⟩ : S25) [.int .i64 1, .int .i64 1, .string (⟨#[]⟩ : ByteArray)] from (k25_mkM _ _ _ (⟨1, 1, (⟨#[]⟩ : ByteArray)⟩ : S25) )) (Reps.c3 (show Kd.M k25 _ _ _ (⟨3, 1, (⟨#[]⟩ : ByteArray)⟩ : S25) [.int .i64 3, .int .i64 1, .string (⟨#[]⟩ : ByteArray)] from (k25_mkM _ _ _ (⟨3, 1, (⟨#[]⟩ : ByteArray)⟩ : S25) )) (Reps.c3 (show Kd.M k25 _ _ _ (⟨1, 1, (⟨#[]⟩ : ByteArray)⟩ : S25) [.int .i64 1, .int .i64 1, .string (⟨#[]⟩ : ByteArray)] from (k25_mkM _ _ _ (⟨1, 1, (⟨#[]⟩ : ByteArray)⟩ : S25) )) (Reps.none _ _))))); intro v246 w85 ho86 hb hg_ hnew_; clear hg_ hnew_; (first | rw [← Ny245.out] at ho86 | (simp only [Int.reduceToNat] at ho86; rw [← Ny245.out] at ho86)); have n0_ := Aside0.mk (Kd.R_elder' (by (with_reducible repeat (first | apply Kd.R_alloc | apply Kd.R_drewN | apply Kd.R_drew)); exact HO235.out) (Kd.R_base ho86) hb); have n1_ := Aside0.mk (Kd.N_elder' (by (with_reducible repeat (first | apply Kd.N_alloc | apply Kd.N_drewN | apply Kd.N_drew)); exact HO244.out) (Kd.R_base ho86) hb); have n2_ := Aside0.mk (Kd.R_lower (Kd.R_newB (Kd.R_newB (Kd.R_newB (Kd.R_newB (Kd.R_new' ho86 (Kd.R_lt (by (with_reducible repeat (first | apply Kd.R_alloc | apply Kd.R_drewN | apply Kd.R_drew)); exact HO235.out))) (g := gb228) (o := .cells #[.int .i64 2, .int .i64 0, .string t226] 25 (0, 0)) (by (with_reducible repeat (first | refine blk_drewN ?_ _ | refine blk_drew ?_ | refine blk_alloc ?_ _)); exact BK228.out)) (g := gb229) (o := .cells #[.int .i64 1, .int .i64 1, .string (⟨#[]⟩ : ByteArray)] 25 (0, 0)) (by (with_reducible repeat (first | refine blk_drewN ?_ _ | refine blk_drew ?_ | refine blk_alloc ?_ _)); exact BK229.out)) (g := gb230) (o := .cells #[.int .i64 3, .int .i64 1, .string (⟨#[]⟩ : ByteArray)] 25 (0, 0)) (by (with_reducible repeat (first | refine blk_drewN ?_ _ | refine blk_drew ?_ | refine blk_alloc ?_ _)); exact BK230.out)) (g := gb232) (o := .cells #[.int .i64 1, .int .i64 t231, .string (⟨#[]⟩ : ByteArray)] 25 (0, 0)) (by (with_reducible repeat (first | refine blk_drewN ?_ _ | refine blk_drew ?_ | refine blk_alloc ?_ _)); exact BK232.out)) (below_size (by repeat (first | (with_reducible first | exact HB.out | apply below_alloc | apply pw_below_drewN | apply below_drew1 | refine below_set ?_ GE228.out | refine below_set ?_ GE229.out | refine below_set ?_ GE230.out | refine below_set ?_ GE232.out) | exact HB.out)))); have n3_ := Aside0.mk (blk_below (g := gb228) (o := .cells #[.int .i64 2, .int .i64 0, .string t226] 25 (0, 0)) (by (with_reducible repeat (first | refine blk_drewN ?_ _ | refine blk_drew ?_ | refine blk_alloc ?_ _)); exact BK228.out) hb); have n4_ := Aside0.mk (blk_below (g := gb229) (o := .cells #[.int .i64 1, .int .i64 1, .string (⟨#[]⟩ : ByteArray)] 25 (0, 0)) (by (with_reducible repeat (first | refine blk_drewN ?_ _ | refine blk_drew ?_ | refine blk_alloc ?_ _)); exact BK229.out) hb); have n5_ := Aside0.mk (blk_below (g := gb230) (o := .cells #[.int .i64 3, .int .i64 1, .string (⟨#[]⟩ : ByteArray)] 25 (0, 0)) (by (with_reducible repeat (first | refine blk_drewN ?_ _ | refine blk_drew ?_ | refine blk_alloc ?_ _)); exact BK230.out) hb); have n6_ := Aside0.mk (blk_below (g := gb232) (o := .cells #[.int .i64 1, .int .i64 t231, .string (⟨#[]⟩ : ByteArray)] 25 (0, 0)) (by (with_reducible repeat (first | refine blk_drewN ?_ _ | refine blk_drew ?_ | refine blk_alloc ?_ _)); exact BK232.out) hb); have n7_ := Aside0.mk (below_step (by repeat (first | (with_reducible first | exact HB.out | apply below_alloc | apply pw_below_drewN | apply below_drew1 | refine below_set ?_ GE228.out | refine below_set ?_ GE229.out | refine below_set ?_ GE230.out | refine below_set ?_ GE232.out) | exact HB.out)) hb); clear HO235; clear HO244; clear BK228; clear BK229; clear BK230; clear BK232; clear HB; have HO235 := n0_; have HO244 := n1_; have HO247 := n2_; have BK228 := n3_; have BK229 := n4_; have BK230 := n5_; have BK232 := n6_; have HB := n7_; clear n0_ n1_ n2_ n3_ n4_ n5_ n6_ n7_; clear hb ho86; have hcz87_0 : w85.cell? ⟨gb229, 0, none⟩ = some (.int .i64 1) := (blk_cell BK229.out 0).trans rfl; have hcz87_1 : w85.cell? ⟨gb229, 1, none⟩ = some (.int .i64 1) := (blk_cell BK229.out 1).trans rfl; have hcz87_2 : w85.cell? ⟨gb229, 2, none⟩ = some (.string (⟨#[]⟩ : ByteArray)) := (blk_cell BK229.out 2).trans rfl; have hfz87_0 := blk_frozen BK229.out 0; have hfz87_1 := blk_frozen BK229.out 1; have hfz87_2 := blk_frozen BK229.out 2; have hcz88_0 : w85.cell? ⟨gb228, 0, none⟩ = some (.int .i64 2) := (blk_cell BK228.out 0).trans rfl; have hcz88_1 : w85.cell? ⟨gb228, 1, none⟩ = some (.int .i64 0) := (blk_cell BK228.out 1).trans rfl; have hcz88_2 : w85.cell? ⟨gb228, 2, none⟩ = some (.string t226) := (blk_cell BK228.out 2).trans rfl; have hfz88_0 := blk_frozen BK228.out 0; have hfz88_1 := blk_frozen BK228.out 1; have hfz88_2 := blk_frozen BK228.out 2) | ((with_reducible refine gate_dst (N := 77) rfl ?_); refine Kd.R_lit k25 _ 25 ?hg (N := 77) ?hd (xs := ([(⟨1, 1, (⟨#[]⟩ : ByteArray)⟩ : S25), (⟨2, 0, t226⟩ : S25), (⟨1, 1, (⟨#[]⟩ : ByteArray)⟩ : S25)] : List (S25))) (inner := [.int .i64 1, .int .i64 1, .string (⟨#[]⟩ : ByteArray), .int .i64 2, .int .i64 0, .string t226, .int .i64 1, .int .i64 1, .string (⟨#[]⟩ : ByteArray)]) (ok := fun _ => True) (okp := fun _ => True) ?hr ?hp (fun _ hk => hk) trivial (Below.refl _ _) (Nat.le_refl _) (by simp) ?_; (case hd => rfl); (case hg => rfl); (case hr => first | (go_simp; done) | (go_simp; rfl)); (case hp => exact (Reps.c3 (show Kd.M k25 _ _ _ (⟨1, 1, (⟨#[]⟩ : ByteArray)⟩ : S25) [.int .i64 1, .int .i64 1, .string (⟨#[]⟩ : ByteArray)] from (k25_mkM _ _ _ (⟨1, 1, (⟨#[]⟩ : ByteArray)⟩ : S25) )) (Reps.c3 (show Kd.M k25 _ _ _ (⟨2, 0, t226⟩ : S25) [.int .i64 2, .int .i64 0, .string t226] from (k25_mkM _ _ _ (⟨2, 0, t226⟩ : S25) )) (Reps.c3 (show Kd.M k25 _ _ _ (⟨1, 1, (⟨#[]⟩ : ByteArray)⟩ : S25) [.int .i64 1, .int .i64 1, .string (⟨#[]⟩ : ByteArray)] from (k25_mkM _ _ _ (⟨1, 1, (⟨#[]⟩ : ByteArray)⟩ : S25) )) (Reps.none _ _))))); intro v249 w89 ho90 hb hg_ hnew_; clear hg_ hnew_; (first | rw [← Ny248.out] at ho90 | (simp only [Int.reduceToNat] at ho90; rw [← Ny248.out] at ho90)); have n0_ := Aside0.mk (Kd.R_elder' (by (with_reducible repeat (first | apply Kd.R_alloc | apply Kd.R_drewN | apply Kd.R_drew)); exact HO235.out) (Kd.R_base ho90) hb); have n1_ := Aside0.mk (Kd.N_elder' (by (with_reducible repeat (first | apply Kd.N_alloc | apply Kd.N_drewN | apply Kd.N_drew)); exact HO244.out) (Kd.R_base ho90) hb); have n2_ := Aside0.mk (Kd.R_elder' (by (with_reducible repeat (first | apply Kd.R_alloc | apply Kd.R_drewN | apply Kd.R_drew)); exact HO247.out) (Kd.R_base ho90) hb); have n3_ := Aside0.mk (Kd.R_lower (Kd.R_newB (Kd.R_newB (Kd.R_newB (Kd.R_newB (Kd.R_new' (Kd.R_new' ho90 (Kd.R_lt (by (with_reducible repeat (first | apply Kd.R_alloc | apply Kd.R_drewN | apply Kd.R_drew)); exact HO235.out))) (Kd.R_lt (by (with_reducible repeat (first | apply Kd.R_alloc | apply Kd.R_drewN | apply Kd.R_drew)); exact HO247.out))) (g := gb228) (o := .cells #[.int .i64 2, .int .i64 0, .string t226] 25 (0, 0)) (by (with_reducible repeat (first | refine blk_drewN ?_ _ | refine blk_drew ?_ | refine blk_alloc ?_ _)); exact BK228.out)) (g := gb229) (o := .cells #[.int .i64 1, .int .i64 1, .string (⟨#[]⟩ : ByteArray)] 25 (0, 0)) (by (with_reducible repeat (first | refine blk_drewN ?_ _ | refine blk_drew ?_ | refine blk_alloc ?_ _)); exact BK229.out)) (g := gb230) (o := .cells #[.int .i64 3, .int .i64 1, .string (⟨#[]⟩ : ByteArray)] 25 (0, 0)) (by (with_reducible repeat (first | refine blk_drewN ?_ _ | refine blk_drew ?_ | refine blk_alloc ?_ _)); exact BK230.out)) (g := gb232) (o := .cells #[.int .i64 1, .int .i64 t231, .string (⟨#[]⟩ : ByteArray)] 25 (0, 0)) (by (with_reducible repeat (first | refine blk_drewN ?_ _ | refine blk_drew ?_ | refine blk_alloc ?_ _)); exact BK232.out)) (below_size (by repeat (first | (with_reducible first | exact HB.out | apply below_alloc | apply pw_below_drewN | apply below_drew1 | refine below_set ?_ GE228.out | refine below_set ?_ GE229.out | refine below_set ?_ GE230.out | refine below_set ?_ GE232.out) | exact HB.out)))); have n4_ := Aside0.mk (blk_below (g := gb228) (o := .cells #[.int .i64 2, .int .i64 0, .string t226] 25 (0, 0)) (by (with_reducible repeat (first | refine blk_drewN ?_ _ | refine blk_drew ?_ | refine blk_alloc ?_ _)); exact BK228.out) hb); have n5_ := Aside0.mk (blk_below (g := gb229) (o := .cells #[.int .i64 1, .int .i64 1, .string (⟨#[]⟩ : ByteArray)] 25 (0, 0)) (by (with_reducible repeat (first | refine blk_drewN ?_ _ | refine blk_drew ?_ | refine blk_alloc ?_ _)); exact BK229.out) hb); have n6_ := Aside0.mk (blk_below (g := gb230) (o := .cells #[.int .i64 3, .int .i64 1, .string (⟨#[]⟩ : ByteArray)] 25 (0, 0)) (by (with_reducible repeat (first | refine blk_drewN ?_ _ | refine blk_drew ?_ | refine blk_alloc ?_ _)); exact BK230.out) hb); have n7_ := Aside0.mk (blk_below (g := gb232) (o := .cells #[.int .i64 1, .int .i64 t231, .string (⟨#[]⟩ : ByteArray)] 25 (0, 0)) (by (with_reducible repeat (first | refine blk_drewN ?_ _ | refine blk_drew ?_ | refine blk_alloc ?_ _)); exact BK232.out) hb); have n8_ := Aside0.mk (below_step (by repeat (first | (with_reducible first | exact HB.out | apply below_alloc | apply pw_below_drewN | apply below_drew1 | refine below_set ?_ GE228.out | refine below_set ?_ GE229.out | refine below_set ?_ GE230.out | refine below_set ?_ GE232.out) | exact HB.out)) hb); clear HO235; clear HO244; clear HO247; clear BK228; clear BK229; clear BK230; clear BK232; clear HB; have HO235 := n0_; have HO244 := n1_; have HO247 := n2_; have HO250 := n3_; have BK228 := n4_; have BK229 := n5_; have BK230 := n6_; have BK232 := n7_; have HB := n8_; clear n0_ n1_ n2_ n3_ n4_ n5_ n6_ n7_ n8_; clear hb ho90; obtain ⟨Ao91, co91, eo91⟩ := Kd.R_slice HO247.out; subst eo91; obtain ⟨Ao92, co92, eo92⟩ := Kd.R_slice HO250.out; subst eo92) | ((with_reducible refine gate_dst (N := 78) rfl ?_); refine Kd.N_lit (Kd.slice 25 k25) _ 27 ?hg (N' := 78) ?hd (xs := ([y245, y248] : List (List (S25)))) (inner := [.slice Ao91 y245.length co91, .slice Ao92 y248.length co92]) (ok := (fun k_ => some k_ ≠ (v234 : Value).ownBlock ∧ some k_ ≠ (v243 : Value).ownBlock ∧ k_ ≠ gb228 ∧ k_ ≠ gb229 ∧ k_ ≠ gb230 ∧ k_ ≠ gb232)) (okp := (fun k_ => some k_ ≠ (v234 : Value).ownBlock ∧ some k_ ≠ (v243 : Value).ownBlock ∧ k_ ≠ gb228 ∧ k_ ≠ gb229 ∧ k_ ≠ gb230 ∧ k_ ≠ gb232)) ?hr ?hp (fun _ hk => hk) ((show ∀ k_, w89.heap.size ≤ k_ → (fun k_ => some k_ ≠ (v234 : Value).ownBlock ∧ some k_ ≠ (v243 : Value).ownBlock ∧ k_ ≠ gb228 ∧ k_ ≠ gb229 ∧ k_ ≠ gb230 ∧ k_ ≠ gb232) k_ from fun k_ hk => ⟨Kd.fresh' (Kd.R_lt (by (with_reducible repeat (first | apply Kd.R_alloc | apply Kd.R_drewN | apply Kd.R_drew)); exact HO235.out)) k_ hk, Kd.fresh' (Kd.N_lt (by (with_reducible repeat (first | apply Kd.N_alloc | apply Kd.N_drewN | apply Kd.N_drew)); exact HO244.out)) k_ hk, Kd.freshB (g := gb228) (o := .cells #[.int .i64 2, .int .i64 0, .string t226] 25 (0, 0)) (by (with_reducible repeat (first | refine blk_drewN ?_ _ | refine blk_drew ?_ | refine blk_alloc ?_ _)); exact BK228.out) k_ hk, Kd.freshB (g := gb229) (o := .cells #[.int .i64 1, .int .i64 1, .string (⟨#[]⟩ : ByteArray)] 25 (0, 0)) (by (with_reducible repeat (first | refine blk_drewN ?_ _ | refine blk_drew ?_ | refine blk_alloc ?_ _)); exact BK229.out) k_ hk, Kd.freshB (g := gb230) (o := .cells #[.int .i64 3, .int .i64 1, .string (⟨#[]⟩ : ByteArray)] 25 (0, 0)) (by (with_reducible repeat (first | refine blk_drewN ?_ _ | refine blk_drew ?_ | refine blk_alloc ?_ _)); exact BK230.out) k_ hk, Kd.freshB (g := gb232) (o := .cells #[.int .i64 1, .int .i64 t231, .string (⟨#[]⟩ : ByteArray)] 25 (0, 0)) (by (with_reducible repeat (first | refine blk_drewN ?_ _ | refine blk_drew ?_ | refine blk_alloc ?_ _)); exact BK232.out) k_ hk⟩) _ (Nat.le_refl _)) (Below.refl _ _) (Nat.le_refl _) (by simp) ?_; (case hd => rfl); (case hg => rfl); (case hr => first | (go_simp; done) | (go_simp; rfl)); (case hp => exact (Reps.one (show Kd.FK (Kd.slice 25 k25) _ _ y245 [.slice Ao91 y245.length co91] from (Kd.FK_slice_mk (Kd.R_reads' (Kd.R_mono (ok' := (fun k_ => some k_ ≠ (v234 : Value).ownBlock ∧ some k_ ≠ (v243 : Value).ownBlock ∧ k_ ≠ gb228 ∧ k_ ≠ gb229 ∧ k_ ≠ gb230 ∧ k_ ≠ gb232)) (Kd.R_apart' (HO247.out) (Kd.N_typed HO244.out) (by decide)) (fun k_ hk => ⟨hk.1.1.1.1.1.1.2, ⟨hk.2, ⟨hk.1.1.1.1.1.2, ⟨hk.1.1.1.1.2, ⟨hk.1.1.1.2, hk.1.1.2⟩⟩⟩⟩⟩))).2.1 (Kd.R_F (Kd.R_mono (ok' := (fun k_ => some k_ ≠ (v234 : Value).ownBlock ∧ some k_ ≠ (v243 : Value).ownBlock ∧ k_ ≠ gb228 ∧ k_ ≠ gb229 ∧ k_ ≠ gb230 ∧ k_ ≠ gb232)) (Kd.R_apart' (HO247.out) (Kd.N_typed HO244.out) (by decide)) (fun k_ hk => ⟨hk.1.1.1.1.1.1.2, ⟨hk.2, ⟨hk.1.1.1.1.1.2, ⟨hk.1.1.1.1.2, ⟨hk.1.1.1.2, hk.1.1.2⟩⟩⟩⟩⟩))))) (Reps.one (show Kd.FK (Kd.slice 25 k25) _ _ y248 [.slice Ao92 y248.length co92] from (Kd.FK_slice_mk (Kd.R_reads' (Kd.R_mono (ok' := (fun k_ => some k_ ≠ (v234 : Value).ownBlock ∧ some k_ ≠ (v243 : Value).ownBlock ∧ k_ ≠ gb228 ∧ k_ ≠ gb229 ∧ k_ ≠ gb230 ∧ k_ ≠ gb232)) (Kd.R_apart' (HO250.out) (Kd.N_typed HO244.out) (by decide)) (fun k_ hk => ⟨hk.1.1.1.1.1.1.2, ⟨hk.2, ⟨hk.1.1.1.1.2, ⟨hk.1.1.1.2, ⟨hk.1.1.2, hk.1.2⟩⟩⟩⟩⟩))).2.1 (Kd.R_F (Kd.R_mono (ok' := (fun k_ => some k_ ≠ (v234 : Value).ownBlock ∧ some k_ ≠ (v243 : Value).ownBlock ∧ k_ ≠ gb228 ∧ k_ ≠ gb229 ∧ k_ ≠ gb230 ∧ k_ ≠ gb232)) (Kd.R_apart' (HO250.out) (Kd.N_typed HO244.out) (by decide)) (fun k_ hk => ⟨hk.1.1.1.1.1.1.2, ⟨hk.2, ⟨hk.1.1.1.1.2, ⟨hk.1.1.1.2, ⟨hk.1.1.2, hk.1.2⟩⟩⟩⟩⟩))))) (Reps.none _ _)))); intro v252 w93 ho94 hb hg_ hnew_; clear hg_ hnew_; (first | rw [← Ny251.out] at ho94 | (simp only [Int.reduceToNat] at ho94; rw [← Ny251.out] at ho94)); have n0_ := Aside0.mk (Kd.R_below (by (with_reducible repeat (first | apply Kd.R_alloc | apply Kd.R_drewN | apply Kd.R_drew)); exact HO235.out) hb); have n1_ := Aside0.mk (Kd.N_elder' (by (with_reducible repeat (first | apply Kd.N_alloc | apply Kd.N_drewN | apply Kd.N_drew)); exact HO244.out) (Kd.N_base ho94) hb); have n2_ := Aside0.mk (Kd.N_lower ho94 (below_size (by repeat (first | (with_reducible first | exact HB.out | apply below_alloc | apply pw_below_drewN | apply below_drew1 | refine below_set ?_ GE228.out | refine below_set ?_ GE229.out | refine below_set ?_ GE230.out | refine below_set ?_ GE232.out) | exact HB.out)))); have n3_ := Aside0.mk (blk_below (g := gb228) (o := .cells #[.int .i64 2, .int .i64 0, .string t226] 25 (0, 0)) (by (with_reducible repeat (first | refine blk_drewN ?_ _ | refine blk_drew ?_ | refine blk_alloc ?_ _)); exact BK228.out) hb); have n4_ := Aside0.mk (blk_below (g := gb229) (o := .cells #[.int .i64 1, .int .i64 1, .string (⟨#[]⟩ : ByteArray)] 25 (0, 0)) (by (with_reducible repeat (first | refine blk_drewN ?_ _ | refine blk_drew ?_ | refine blk_alloc ?_ _)); exact BK229.out) hb); have n5_ := Aside0.mk (blk_below (g := gb230) (o := .cells #[.int .i64 3, .int .i64 1, .string (⟨#[]⟩ : ByteArray)] 25 (0, 0)) (by (with_reducible repeat (first | refine blk_drewN ?_ _ | refine blk_drew ?_ | refine blk_alloc ?_ _)); exact BK230.out) hb); have n6_ := Aside0.mk (blk_below (g := gb232) (o := .cells #[.int .i64 1, .int .i64 t231, .string (⟨#[]⟩ : ByteArray)] 25 (0, 0)) (by (with_reducible repeat (first | refine blk_drewN ?_ _ | refine blk_drew ?_ | refine blk_alloc ?_ _)); exact BK232.out) hb); have n7_ := Aside0.mk (below_step (by repeat (first | (with_reducible first | exact HB.out | apply below_alloc | apply pw_below_drewN | apply below_drew1 | refine below_set ?_ GE228.out | refine below_set ?_ GE229.out | refine below_set ?_ GE230.out | refine below_set ?_ GE232.out) | exact HB.out)) hb); clear HO235; clear HO244; clear BK228; clear BK229; clear BK230; clear BK232; clear HB; clear HO247; clear HO250; have HO235 := n0_; have HO244 := n1_; have HO253 := n2_; have BK228 := n3_; have BK229 := n4_; have BK230 := n5_; have BK232 := n6_; have HB := n7_; clear n0_ n1_ n2_ n3_ n4_ n5_ n6_ n7_; clear hb ho94; obtain ⟨Ao95, co95, eo95⟩ := Kd.N_slice HO244.out; subst eo95) | ((with_reducible refine gate_callee (f := 11) rfl ?_); refine goesL_ (some 81) rfl rfl Tryd.func11 (by kernel_rfl) rfl #[.int .i64 3, .slice Ao95 y242.length co95] rfl (by (try simp only [List.map_toArray, List.map_cons, List.map_nil]); first | done | rfl | (simp only [List.length_drop, List.length_take]; rfl)) ?_; (with_reducible refine (fuse_Of.calls k 3 _ _ y242 t254 t255 _ ?side1 ?side2 ?side3 A15.out).mono ?_); (case side1 => repeat (first | exact (Kd.N_reads' HO244.out).2.2 | (with_reducible refine Kd.C_alloc ?_ _) | (with_reducible refine Kd.C_drewN ?_ _) | (with_reducible refine Kd.C_drew ?_))); (case side2 => exact (Kd.N_reads' HO244.out).2.1); (case side3 => exact Tabs.below HT.out (by repeat (first | (with_reducible first | exact HB.out | apply below_alloc | apply pw_below_drewN | apply below_drew1 | refine below_set ?_ GE228.out | refine below_set ?_ GE229.out | refine below_set ?_ GE230.out | refine below_set ?_ GE232.out) | exact HB.out))); rintro e w96 ⟨v256, rfl, ho0, hb⟩; refine ⟨_, rfl, ?_⟩; have n0_ := Aside0.mk (Kd.R_elder' (by (with_reducible repeat (first | apply Kd.R_alloc | apply Kd.R_drewN | apply Kd.R_drew)); exact HO235.out) (Kd.R_base ho0) hb); have n1_ := Aside0.mk (Kd.N_elder' (by (with_reducible repeat (first | apply Kd.N_alloc | apply Kd.N_drewN | apply Kd.N_drew)); exact HO244.out) (Kd.R_base ho0) hb); have n2_ := Aside0.mk (Kd.N_elder' (by (with_reducible repeat (first | apply Kd.N_alloc | apply Kd.N_drewN | apply Kd.N_drew)); exact HO253.out) (Kd.R_base ho0) hb); have n3_ := Aside0.mk (Kd.R_lower (Kd.R_newB (Kd.R_newB (Kd.R_newB (Kd.R_newB (Kd.R_new' ho0 (Kd.R_lt (by (with_reducible repeat (first | apply Kd.R_alloc | apply Kd.R_drewN | apply Kd.R_drew)); exact HO235.out))) (g := gb228) (o := .cells #[.int .i64 2, .int .i64 0, .string t226] 25 (0, 0)) (by (with_reducible repeat (first | refine blk_drewN ?_ _ | refine blk_drew ?_ | refine blk_alloc ?_ _)); exact BK228.out)) (g := gb229) (o := .cells #[.int .i64 1, .int .i64 1, .string (⟨#[]⟩ : ByteArray)] 25 (0, 0)) (by (with_reducible repeat (first | refine blk_drewN ?_ _ | refine blk_drew ?_ | refine blk_alloc ?_ _)); exact BK229.out)) (g := gb230) (o := .cells #[.int .i64 3, .int .i64 1, .string (⟨#[]⟩ : ByteArray)] 25 (0, 0)) (by (with_reducible repeat (first | refine blk_drewN ?_ _ | refine blk_drew ?_ | refine blk_alloc ?_ _)); exact BK230.out)) (g := gb232) (o := .cells #[.int .i64 1, .int .i64 t231, .string (⟨#[]⟩ : ByteArray)] 25 (0, 0)) (by (with_reducible repeat (first | refine blk_drewN ?_ _ | refine blk_drew ?_ | refine blk_alloc ?_ _)); exact BK232.out)) (below_size (by repeat (first | (with_reducible first | exact HB.out | apply below_alloc | apply pw_below_drewN | apply below_drew1 | refine below_set ?_ GE228.out | refine below_set ?_ GE229.out | refine below_set ?_ GE230.out | refine below_set ?_ GE232.out) | exact HB.out)))); have n4_ := Aside0.mk (blk_below (g := gb228) (o := .cells #[.int .i64 2, .int .i64 0, .string t226] 25 (0, 0)) (by (with_reducible repeat (first | refine blk_drewN ?_ _ | refine blk_drew ?_ | refine blk_alloc ?_ _)); exact BK228.out) hb); have n5_ := Aside0.mk (blk_below (g := gb229) (o := .cells #[.int .i64 1, .int .i64 1, .string (⟨#[]⟩ : ByteArray)] 25 (0, 0)) (by (with_reducible repeat (first | refine blk_drewN ?_ _ | refine blk_drew ?_ | refine blk_alloc ?_ _)); exact BK229.out) hb); have n6_ := Aside0.mk (blk_below (g := gb230) (o := .cells #[.int .i64 3, .int .i64 1, .string (⟨#[]⟩ : ByteArray)] 25 (0, 0)) (by (with_reducible repeat (first | refine blk_drewN ?_ _ | refine blk_drew ?_ | refine blk_alloc ?_ _)); exact BK230.out) hb); have n7_ := Aside0.mk (blk_below (g := gb232) (o := .cells #[.int .i64 1, .int .i64 t231, .string (⟨#[]⟩ : ByteArray)] 25 (0, 0)) (by (with_reducible repeat (first | refine blk_drewN ?_ _ | refine blk_drew ?_ | refine blk_alloc ?_ _)); exact BK232.out) hb); have n8_ := Aside0.mk (below_step (by repeat (first | (with_reducible first | exact HB.out | apply below_alloc | apply pw_below_drewN | apply below_drew1 | refine below_set ?_ GE228.out | refine below_set ?_ GE229.out | refine below_set ?_ GE230.out | refine below_set ?_ GE232.out) | exact HB.out)) hb); clear HO235; clear HO244; clear HO253; clear BK228; clear BK229; clear BK230; clear BK232; clear HB; have HO235 := n0_; have HO244 := n1_; have HO253 := n2_; have HO257 := n3_; have BK228 := n4_; have BK229 := n5_; have BK230 := n6_; have BK232 := n7_; have HB := n8_; clear n0_ n1_ n2_ n3_ n4_ n5_ n6_ n7_ n8_; (try clear hb); (try clear hb2); (try clear hk); (try clear hi); (try clear ho0); obtain ⟨Ao97, co97, eo97⟩ := Kd.N_slice HO253.out; subst eo97) | ((with_reducible refine gate_callee (f := 11) rfl ?_); refine goesL_ (some 86) rfl rfl Tryd.func11 (by kernel_rfl) rfl #[.int .i64 3, .slice Ao97 y251.length co97] rfl (by (try simp only [List.map_toArray, List.map_cons, List.map_nil]); first | done | rfl | (simp only [List.length_drop, List.length_take]; rfl)) ?_; (with_reducible refine (fuse_Of.calls k 3 _ _ y251 t258 t259 _ ?side1 ?side2 ?side3 A16.out).mono ?_); (case side1 => repeat (first | exact (Kd.N_reads' HO253.out).2.2 | (with_reducible refine Kd.C_alloc ?_ _) | (with_reducible refine Kd.C_drewN ?_ _) | (with_reducible refine Kd.C_drew ?_))); (case side2 => exact (Kd.N_reads' HO253.out).2.1); (case side3 => exact Tabs.below HT.out (by repeat (first | (with_reducible first | exact HB.out | apply below_alloc | apply pw_below_drewN | apply below_drew1 | refine below_set ?_ GE228.out | refine below_set ?_ GE229.out | refine below_set ?_ GE230.out | refine below_set ?_ GE232.out) | exact HB.out))); rintro e w98 ⟨v260, rfl, ho0, hb⟩; refine ⟨_, rfl, ?_⟩; have n0_ := Aside0.mk (Kd.R_elder' (by (with_reducible repeat (first | apply Kd.R_alloc | apply Kd.R_drewN | apply Kd.R_drew)); exact HO235.out) (Kd.R_base ho0) hb); have n1_ := Aside0.mk (Kd.N_elder' (by (with_reducible repeat (first | apply Kd.N_alloc | apply Kd.N_drewN | apply Kd.N_drew)); exact HO244.out) (Kd.R_base ho0) hb); have n2_ := Aside0.mk (Kd.N_elder' (by (with_reducible repeat (first | apply Kd.N_alloc | apply Kd.N_drewN | apply Kd.N_drew)); exact HO253.out) (Kd.R_base ho0) hb); have n3_ := Aside0.mk (Kd.R_elder' (by (with_reducible repeat (first | apply Kd.R_alloc | apply Kd.R_drewN | apply Kd.R_drew)); exact HO257.out) (Kd.R_base ho0) hb); have n4_ := Aside0.mk (Kd.R_lower (Kd.R_newB (Kd.R_newB (Kd.R_newB (Kd.R_newB (Kd.R_new' (Kd.R_new' ho0 (Kd.R_lt (by (with_reducible repeat (first | apply Kd.R_alloc | apply Kd.R_drewN | apply Kd.R_drew)); exact HO235.out))) (Kd.R_lt (by (with_reducible repeat (first | apply Kd.R_alloc | apply Kd.R_drewN | apply Kd.R_drew)); exact HO257.out))) (g := gb228) (o := .cells #[.int .i64 2, .int .i64 0, .string t226] 25 (0, 0)) (by (with_reducible repeat (first | refine blk_drewN ?_ _ | refine blk_drew ?_ | refine blk_alloc ?_ _)); exact BK228.out)) (g := gb229) (o := .cells #[.int .i64 1, .int .i64 1, .string (⟨#[]⟩ : ByteArray)] 25 (0, 0)) (by (with_reducible repeat (first | refine blk_drewN ?_ _ | refine blk_drew ?_ | refine blk_alloc ?_ _)); exact BK229.out)) (g := gb230) (o := .cells #[.int .i64 3, .int .i64 1, .string (⟨#[]⟩ : ByteArray)] 25 (0, 0)) (by (with_reducible repeat (first | refine blk_drewN ?_ _ | refine blk_drew ?_ | refine blk_alloc ?_ _)); exact BK230.out)) (g := gb232) (o := .cells #[.int .i64 1, .int .i64 t231, .string (⟨#[]⟩ : ByteArray)] 25 (0, 0)) (by (with_reducible repeat (first | refine blk_drewN ?_ _ | refine blk_drew ?_ | refine blk_alloc ?_ _)); exact BK232.out)) (below_size (by repeat (first | (with_reducible first | exact HB.out | apply below_alloc | apply pw_below_drewN | apply below_drew1 | refine below_set ?_ GE228.out | refine below_set ?_ GE229.out | refine below_set ?_ GE230.out | refine below_set ?_ GE232.out) | exact HB.out)))); have n5_ := Aside0.mk (blk_below (g := gb228) (o := .cells #[.int .i64 2, .int .i64 0, .string t226] 25 (0, 0)) (by (with_reducible repeat (first | refine blk_drewN ?_ _ | refine blk_drew ?_ | refine blk_alloc ?_ _)); exact BK228.out) hb); have n6_ := Aside0.mk (blk_below (g := gb229) (o := .cells #[.int .i64 1, .int .i64 1, .string (⟨#[]⟩ : ByteArray)] 25 (0, 0)) (by (with_reducible repeat (first | refine blk_drewN ?_ _ | refine blk_drew ?_ | refine blk_alloc ?_ _)); exact BK229.out) hb); have n7_ := Aside0.mk (blk_below (g := gb230) (o := .cells #[.int .i64 3, .int .i64 1, .string (⟨#[]⟩ : ByteArray)] 25 (0, 0)) (by (with_reducible repeat (first | refine blk_drewN ?_ _ | refine blk_drew ?_ | refine blk_alloc ?_ _)); exact BK230.out) hb); have n8_ := Aside0.mk (blk_below (g := gb232) (o := .cells #[.int .i64 1, .int .i64 t231, .string (⟨#[]⟩ : ByteArray)] 25 (0, 0)) (by (with_reducible repeat (first | refine blk_drewN ?_ _ | refine blk_drew ?_ | refine blk_alloc ?_ _)); exact BK232.out) hb); have n9_ := Aside0.mk (below_step (by repeat (first | (with_reducible first | exact HB.out | apply below_alloc | apply pw_below_drewN | apply below_drew1 | refine below_set ?_ GE228.out | refine below_set ?_ GE229.out | refine below_set ?_ GE230.out | refine below_set ?_ GE232.out) | exact HB.out)) hb); clear HO235; clear HO244; clear HO253; clear HO257; clear BK228; clear BK229; clear BK230; clear BK232; clear HB; have HO235 := n0_; have HO244 := n1_; have HO253 := n2_; have HO257 := n3_; have HO261 := n4_; have BK228 := n5_; have BK229 := n6_; have BK230 := n7_; have BK232 := n8_; have HB := n9_; clear n0_ n1_ n2_ n3_ n4_ n5_ n6_ n7_ n8_ n9_; (try clear hb); (try clear hb2); (try clear hk); (try clear hi); (try clear ho0); obtain ⟨Ao99, co99, eo99⟩ := Kd.R_slice HO235.out; subst eo99) | ((with_reducible refine gate_callee (f := 12) rfl ?_); refine goesL_ (some 92) rfl rfl Tryd.func12 (by kernel_rfl) rfl #[.slice Ao99 y233.length co99, .slice Ao95 y242.length co95] rfl (by (try simp only [List.map_toArray, List.map_cons, List.map_nil]); first | done | rfl | (simp only [List.length_drop, List.length_take]; rfl)) ?_; (with_reducible refine (through_Of.calls k _ _ y233 _ _ y242 t262 t263 _ ?side1 ?side2 ?side3 ?side4 ?side5 A17.out).mono ?_); (case side1 => repeat (first | exact (Kd.R_reads' HO235.out).2.2 | (with_reducible refine Kd.C_alloc ?_ _) | (with_reducible refine Kd.C_drewN ?_ _) | (with_reducible refine Kd.C_drew ?_))); (case side2 => exact (Kd.R_reads' HO235.out).2.1); (case side3 => repeat (first | exact (Kd.N_reads' HO244.out).2.2 | (with_reducible refine Kd.C_alloc ?_ _) | (with_reducible refine Kd.C_drewN ?_ _) | (with_reducible refine Kd.C_drew ?_))); (case side4 => exact (Kd.N_reads' HO244.out).2.1); (case side5 => exact Tabs.below HT.out (by repeat (first | (with_reducible first | exact HB.out | apply below_alloc | apply pw_below_drewN | apply below_drew1 | refine below_set ?_ GE228.out | refine below_set ?_ GE229.out | refine below_set ?_ GE230.out | refine below_set ?_ GE232.out) | exact HB.out))); rintro e w100 ⟨v264, rfl, ho0, hb⟩; refine ⟨_, rfl, ?_⟩; have n0_ := Aside0.mk (Kd.R_elder' (by (with_reducible repeat (first | apply Kd.R_alloc | apply Kd.R_drewN | apply Kd.R_drew)); exact HO235.out) (Kd.R_base ho0) hb); have n1_ := Aside0.mk (Kd.N_elder' (by (with_reducible repeat (first | apply Kd.N_alloc | apply Kd.N_drewN | apply Kd.N_drew)); exact HO244.out) (Kd.R_base ho0) hb); have n2_ := Aside0.mk (Kd.N_elder' (by (with_reducible repeat (first | apply Kd.N_alloc | apply Kd.N_drewN | apply Kd.N_drew)); exact HO253.out) (Kd.R_base ho0) hb); have n3_ := Aside0.mk (Kd.R_elder' (by (with_reducible repeat (first | apply Kd.R_alloc | apply Kd.R_drewN | apply Kd.R_drew)); exact HO257.out) (Kd.R_base ho0) hb); have n4_ := Aside0.mk (Kd.R_elder' (by (with_reducible repeat (first | apply Kd.R_alloc | apply Kd.R_drewN | apply Kd.R_drew)); exact HO261.out) (Kd.R_base ho0) hb); have n5_ := Aside0.mk (Kd.R_lower (Kd.R_newB (Kd.R_newB (Kd.R_newB (Kd.R_newB (Kd.R_new' (Kd.R_new' (Kd.R_new' ho0 (Kd.R_lt (by (with_reducible repeat (first | apply Kd.R_alloc | apply Kd.R_drewN | apply Kd.R_drew)); exact HO235.out))) (Kd.R_lt (by (with_reducible repeat (first | apply Kd.R_alloc | apply Kd.R_drewN | apply Kd.R_drew)); exact HO257.out))) (Kd.R_lt (by (with_reducible repeat (first | apply Kd.R_alloc | apply Kd.R_drewN | apply Kd.R_drew)); exact HO261.out))) (g := gb228) (o := .cells #[.int .i64 2, .int .i64 0, .string t226] 25 (0, 0)) (by (with_reducible repeat (first | refine blk_drewN ?_ _ | refine blk_drew ?_ | refine blk_alloc ?_ _)); exact BK228.out)) (g := gb229) (o := .cells #[.int .i64 1, .int .i64 1, .string (⟨#[]⟩ : ByteArray)] 25 (0, 0)) (by (with_reducible repeat (first | refine blk_drewN ?_ _ | refine blk_drew ?_ | refine blk_alloc ?_ _)); exact BK229.out)) (g := gb230) (o := .cells #[.int .i64 3, .int .i64 1, .string (⟨#[]⟩ : ByteArray)] 25 (0, 0)) (by (with_reducible repeat (first | refine blk_drewN ?_ _ | refine blk_drew ?_ | refine blk_alloc ?_ _)); exact BK230.out)) (g := gb232) (o := .cells #[.int .i64 1, .int .i64 t231, .string (⟨#[]⟩ : ByteArray)] 25 (0, 0)) (by (with_reducible repeat (first | refine blk_drewN ?_ _ | refine blk_drew ?_ | refine blk_alloc ?_ _)); exact BK232.out)) (below_size (by repeat (first | (with_reducible first | exact HB.out | apply below_alloc | apply pw_below_drewN | apply below_drew1 | refine below_set ?_ GE228.out | refine below_set ?_ GE229.out | refine below_set ?_ GE230.out | refine below_set ?_ GE232.out) | exact HB.out)))); have n6_ := Aside0.mk (blk_below (g := gb228) (o := .cells #[.int .i64 2, .int .i64 0, .string t226] 25 (0, 0)) (by (with_reducible repeat (first | refine blk_drewN ?_ _ | refine blk_drew ?_ | refine blk_alloc ?_ _)); exact BK228.out) hb); have n7_ := Aside0.mk (blk_below (g := gb229) (o := .cells #[.int .i64 1, .int .i64 1, .string (⟨#[]⟩ : ByteArray)] 25 (0, 0)) (by (with_reducible repeat (first | refine blk_drewN ?_ _ | refine blk_drew ?_ | refine blk_alloc ?_ _)); exact BK229.out) hb); have n8_ := Aside0.mk (blk_below (g := gb230) (o := .cells #[.int .i64 3, .int .i64 1, .string (⟨#[]⟩ : ByteArray)] 25 (0, 0)) (by (with_reducible repeat (first | refine blk_drewN ?_ _ | refine blk_drew ?_ | refine blk_alloc ?_ _)); exact BK230.out) hb); have n9_ := Aside0.mk (blk_below (g := gb232) (o := .cells #[.int .i64 1, .int .i64 t231, .string (⟨#[]⟩ : ByteArray)] 25 (0, 0)) (by (with_reducible repeat (first | refine blk_drewN ?_ _ | refine blk_drew ?_ | refine blk_alloc ?_ _)); exact BK232.out) hb); have n10_ := Aside0.mk (below_step (by repeat (first | (with_reducible first | exact HB.out | apply below_alloc | apply pw_below_drewN | apply below_drew1 | refine below_set ?_ GE228.out | refine below_set ?_ GE229.out | refine below_set ?_ GE230.out | refine below_set ?_ GE232.out) | exact HB.out)) hb); clear HO235; clear HO244; clear HO253; clear HO257; clear HO261; clear BK228; clear BK229; clear BK230; clear BK232; clear HB; have HO235 := n0_; have HO244 := n1_; have HO253 := n2_; have HO257 := n3_; have HO261 := n4_; have HO265 := n5_; have BK228 := n6_; have BK229 := n7_; have BK230 := n8_; have BK232 := n9_; have HB := n10_; clear n0_ n1_ n2_ n3_ n4_ n5_ n6_ n7_ n8_ n9_ n10_; (try clear hb); (try clear hb2); (try clear hk); (try clear hi); (try clear ho0)) | ((with_reducible refine gate_callee (f := 12) rfl ?_); refine goesL_ (some 98) rfl rfl Tryd.func12 (by kernel_rfl) rfl #[.slice Ao99 y233.length co99, .slice Ao97 y251.length co97] rfl (by (try simp only [List.map_toArray, List.map_cons, List.map_nil]); first | done | rfl | (simp only [List.length_drop, List.length_take]; rfl)) ?_; (with_reducible refine (through_Of.calls k _ _ y233 _ _ y251 t266 t267 _ ?side1 ?side2 ?side3 ?side4 ?side5 A18.out).mono ?_); (case side1 => repeat (first | exact (Kd.R_reads' HO235.out).2.2 | (with_reducible refine Kd.C_alloc ?_ _) | (with_reducible refine Kd.C_drewN ?_ _) | (with_reducible refine Kd.C_drew ?_))); (case side2 => exact (Kd.R_reads' HO235.out).2.1); (case side3 => repeat (first | exact (Kd.N_reads' HO253.out).2.2 | (with_reducible refine Kd.C_alloc ?_ _) | (with_reducible refine Kd.C_drewN ?_ _) | (with_reducible refine Kd.C_drew ?_))); (case side4 => exact (Kd.N_reads' HO253.out).2.1); (case side5 => exact Tabs.below HT.out (by repeat (first | (with_reducible first | exact HB.out | apply below_alloc | apply pw_below_drewN | apply below_drew1 | refine below_set ?_ GE228.out | refine below_set ?_ GE229.out | refine below_set ?_ GE230.out | refine below_set ?_ GE232.out) | exact HB.out))); rintro e w101 ⟨v268, rfl, ho0, hb⟩; refine ⟨_, rfl, ?_⟩; have n0_ := Aside0.mk (Kd.R_elder' (by (with_reducible repeat (first | apply Kd.R_alloc | apply Kd.R_drewN | apply Kd.R_drew)); exact HO235.out) (Kd.R_base ho0) hb); have n1_ := Aside0.mk (Kd.N_elder' (by (with_reducible repeat (first | apply Kd.N_alloc | apply Kd.N_drewN | apply Kd.N_drew)); exact HO244.out) (Kd.R_base ho0) hb); have n2_ := Aside0.mk (Kd.N_elder' (by (with_reducible repeat (first | apply Kd.N_alloc | apply Kd.N_drewN | apply Kd.N_drew)); exact HO253.out) (Kd.R_base ho0) hb); have n3_ := Aside0.mk (Kd.R_elder' (by (with_reducible repeat (first | apply Kd.R_alloc | apply Kd.R_drewN | apply Kd.R_drew)); exact HO257.out) (Kd.R_base ho0) hb); have n4_ := Aside0.mk (Kd.R_elder' (by (with_reducible repeat (first | apply Kd.R_alloc | apply Kd.R_drewN | apply Kd.R_drew)); exact HO261.out) (Kd.R_base ho0) hb); have n5_ := Aside0.mk (Kd.R_elder' (by (with_reducible repeat (first | apply Kd.R_alloc | apply Kd.R_drewN | apply Kd.R_drew)); exact HO265.out) (Kd.R_base ho0) hb); have n6_ := Aside0.mk (Kd.R_lower (Kd.R_newB (Kd.R_newB (Kd.R_newB (Kd.R_newB (Kd.R_new' (Kd.R_new' (Kd.R_new' (Kd.R_new' ho0 (Kd.R_lt (by (with_reducible repeat (first | apply Kd.R_alloc | apply Kd.R_drewN | apply Kd.R_drew)); exact HO235.out))) (Kd.R_lt (by (with_reducible repeat (first | apply Kd.R_alloc | apply Kd.R_drewN | apply Kd.R_drew)); exact HO257.out))) (Kd.R_lt (by (with_reducible repeat (first | apply Kd.R_alloc | apply Kd.R_drewN | apply Kd.R_drew)); exact HO261.out))) (Kd.R_lt (by (with_reducible repeat (first | apply Kd.R_alloc | apply Kd.R_drewN | apply Kd.R_drew)); exact HO265.out))) (g := gb228) (o := .cells #[.int .i64 2, .int .i64 0, .string t226] 25 (0, 0)) (by (with_reducible repeat (first | refine blk_drewN ?_ _ | refine blk_drew ?_ | refine blk_alloc ?_ _)); exact BK228.out)) (g := gb229) (o := .cells #[.int .i64 1, .int .i64 1, .string (⟨#[]⟩ : ByteArray)] 25 (0, 0)) (by (with_reducible repeat (first | refine blk_drewN ?_ _ | refine blk_drew ?_ | refine blk_alloc ?_ _)); exact BK229.out)) (g := gb230) (o := .cells #[.int .i64 3, .int .i64 1, .string (⟨#[]⟩ : ByteArray)] 25 (0, 0)) (by (with_reducible repeat (first | refine blk_drewN ?_ _ | refine blk_drew ?_ | refine blk_alloc ?_ _)); exact BK230.out)) (g := gb232) (o := .cells #[.int .i64 1, .int .i64 t231, .string (⟨#[]⟩ : ByteArray)] 25 (0, 0)) (by (with_reducible repeat (first | refine blk_drewN ?_ _ | refine blk_drew ?_ | refine blk_alloc ?_ _)); exact BK232.out)) (below_size (by repeat (first | (with_reducible first | exact HB.out | apply below_alloc | apply pw_below_drewN | apply below_drew1 | refine below_set ?_ GE228.out | refine below_set ?_ GE229.out | refine below_set ?_ GE230.out | refine below_set ?_ GE232.out) | exact HB.out)))); have n7_ := Aside0.mk (blk_below (g := gb228) (o := .cells #[.int .i64 2, .int .i64 0, .string t226] 25 (0, 0)) (by (with_reducible repeat (first | refine blk_drewN ?_ _ | refine blk_drew ?_ | refine blk_alloc ?_ _)); exact BK228.out) hb); have n8_ := Aside0.mk (blk_below (g := gb229) (o := .cells #[.int .i64 1, .int .i64 1, .string (⟨#[]⟩ : ByteArray)] 25 (0, 0)) (by (with_reducible repeat (first | refine blk_drewN ?_ _ | refine blk_drew ?_ | refine blk_alloc ?_ _)); exact BK229.out) hb); have n9_ := Aside0.mk (blk_below (g := gb230) (o := .cells #[.int .i64 3, .int .i64 1, .string (⟨#[]⟩ : ByteArray)] 25 (0, 0)) (by (with_reducible repeat (first | refine blk_drewN ?_ _ | refine blk_drew ?_ | refine blk_alloc ?_ _)); exact BK230.out) hb); have n10_ := Aside0.mk (blk_below (g := gb232) (o := .cells #[.int .i64 1, .int .i64 t231, .string (⟨#[]⟩ : ByteArray)] 25 (0, 0)) (by (with_reducible repeat (first | refine blk_drewN ?_ _ | refine blk_drew ?_ | refine blk_alloc ?_ _)); exact BK232.out) hb); have n11_ := Aside0.mk (below_step (by repeat (first | (with_reducible first | exact HB.out | apply below_alloc | apply pw_below_drewN | apply below_drew1 | refine below_set ?_ GE228.out | refine below_set ?_ GE229.out | refine below_set ?_ GE230.out | refine below_set ?_ GE232.out) | exact HB.out)) hb); clear HO235; clear HO244; clear HO253; clear HO257; clear HO261; clear HO265; clear BK228; clear BK229; clear BK230; clear BK232; clear HB; have HO235 := n0_; have HO244 := n1_; have HO253 := n2_; have HO257 := n3_; have HO261 := n4_; have HO265 := n5_; have HO269 := n6_; have BK228 := n7_; have BK229 := n8_; have BK230 := n9_; have BK232 := n10_; have HB := n11_; clear n0_ n1_ n2_ n3_ n4_ n5_ n6_ n7_ n8_ n9_ n10_ n11_; (try clear hb); (try clear hb2); (try clear hk); (try clear hi); (try clear ho0); obtain ⟨Ao102, co102, eo102⟩ := Kd.R_slice HO257.out; subst eo102) | ((with_reducible refine gate_callee (f := 13) rfl ?_); refine goesL_ (some 104) rfl rfl Tryd.func13 (by kernel_rfl) rfl #[.slice Ao99 y233.length co99, .slice Ao102 t254.length co102] rfl (by (try simp only [List.map_toArray, List.map_cons, List.map_nil]); first | done | rfl | (simp only [List.length_drop, List.length_take]; rfl)) ?_; (with_reducible refine (over_Of.calls k _ _ y233 _ _ t254 t270 t271 _ ?side1 ?side2 ?side3 ?side4 ?side5 A19.out).mono ?_); (case side1 => repeat (first | exact (Kd.R_reads' HO235.out).2.2 | (with_reducible refine Kd.C_alloc ?_ _) | (with_reducible refine Kd.C_drewN ?_ _) | (with_reducible refine Kd.C_drew ?_))); (case side2 => exact (Kd.R_reads' HO235.out).2.1); (case side3 => repeat (first | exact (Kd.R_reads' HO257.out).2.2 | (with_reducible refine Kd.C_alloc ?_ _) | (with_reducible refine Kd.C_drewN ?_ _) | (with_reducible refine Kd.C_drew ?_))); (case side4 => exact (Kd.R_reads' HO257.out).2.1); (case side5 => exact Tabs.below HT.out (by repeat (first | (with_reducible first | exact HB.out | apply below_alloc | apply pw_below_drewN | apply below_drew1 | refine below_set ?_ GE228.out | refine below_set ?_ GE229.out | refine below_set ?_ GE230.out | refine below_set ?_ GE232.out) | exact HB.out))); rintro e w103 ⟨v272, rfl, ho0, hb⟩; refine ⟨_, rfl, ?_⟩; have n0_ := Aside0.mk (Kd.R_elder' (by (with_reducible repeat (first | apply Kd.R_alloc | apply Kd.R_drewN | apply Kd.R_drew)); exact HO235.out) (Kd.R_base ho0) hb); have n1_ := Aside0.mk (Kd.N_elder' (by (with_reducible repeat (first | apply Kd.N_alloc | apply Kd.N_drewN | apply Kd.N_drew)); exact HO244.out) (Kd.R_base ho0) hb); have n2_ := Aside0.mk (Kd.N_elder' (by (with_reducible repeat (first | apply Kd.N_alloc | apply Kd.N_drewN | apply Kd.N_drew)); exact HO253.out) (Kd.R_base ho0) hb); have n3_ := Aside0.mk (Kd.R_elder' (by (with_reducible repeat (first | apply Kd.R_alloc | apply Kd.R_drewN | apply Kd.R_drew)); exact HO257.out) (Kd.R_base ho0) hb); have n4_ := Aside0.mk (Kd.R_elder' (by (with_reducible repeat (first | apply Kd.R_alloc | apply Kd.R_drewN | apply Kd.R_drew)); exact HO261.out) (Kd.R_base ho0) hb); have n5_ := Aside0.mk (Kd.R_elder' (by (with_reducible repeat (first | apply Kd.R_alloc | apply Kd.R_drewN | apply Kd.R_drew)); exact HO265.out) (Kd.R_base ho0) hb); have n6_ := Aside0.mk (Kd.R_elder' (by (with_reducible repeat (first | apply Kd.R_alloc | apply Kd.R_drewN | apply Kd.R_drew)); exact HO269.out) (Kd.R_base ho0) hb); have n7_ := Aside0.mk (Kd.R_lower (Kd.R_newB (Kd.R_newB (Kd.R_newB (Kd.R_newB (Kd.R_new' (Kd.R_new' (Kd.R_new' (Kd.R_new' (Kd.R_new' ho0 (Kd.R_lt (by (with_reducible repeat (first | apply Kd.R_alloc | apply Kd.R_drewN | apply Kd.R_drew)); exact HO235.out))) (Kd.R_lt (by (with_reducible repeat (first | apply Kd.R_alloc | apply Kd.R_drewN | apply Kd.R_drew)); exact HO257.out))) (Kd.R_lt (by (with_reducible repeat (first | apply Kd.R_alloc | apply Kd.R_drewN | apply Kd.R_drew)); exact HO261.out))) (Kd.R_lt (by (with_reducible repeat (first | apply Kd.R_alloc | apply Kd.R_drewN | apply Kd.R_drew)); exact HO265.out))) (Kd.R_lt (by (with_reducible repeat (first | apply Kd.R_alloc | apply Kd.R_drewN | apply Kd.R_drew)); exact HO269.out))) (g := gb228) (o := .cells #[.int .i64 2, .int .i64 0, .string t226] 25 (0, 0)) (by (with_reducible repeat (first | refine blk_drewN ?_ _ | refine blk_drew ?_ | refine blk_alloc ?_ _)); exact BK228.out)) (g := gb229) (o := .cells #[.int .i64 1, .int .i64 1, .string (⟨#[]⟩ : ByteArray)] 25 (0, 0)) (by (with_reducible repeat (first | refine blk_drewN ?_ _ | refine blk_drew ?_ | refine blk_alloc ?_ _)); exact BK229.out)) (g := gb230) (o := .cells #[.int .i64 3, .int .i64 1, .string (⟨#[]⟩ : ByteArray)] 25 (0, 0)) (by (with_reducible repeat (first | refine blk_drewN ?_ _ | refine blk_drew ?_ | refine blk_alloc ?_ _)); exact BK230.out)) (g := gb232) (o := .cells #[.int .i64 1, .int .i64 t231, .string (⟨#[]⟩ : ByteArray)] 25 (0, 0)) (by (with_reducible repeat (first | refine blk_drewN ?_ _ | refine blk_drew ?_ | refine blk_alloc ?_ _)); exact BK232.out)) (below_size (by repeat (first | (with_reducible first | exact HB.out | apply below_alloc | apply pw_below_drewN | apply below_drew1 | refine below_set ?_ GE228.out | refine below_set ?_ GE229.out | refine below_set ?_ GE230.out | refine below_set ?_ GE232.out) | exact HB.out)))); have n8_ := Aside0.mk (blk_below (g := gb228) (o := .cells #[.int .i64 2, .int .i64 0, .string t226] 25 (0, 0)) (by (with_reducible repeat (first | refine blk_drewN ?_ _ | refine blk_drew ?_ | refine blk_alloc ?_ _)); exact BK228.out) hb); have n9_ := Aside0.mk (blk_below (g := gb229) (o := .cells #[.int .i64 1, .int .i64 1, .string (⟨#[]⟩ : ByteArray)] 25 (0, 0)) (by (with_reducible repeat (first | refine blk_drewN ?_ _ | refine blk_drew ?_ | refine blk_alloc ?_ _)); exact BK229.out) hb); have n10_ := Aside0.mk (blk_below (g := gb230) (o := .cells #[.int .i64 3, .int .i64 1, .string (⟨#[]⟩ : ByteArray)] 25 (0, 0)) (by (with_reducible repeat (first | refine blk_drewN ?_ _ | refine blk_drew ?_ | refine blk_alloc ?_ _)); exact BK230.out) hb); have n11_ := Aside0.mk (blk_below (g := gb232) (o := .cells #[.int .i64 1, .int .i64 t231, .string (⟨#[]⟩ : ByteArray)] 25 (0, 0)) (by (with_reducible repeat (first | refine blk_drewN ?_ _ | refine blk_drew ?_ | refine blk_alloc ?_ _)); exact BK232.out) hb); have n12_ := Aside0.mk (below_step (by repeat (first | (with_reducible first | exact HB.out | apply below_alloc | apply pw_below_drewN | apply below_drew1 | refine below_set ?_ GE228.out | refine below_set ?_ GE229.out | refine below_set ?_ GE230.out | refine below_set ?_ GE232.out) | exact HB.out)) hb); clear HO235; clear HO244; clear HO253; clear HO257; clear HO261; clear HO265; clear HO269; clear BK228; clear BK229; clear BK230; clear BK232; clear HB; have HO235 := n0_; have HO244 := n1_; have HO253 := n2_; have HO257 := n3_; have HO261 := n4_; have HO265 := n5_; have HO269 := n6_; have HO273 := n7_; have BK228 := n8_; have BK229 := n9_; have BK230 := n10_; have BK232 := n11_; have HB := n12_; clear n0_ n1_ n2_ n3_ n4_ n5_ n6_ n7_ n8_ n9_ n10_ n11_ n12_; (try clear hb); (try clear hb2); (try clear hk); (try clear hi); (try clear ho0); obtain ⟨Ao104, co104, eo104⟩ := Kd.R_slice HO261.out; subst eo104) | ((with_reducible refine gate_callee (f := 13) rfl ?_); refine goesL_ (some 110) rfl rfl Tryd.func13 (by kernel_rfl) rfl #[.slice Ao99 y233.length co99, .slice Ao104 t258.length co104] rfl (by (try simp only [List.map_toArray, List.map_cons, List.map_nil]); first | done | rfl | (simp only [List.length_drop, List.length_take]; rfl)) ?_; (with_reducible refine (over_Of.calls k _ _ y233 _ _ t258 t274 t275 _ ?side1 ?side2 ?side3 ?side4 ?side5 A20.out).mono ?_); (case side1 => repeat (first | exact (Kd.R_reads' HO235.out).2.2 | (with_reducible refine Kd.C_alloc ?_ _) | (with_reducible refine Kd.C_drewN ?_ _) | (with_reducible refine Kd.C_drew ?_))); (case side2 => exact (Kd.R_reads' HO235.out).2.1); (case side3 => repeat (first | exact (Kd.R_reads' HO261.out).2.2 | (with_reducible refine Kd.C_alloc ?_ _) | (with_reducible refine Kd.C_drewN ?_ _) | (with_reducible refine Kd.C_drew ?_))); (case side4 => exact (Kd.R_reads' HO261.out).2.1); (case side5 => exact Tabs.below HT.out (by repeat (first | (with_reducible first | exact HB.out | apply below_alloc | apply pw_below_drewN | apply below_drew1 | refine below_set ?_ GE228.out | refine below_set ?_ GE229.out | refine below_set ?_ GE230.out | refine below_set ?_ GE232.out) | exact HB.out))); rintro e w105 ⟨v276, rfl, ho0, hb⟩; refine ⟨_, rfl, ?_⟩; have n0_ := Aside0.mk (Kd.R_elder' (by (with_reducible repeat (first | apply Kd.R_alloc | apply Kd.R_drewN | apply Kd.R_drew)); exact HO235.out) (Kd.R_base ho0) hb); have n1_ := Aside0.mk (Kd.N_elder' (by (with_reducible repeat (first | apply Kd.N_alloc | apply Kd.N_drewN | apply Kd.N_drew)); exact HO244.out) (Kd.R_base ho0) hb); have n2_ := Aside0.mk (Kd.N_elder' (by (with_reducible repeat (first | apply Kd.N_alloc | apply Kd.N_drewN | apply Kd.N_drew)); exact HO253.out) (Kd.R_base ho0) hb); have n3_ := Aside0.mk (Kd.R_elder' (by (with_reducible repeat (first | apply Kd.R_alloc | apply Kd.R_drewN | apply Kd.R_drew)); exact HO257.out) (Kd.R_base ho0) hb); have n4_ := Aside0.mk (Kd.R_elder' (by (with_reducible repeat (first | apply Kd.R_alloc | apply Kd.R_drewN | apply Kd.R_drew)); exact HO261.out) (Kd.R_base ho0) hb); have n5_ := Aside0.mk (Kd.R_elder' (by (with_reducible repeat (first | apply Kd.R_alloc | apply Kd.R_drewN | apply Kd.R_drew)); exact HO265.out) (Kd.R_base ho0) hb); have n6_ := Aside0.mk (Kd.R_elder' (by (with_reducible repeat (first | apply Kd.R_alloc | apply Kd.R_drewN | apply Kd.R_drew)); exact HO269.out) (Kd.R_base ho0) hb); have n7_ := Aside0.mk (Kd.R_elder' (by (with_reducible repeat (first | apply Kd.R_alloc | apply Kd.R_drewN | apply Kd.R_drew)); exact HO273.out) (Kd.R_base ho0) hb); have n8_ := Aside0.mk (Kd.R_lower (Kd.R_newB (Kd.R_newB (Kd.R_newB (Kd.R_newB (Kd.R_new' (Kd.R_new' (Kd.R_new' (Kd.R_new' (Kd.R_new' (Kd.R_new' ho0 (Kd.R_lt (by (with_reducible repeat (first | apply Kd.R_alloc | apply Kd.R_drewN | apply Kd.R_drew)); exact HO235.out))) (Kd.R_lt (by (with_reducible repeat (first | apply Kd.R_alloc | apply Kd.R_drewN | apply Kd.R_drew)); exact HO257.out))) (Kd.R_lt (by (with_reducible repeat (first | apply Kd.R_alloc | apply Kd.R_drewN | apply Kd.R_drew)); exact HO261.out))) (Kd.R_lt (by (with_reducible repeat (first | apply Kd.R_alloc | apply Kd.R_drewN | apply Kd.R_drew)); exact HO265.out))) (Kd.R_lt (by (with_reducible repeat (first | apply Kd.R_alloc | apply Kd.R_drewN | apply Kd.R_drew)); exact HO269.out))) (Kd.R_lt (by (with_reducible repeat (first | apply Kd.R_alloc | apply Kd.R_drewN | apply Kd.R_drew)); exact HO273.out))) (g := gb228) (o := .cells #[.int .i64 2, .int .i64 0, .string t226] 25 (0, 0)) (by (with_reducible repeat (first | refine blk_drewN ?_ _ | refine blk_drew ?_ | refine blk_alloc ?_ _)); exact BK228.out)) (g := gb229) (o := .cells #[.int .i64 1, .int .i64 1, .string (⟨#[]⟩ : ByteArray)] 25 (0, 0)) (by (with_reducible repeat (first | refine blk_drewN ?_ _ | refine blk_drew ?_ | refine blk_alloc ?_ _)); exact BK229.out)) (g := gb230) (o := .cells #[.int .i64 3, .int .i64 1, .string (⟨#[]⟩ : ByteArray)] 25 (0, 0)) (by (with_reducible repeat (first | refine blk_drewN ?_ _ | refine blk_drew ?_ | refine blk_alloc ?_ _)); exact BK230.out)) (g := gb232) (o := .cells #[.int .i64 1, .int .i64 t231, .string (⟨#[]⟩ : ByteArray)] 25 (0, 0)) (by (with_reducible repeat (first | refine blk_drewN ?_ _ | refine blk_drew ?_ | refine blk_alloc ?_ _)); exact BK232.out)) (below_size (by repeat (first | (with_reducible first | exact HB.out | apply below_alloc | apply pw_below_drewN | apply below_drew1 | refine below_set ?_ GE228.out | refine below_set ?_ GE229.out | refine below_set ?_ GE230.out | refine below_set ?_ GE232.out) | exact HB.out)))); have n9_ := Aside0.mk (blk_below (g := gb228) (o := .cells #[.int .i64 2, .int .i64 0, .string t226] 25 (0, 0)) (by (with_reducible repeat (first | refine blk_drewN ?_ _ | refine blk_drew ?_ | refine blk_alloc ?_ _)); exact BK228.out) hb); have n10_ := Aside0.mk (blk_below (g := gb229) (o := .cells #[.int .i64 1, .int .i64 1, .string (⟨#[]⟩ : ByteArray)] 25 (0, 0)) (by (with_reducible repeat (first | refine blk_drewN ?_ _ | refine blk_drew ?_ | refine blk_alloc ?_ _)); exact BK229.out) hb); have n11_ := Aside0.mk (blk_below (g := gb230) (o := .cells #[.int .i64 3, .int .i64 1, .string (⟨#[]⟩ : ByteArray)] 25 (0, 0)) (by (with_reducible repeat (first | refine blk_drewN ?_ _ | refine blk_drew ?_ | refine blk_alloc ?_ _)); exact BK230.out) hb); have n12_ := Aside0.mk (blk_below (g := gb232) (o := .cells #[.int .i64 1, .int .i64 t231, .string (⟨#[]⟩ : ByteArray)] 25 (0, 0)) (by (with_reducible repeat (first | refine blk_drewN ?_ _ | refine blk_drew ?_ | refine blk_alloc ?_ _)); exact BK232.out) hb); have n13_ := Aside0.mk (below_step (by repeat (first | (with_reducible first | exact HB.out | apply below_alloc | apply pw_below_drewN | apply below_drew1 | refine below_set ?_ GE228.out | refine below_set ?_ GE229.out | refine below_set ?_ GE230.out | refine below_set ?_ GE232.out) | exact HB.out)) hb); clear HO235; clear HO244; clear HO253; clear HO257; clear HO261; clear HO265; clear HO269; clear HO273; clear BK228; clear BK229; clear BK230; clear BK232; clear HB; have HO235 := n0_; have HO244 := n1_; have HO253 := n2_; have HO257 := n3_; have HO261 := n4_; have HO265 := n5_; have HO269 := n6_; have HO273 := n7_; have HO277 := n8_; have BK228 := n9_; have BK229 := n10_; have BK230 := n11_; have BK232 := n12_; have HB := n13_; clear n0_ n1_ n2_ n3_ n4_ n5_ n6_ n7_ n8_ n9_ n10_ n11_ n12_ n13_; (try clear hb); (try clear hb2); (try clear hk); (try clear hi); (try clear ho0)))
                              have n0_ := Aside0.mk (Kd.R_drew HO235.out)
                              have n1_ := Aside0.mk (Kd.N_drew HO244.out)
                              have n2_ := Aside0.mk (Kd.N_drew HO253.out)
                              have n3_ := Aside0.mk (Kd.R_drew HO257.out)
                              have n4_ := Aside0.mk (Kd.R_drew HO261.out)
                              have n5_ := Aside0.mk (Kd.R_drew HO265.out)
                              have n6_ := Aside0.mk (Kd.R_drew HO269.out)
                              have n7_ := Aside0.mk (Kd.R_drew HO273.out)
                              have n8_ := Aside0.mk (Kd.R_drew HO277.out)
                              have n9_ := Aside0.mk (blk_drew BK228.out)
                              have n10_ := Aside0.mk (blk_drew BK229.out)
                              have n11_ := Aside0.mk (blk_drew BK230.out)
                              have n12_ := Aside0.mk (blk_drew BK232.out)
                              have n13_ := Aside0.mk (below_drew1 HB.out)
                              clear HO235
                              clear HO244
                              clear HO253
                              clear HO257
                              clear HO261
                              clear HO265
                              clear HO269
                              clear HO273
                              clear HO277
                              clear BK228
                              clear BK229
                              clear BK230
                              clear BK232
                              clear HB
                              have HO235 := n0_
                              have HO244 := n1_
                              have HO253 := n2_
                              have HO257 := n3_
                              have HO261 := n4_
                              have HO265 := n5_
                              have HO269 := n6_
                              have HO273 := n7_
                              have HO277 := n8_
                              have BK228 := n9_
                              have BK229 := n10_
                              have BK230 := n11_
                              have BK232 := n12_
                              have HB := n13_
                              clear n0_ n1_ n2_ n3_ n4_ n5_ n6_ n7_ n8_ n9_ n10_ n11_ n12_ n13_
                              have p278 : 0 ≤ (0 : Int) := (by omega)
                              have q278 : 0 < (y242.length : Int) := of_decide_eq_true (by first | (with_reducible assumption) | assumption)
                              obtain ⟨ad278, A278_0, c278_0, e278, hx278_0, hl278_0, hi278_0⟩ := at_L3 (Kd.N_reads' HO244.out).2.2 0 p278 q278
                              cases e278
                              obtain ⟨ce278, hce278, hMe278, hcc278⟩ := Kd.N_get HO244.out [] 0 p278 (by first | exact q278 | exact of_decide_eq_true (by first | (with_reducible assumption) | assumption) | (have e_ := (Kd.N_reads' HO244.out).1; omega))
                              obtain ⟨ua278_0, uc278_0, rfl, ul278_0, ge278_0⟩ := Kd.FK_slice_open hMe278
                              have hv278_0 := hcc278 0 _ rfl
                              rw [Nat.add_zero, show ((Kd.slice 25 k25)).sz = 1 from rfl, Nat.mul_one] at hv278_0
                              replace hv278_0 := Option.some.inj (hv278_0.symm.trans hx278_0)
                              injection hv278_0 with hva_ hvn_ hvc_
                              rw [hva_] at ge278_0
                              rw [hvc_] at ul278_0
                              have HL278_0 := Aside0.mk (show Kd.V k25 25 _ w.heap.size _ _ (rd_L3 y242 0) from Kd.V_mk ul278_0 ge278_0)
                              clear hva_ hvn_ hvc_ ge278_0 ul278_0
                              clear hcc278 hce278
                              have qi278 : (0 < y242.length) = True := eq_true (by omega)
                              (try rw [show ((0 : Int)).toNat = 0 from rfl] at hx278_0)
                              (try rw [Addr.add_zero'] at hx278_0)
                              have HR278_0 := Aside0.mk hi278_0
                              have HC278_0 := Aside0.mk hl278_0
                              clear hi278_0 hl278_0
                              replace p278 := eq_true p278
                              replace q278 := eq_true q278
                              have p279 : 0 ≤ (1 : Int) := (by omega)
                              have q279 : 1 < (y242.length : Int) := of_decide_eq_true (by first | (with_reducible assumption) | assumption)
                              obtain ⟨ad279, A279_0, c279_0, e279, hx279_0, hl279_0, hi279_0⟩ := at_L3 (Kd.N_reads' HO244.out).2.2 1 p279 q279
                              obtain rfl : ad278 = ad279 := (by injection e279)
                              obtain ⟨ce279, hce279, hMe279, hcc279⟩ := Kd.N_get HO244.out [] 1 p279 (by first | exact q279 | exact of_decide_eq_true (by first | (with_reducible assumption) | assumption) | (have e_ := (Kd.N_reads' HO244.out).1; omega))
                              obtain ⟨ua279_0, uc279_0, rfl, ul279_0, ge279_0⟩ := Kd.FK_slice_open hMe279
                              have hv279_0 := hcc279 0 _ rfl
                              rw [Nat.add_zero, show ((Kd.slice 25 k25)).sz = 1 from rfl, Nat.mul_one] at hv279_0
                              replace hv279_0 := Option.some.inj (hv279_0.symm.trans hx279_0)
                              injection hv279_0 with hva_ hvn_ hvc_
                              rw [hva_] at ge279_0
                              rw [hvc_] at ul279_0
                              have HL279_0 := Aside0.mk (show Kd.V k25 25 _ w.heap.size _ _ (rd_L3 y242 1) from Kd.V_mk ul279_0 ge279_0)
                              clear hva_ hvn_ hvc_ ge279_0 ul279_0
                              clear hcc279 hce279
                              (try simp only [show (1 : Int).toNat = 1 from rfl, Nat.reduceMul, Nat.reduceEqDiff, Go.Addr.add, ↓reduceIte] at hx279_0)
                              have qi279 : (1 < y242.length) = True := eq_true (by omega)
                              (try rw [show ((1 : Int)).toNat = 1 from rfl] at hx279_0)
                              have HR279_0 := Aside0.mk hi279_0
                              have HC279_0 := Aside0.mk hl279_0
                              clear hi279_0 hl279_0
                              replace p279 := eq_true p279
                              replace q279 := eq_true q279
                              obtain ⟨Ao107, co107, eo107⟩ := Kd.R_slice HO265.out
                              (first | subst eo107 | (injection eo107 with f1_ f2_ f3_; have f4_ := f1_.symm; have f5_ := f3_.symm; clear f1_ f2_ f3_; subst f4_; subst f5_))
                              refine start_ (n := 14) (S := fun w' => w'.cell? ad278 = some (.slice A278_0 (rd_L3 y242 0).length c278_0) ∧ w'.cell? ⟨ad278.block, ad278.off + 1, none⟩ = some (.slice A279_0 (rd_L3 y242 1).length c279_0)) (ds := []) #[false, false, false, false, false, false, false, false, false, false, false, false, false, false] (by kernel_rfl) rfl rfl ⟨hx278_0, hx279_0⟩ (fun hHeld => ?_); refine with_tabW epitometop_TopTie.tab17 epitometop_TopTie.bits17 (fun HT_ HW_ => ?_)
                              generalize w105.drew = w106 at HO235 HO244 HO253 HO257 HO261 HO265 HO269 HO273 HO277 BK228 BK229 BK230 BK232 HB HL278_0 HL279_0 HR278_0 HR279_0 hx278_0 hx279_0 hHeld ⊢
                              have Rk1 := Aside0.mk (Kd.R_reads' HO265.out).2.2
                              have Lk1 := Aside0.mk (Kd.R_reads' HO265.out).2.1
                              refine pure_ (i := 0) (N := some 114) (v := ?_) (a' := ?_) #[true, false, false, false, false, false, false, false, false, false, false, false, false, false] rfl rfl (any_of HT_.out (by kernel_rfl)) (fun _ _ _ h => h) (Or.inl ⟨by rfl, ?_⟩) ?_ ?_
                              rotate_left
                              ·intro w'
                               go_simp
                               with_reducible rfl
                              rotate_left
                              ·simp only [Act.put, List.setIfInBounds_toArray, List.set_cons_zero, List.set_cons_succ, i64_w, i32_w]
                               rfl
                              refine pure_ (i := 1) (N := some 115) (v := ?_) (a' := ?_) #[true, true, false, false, false, false, false, false, false, false, false, false, false, false] rfl rfl (any_of HT_.out (by kernel_rfl)) (fun _ _ _ h => h) (Or.inl ⟨by rfl, ?_⟩) ?_ ?_
                              rotate_left
                              ·intro w'
                               go_simp
                               with_reducible rfl
                              rotate_left
                              ·simp only [Act.put, List.setIfInBounds_toArray, List.set_cons_zero, List.set_cons_succ, i64_w, i32_w]
                               rfl
                              refine pure_ (i := 3) (N := some 117) (v := ?_) (a' := ?_) #[true, true, false, true, false, false, false, false, false, false, false, false, false, false] rfl rfl (any_of HT_.out (by kernel_rfl)) (fun _ _ _ h => h) (Or.inl ⟨by rfl, ?_⟩) ?_ ?_
                              rotate_left
                              ·intro w'
                               go_simp
                               with_reducible rfl
                              rotate_left
                              ·simp only [Act.put, List.setIfInBounds_toArray, List.set_cons_zero, List.set_cons_succ, i64_w, i32_w]
                               rfl
                              refine pure_ (i := 4) (N := some 118) (v := ?_) (a' := ?_) #[true, true, false, true, true, false, false, false, false, false, false, false, false, false] rfl rfl (any_of HT_.out (by kernel_rfl)) (fun _ _ _ h => h) (Or.inl ⟨by rfl, ?_⟩) ?_ ?_
                              rotate_left
                              ·intro w'
                               go_simp
                               with_reducible rfl
                              rotate_left
                              ·simp only [Act.put, List.setIfInBounds_toArray, List.set_cons_zero, List.set_cons_succ, i64_w, i32_w]
                               rfl
                              refine pure_ (i := 6) (N := some 120) (v := ?_) (a' := ?_) #[true, true, false, true, true, false, true, false, false, false, false, false, false, false] rfl rfl (any_of HT_.out (by kernel_rfl)) (fun _ _ _ h => h) (Or.inl ⟨by rfl, ?_⟩) ?_ ?_
                              rotate_left
                              ·intro w'
                               go_simp
                               with_reducible rfl
                              rotate_left
                              ·simp only [Act.put, List.setIfInBounds_toArray, List.set_cons_zero, List.set_cons_succ, i64_w, i32_w]
                               rfl
                              refine take_ (i := 2) (N := some 116) (v := ?_) (a' := ?_) #[true, true, true, true, true, false, true, false, false, false, false, false, false, false] rfl rfl (take_ofW HT_.out HW_.out (by kernel_rfl)) (fun _ _ _ h => h) (Or.inl ⟨by rfl, ?_⟩) hHeld ?_ ?_
                              rotate_left
                              ·rintro w' ⟨s0, s1⟩
                               go_simp
                               with_reducible rfl
                              rotate_left
                              ·simp only [Act.put, List.setIfInBounds_toArray, List.set_cons_zero, List.set_cons_succ, i64_w, i32_w]
                               rfl
                              refine take_ (i := 5) (N := some 119) (v := ?_) (a' := ?_) #[true, true, true, true, true, true, true, false, false, false, false, false, false, false] rfl rfl (take_ofW HT_.out HW_.out (by kernel_rfl)) (fun _ _ _ h => h) (Or.inl ⟨by rfl, ?_⟩) hHeld ?_ ?_
                              rotate_left
                              ·rintro w' ⟨s0, s1⟩
                               go_simp
                               with_reducible rfl
                              rotate_left
                              ·simp only [Act.put, List.setIfInBounds_toArray, List.set_cons_zero, List.set_cons_succ, i64_w, i32_w]
                               rfl
                              refine one_ (i := 7) (N := some 121) #[true, true, true, true, true, true, true, true, false, false, false, false, false, false] rfl rfl (one_of HT_.out (by kernel_rfl)) (by decide) (fun K hK => ?_)
                              refine Kd.N_lit_step (Kd.slice 25 k25) _ 27 ?hg (N' := 121) ?hd (xs := ([rd_L3 y242 0, rd_L3 y242 1, t262] : List (List (S25)))) (inner := [.slice A278_0 (rd_L3 y242 0).length c278_0, .slice A279_0 (rd_L3 y242 1).length c279_0, .slice Ao107 t262.length co107]) (ok := (fun k_ => some k_ ≠ (.slice Ao99 y233.length co99 : Value).ownBlock ∧ some k_ ≠ (.slice (some ad278) y242.length co95 : Value).ownBlock ∧ some k_ ≠ (.slice Ao97 y251.length co97 : Value).ownBlock ∧ some k_ ≠ (.slice Ao102 t254.length co102 : Value).ownBlock ∧ some k_ ≠ (.slice Ao104 t258.length co104 : Value).ownBlock ∧ some k_ ≠ (v268 : Value).ownBlock ∧ some k_ ≠ (v272 : Value).ownBlock ∧ some k_ ≠ (v276 : Value).ownBlock ∧ k_ ≠ gb228 ∧ k_ ≠ gb229 ∧ k_ ≠ gb230 ∧ k_ ≠ gb232)) (okp := (fun k_ => some k_ ≠ (.slice Ao99 y233.length co99 : Value).ownBlock ∧ some k_ ≠ (.slice (some ad278) y242.length co95 : Value).ownBlock ∧ some k_ ≠ (.slice Ao97 y251.length co97 : Value).ownBlock ∧ some k_ ≠ (.slice Ao102 t254.length co102 : Value).ownBlock ∧ some k_ ≠ (.slice Ao104 t258.length co104 : Value).ownBlock ∧ some k_ ≠ (v268 : Value).ownBlock ∧ some k_ ≠ (v272 : Value).ownBlock ∧ some k_ ≠ (v276 : Value).ownBlock ∧ k_ ≠ gb228 ∧ k_ ≠ gb229 ∧ k_ ≠ gb230 ∧ k_ ≠ gb232)) ?hr ?hp (fun _ hk => hk) ((show ∀ k_, w106.heap.size ≤ k_ → (fun k_ => some k_ ≠ (.slice Ao99 y233.length co99 : Value).ownBlock ∧ some k_ ≠ (.slice (some ad278) y242.length co95 : Value).ownBlock ∧ some k_ ≠ (.slice Ao97 y251.length co97 : Value).ownBlock ∧ some k_ ≠ (.slice Ao102 t254.length co102 : Value).ownBlock ∧ some k_ ≠ (.slice Ao104 t258.length co104 : Value).ownBlock ∧ some k_ ≠ (v268 : Value).ownBlock ∧ some k_ ≠ (v272 : Value).ownBlock ∧ some k_ ≠ (v276 : Value).ownBlock ∧ k_ ≠ gb228 ∧ k_ ≠ gb229 ∧ k_ ≠ gb230 ∧ k_ ≠ gb232) k_ from fun k_ hk => ⟨Kd.fresh' (Kd.R_lt (by (with_reducible repeat (first | apply Kd.R_alloc | apply Kd.R_drewN | apply Kd.R_drew)); exact HO235.out)) k_ hk, Kd.fresh' (Kd.N_lt (by (with_reducible repeat (first | apply Kd.N_alloc | apply Kd.N_drewN | apply Kd.N_drew)); exact HO244.out)) k_ hk, Kd.fresh' (Kd.N_lt (by (with_reducible repeat (first | apply Kd.N_alloc | apply Kd.N_drewN | apply Kd.N_drew)); exact HO253.out)) k_ hk, Kd.fresh' (Kd.R_lt (by (with_reducible repeat (first | apply Kd.R_alloc | apply Kd.R_drewN | apply Kd.R_drew)); exact HO257.out)) k_ hk, Kd.fresh' (Kd.R_lt (by (with_reducible repeat (first | apply Kd.R_alloc | apply Kd.R_drewN | apply Kd.R_drew)); exact HO261.out)) k_ hk, Kd.fresh' (Kd.R_lt (by (with_reducible repeat (first | apply Kd.R_alloc | apply Kd.R_drewN | apply Kd.R_drew)); exact HO269.out)) k_ hk, Kd.fresh' (Kd.R_lt (by (with_reducible repeat (first | apply Kd.R_alloc | apply Kd.R_drewN | apply Kd.R_drew)); exact HO273.out)) k_ hk, Kd.fresh' (Kd.R_lt (by (with_reducible repeat (first | apply Kd.R_alloc | apply Kd.R_drewN | apply Kd.R_drew)); exact HO277.out)) k_ hk, Kd.freshB (g := gb228) (o := .cells #[.int .i64 2, .int .i64 0, .string t226] 25 (0, 0)) (by (with_reducible repeat (first | refine blk_drewN ?_ _ | refine blk_drew ?_ | refine blk_alloc ?_ _)); exact BK228.out) k_ hk, Kd.freshB (g := gb229) (o := .cells #[.int .i64 1, .int .i64 1, .string (⟨#[]⟩ : ByteArray)] 25 (0, 0)) (by (with_reducible repeat (first | refine blk_drewN ?_ _ | refine blk_drew ?_ | refine blk_alloc ?_ _)); exact BK229.out) k_ hk, Kd.freshB (g := gb230) (o := .cells #[.int .i64 3, .int .i64 1, .string (⟨#[]⟩ : ByteArray)] 25 (0, 0)) (by (with_reducible repeat (first | refine blk_drewN ?_ _ | refine blk_drew ?_ | refine blk_alloc ?_ _)); exact BK230.out) k_ hk, Kd.freshB (g := gb232) (o := .cells #[.int .i64 1, .int .i64 t231, .string (⟨#[]⟩ : ByteArray)] 25 (0, 0)) (by (with_reducible repeat (first | refine blk_drewN ?_ _ | refine blk_drew ?_ | refine blk_alloc ?_ _)); exact BK232.out) k_ hk⟩) _ (Nat.le_refl _)) (Below.refl _ _) (Nat.le_refl _) (by simp) ?_; (case hd => rfl); (case hg => rfl); (case hr => first | (go_simp; done) | (go_simp; rfl)); (case hp => exact (Reps.one (show Kd.FK (Kd.slice 25 k25) _ _ (rd_L3 y242 0) [.slice A278_0 (rd_L3 y242 0).length c278_0] from (Kd.FK_slice_mk (Kd.V_reads' (Kd.V_mono (ok' := (fun k_ => some k_ ≠ (.slice Ao99 y233.length co99 : Value).ownBlock ∧ some k_ ≠ (.slice (some ad278) y242.length co95 : Value).ownBlock ∧ some k_ ≠ (.slice Ao97 y251.length co97 : Value).ownBlock ∧ some k_ ≠ (.slice Ao102 t254.length co102 : Value).ownBlock ∧ some k_ ≠ (.slice Ao104 t258.length co104 : Value).ownBlock ∧ some k_ ≠ (v268 : Value).ownBlock ∧ some k_ ≠ (v272 : Value).ownBlock ∧ some k_ ≠ (v276 : Value).ownBlock ∧ k_ ≠ gb228 ∧ k_ ≠ gb229 ∧ k_ ≠ gb230 ∧ k_ ≠ gb232)) (HL278_0.out) (fun k_ hk => ⟨hk.1.1.1.1.1.1.1.1.1.1.1, ⟨hk.2, ⟨hk.1.1.1.1.1.1.1.2, ⟨hk.1.1.1.1.1.1.2, ⟨hk.1.1.1.1.1.2, ⟨hk.1.1.1.2, ⟨hk.1.1.2, ⟨hk.1.2, ⟨hk.1.1.1.1.1.1.1.1.1.1.2.1, ⟨hk.1.1.1.1.1.1.1.1.1.1.2.2.1, ⟨hk.1.1.1.1.1.1.1.1.1.1.2.2.2.1, hk.1.1.1.1.1.1.1.1.1.1.2.2.2.2⟩⟩⟩⟩⟩⟩⟩⟩⟩⟩⟩))).2.1 (Kd.V_F (Kd.V_mono (ok' := (fun k_ => some k_ ≠ (.slice Ao99 y233.length co99 : Value).ownBlock ∧ some k_ ≠ (.slice (some ad278) y242.length co95 : Value).ownBlock ∧ some k_ ≠ (.slice Ao97 y251.length co97 : Value).ownBlock ∧ some k_ ≠ (.slice Ao102 t254.length co102 : Value).ownBlock ∧ some k_ ≠ (.slice Ao104 t258.length co104 : Value).ownBlock ∧ some k_ ≠ (v268 : Value).ownBlock ∧ some k_ ≠ (v272 : Value).ownBlock ∧ some k_ ≠ (v276 : Value).ownBlock ∧ k_ ≠ gb228 ∧ k_ ≠ gb229 ∧ k_ ≠ gb230 ∧ k_ ≠ gb232)) (HL278_0.out) (fun k_ hk => ⟨hk.1.1.1.1.1.1.1.1.1.1.1, ⟨hk.2, ⟨hk.1.1.1.1.1.1.1.2, ⟨hk.1.1.1.1.1.1.2, ⟨hk.1.1.1.1.1.2, ⟨hk.1.1.1.2, ⟨hk.1.1.2, ⟨hk.1.2, ⟨hk.1.1.1.1.1.1.1.1.1.1.2.1, ⟨hk.1.1.1.1.1.1.1.1.1.1.2.2.1, ⟨hk.1.1.1.1.1.1.1.1.1.1.2.2.2.1, hk.1.1.1.1.1.1.1.1.1.1.2.2.2.2⟩⟩⟩⟩⟩⟩⟩⟩⟩⟩⟩))))) (Reps.one (show Kd.FK (Kd.slice 25 k25) _ _ (rd_L3 y242 1) [.slice A279_0 (rd_L3 y242 1).length c279_0] from (Kd.FK_slice_mk (Kd.V_reads' (Kd.V_mono (ok' := (fun k_ => some k_ ≠ (.slice Ao99 y233.length co99 : Value).ownBlock ∧ some k_ ≠ (.slice (some ad278) y242.length co95 : Value).ownBlock ∧ some k_ ≠ (.slice Ao97 y251.length co97 : Value).ownBlock ∧ some k_ ≠ (.slice Ao102 t254.length co102 : Value).ownBlock ∧ some k_ ≠ (.slice Ao104 t258.length co104 : Value).ownBlock ∧ some k_ ≠ (v268 : Value).ownBlock ∧ some k_ ≠ (v272 : Value).ownBlock ∧ some k_ ≠ (v276 : Value).ownBlock ∧ k_ ≠ gb228 ∧ k_ ≠ gb229 ∧ k_ ≠ gb230 ∧ k_ ≠ gb232)) (HL279_0.out) (fun k_ hk => ⟨hk.1.1.1.1.1.1.1.1.1.1.1, ⟨hk.2, ⟨hk.1.1.1.1.1.1.1.2, ⟨hk.1.1.1.1.1.1.2, ⟨hk.1.1.1.1.1.2, ⟨hk.1.1.1.2, ⟨hk.1.1.2, ⟨hk.1.2, ⟨hk.1.1.1.1.1.1.1.1.1.1.2.1, ⟨hk.1.1.1.1.1.1.1.1.1.1.2.2.1, ⟨hk.1.1.1.1.1.1.1.1.1.1.2.2.2.1, hk.1.1.1.1.1.1.1.1.1.1.2.2.2.2⟩⟩⟩⟩⟩⟩⟩⟩⟩⟩⟩))).2.1 (Kd.V_F (Kd.V_mono (ok' := (fun k_ => some k_ ≠ (.slice Ao99 y233.length co99 : Value).ownBlock ∧ some k_ ≠ (.slice (some ad278) y242.length co95 : Value).ownBlock ∧ some k_ ≠ (.slice Ao97 y251.length co97 : Value).ownBlock ∧ some k_ ≠ (.slice Ao102 t254.length co102 : Value).ownBlock ∧ some k_ ≠ (.slice Ao104 t258.length co104 : Value).ownBlock ∧ some k_ ≠ (v268 : Value).ownBlock ∧ some k_ ≠ (v272 : Value).ownBlock ∧ some k_ ≠ (v276 : Value).ownBlock ∧ k_ ≠ gb228 ∧ k_ ≠ gb229 ∧ k_ ≠ gb230 ∧ k_ ≠ gb232)) (HL279_0.out) (fun k_ hk => ⟨hk.1.1.1.1.1.1.1.1.1.1.1, ⟨hk.2, ⟨hk.1.1.1.1.1.1.1.2, ⟨hk.1.1.1.1.1.1.2, ⟨hk.1.1.1.1.1.2, ⟨hk.1.1.1.2, ⟨hk.1.1.2, ⟨hk.1.2, ⟨hk.1.1.1.1.1.1.1.1.1.1.2.1, ⟨hk.1.1.1.1.1.1.1.1.1.1.2.2.1, ⟨hk.1.1.1.1.1.1.1.1.1.1.2.2.2.1, hk.1.1.1.1.1.1.1.1.1.1.2.2.2.2⟩⟩⟩⟩⟩⟩⟩⟩⟩⟩⟩))))) (Reps.one (show Kd.FK (Kd.slice 25 k25) _ _ t262 [.slice Ao107 t262.length co107] from (Kd.FK_slice_mk (Kd.R_reads' (Kd.R_mono (ok' := (fun k_ => some k_ ≠ (.slice Ao99 y233.length co99 : Value).ownBlock ∧ some k_ ≠ (.slice (some ad278) y242.length co95 : Value).ownBlock ∧ some k_ ≠ (.slice Ao97 y251.length co97 : Value).ownBlock ∧ some k_ ≠ (.slice Ao102 t254.length co102 : Value).ownBlock ∧ some k_ ≠ (.slice Ao104 t258.length co104 : Value).ownBlock ∧ some k_ ≠ (v268 : Value).ownBlock ∧ some k_ ≠ (v272 : Value).ownBlock ∧ some k_ ≠ (v276 : Value).ownBlock ∧ k_ ≠ gb228 ∧ k_ ≠ gb229 ∧ k_ ≠ gb230 ∧ k_ ≠ gb232)) (Kd.R_apart' (Kd.R_apart' (HO265.out) (Kd.N_typed HO244.out) (by decide)) (Kd.N_typed HO253.out) (by decide)) (fun k_ hk => ⟨hk.1.1.1.1.1.1.1.1.1.1.1.2, ⟨hk.1.2, ⟨hk.2, ⟨hk.1.1.1.1.1.1.1.1.1.1.2, ⟨hk.1.1.1.1.1.1.1.1.1.2, ⟨hk.1.1.1.1.2, ⟨hk.1.1.1.2, ⟨hk.1.1.2, ⟨hk.1.1.1.1.1.1.1.1.2, ⟨hk.1.1.1.1.1.1.1.2, ⟨hk.1.1.1.1.1.1.2, hk.1.1.1.1.1.2⟩⟩⟩⟩⟩⟩⟩⟩⟩⟩⟩))).2.1 (Kd.R_F (Kd.R_mono (ok' := (fun k_ => some k_ ≠ (.slice Ao99 y233.length co99 : Value).ownBlock ∧ some k_ ≠ (.slice (some ad278) y242.length co95 : Value).ownBlock ∧ some k_ ≠ (.slice Ao97 y251.length co97 : Value).ownBlock ∧ some k_ ≠ (.slice Ao102 t254.length co102 : Value).ownBlock ∧ some k_ ≠ (.slice Ao104 t258.length co104 : Value).ownBlock ∧ some k_ ≠ (v268 : Value).ownBlock ∧ some k_ ≠ (v272 : Value).ownBlock ∧ some k_ ≠ (v276 : Value).ownBlock ∧ k_ ≠ gb228 ∧ k_ ≠ gb229 ∧ k_ ≠ gb230 ∧ k_ ≠ gb232)) (Kd.R_apart' (Kd.R_apart' (HO265.out) (Kd.N_typed HO244.out) (by decide)) (Kd.N_typed HO253.out) (by decide)) (fun k_ hk => ⟨hk.1.1.1.1.1.1.1.1.1.1.1.2, ⟨hk.1.2, ⟨hk.2, ⟨hk.1.1.1.1.1.1.1.1.1.1.2, ⟨hk.1.1.1.1.1.1.1.1.1.2, ⟨hk.1.1.1.1.2, ⟨hk.1.1.1.2, ⟨hk.1.1.2, ⟨hk.1.1.1.1.1.1.1.1.2, ⟨hk.1.1.1.1.1.1.1.2, ⟨hk.1.1.1.1.1.1.2, hk.1.1.1.1.1.2⟩⟩⟩⟩⟩⟩⟩⟩⟩⟩⟩))))) (Reps.none _ _)))))
                              intro v281 w108 ho109 hb hg_ hnew_
                              have HS0_ := (hb.cell (World.block_lt_of_cell? _ _ (hHeld.1))).trans (hHeld.1)
                              have HS1_ := (hb.cell (World.block_lt_of_cell? _ _ (hHeld.2))).trans (hHeld.2)
                              clear hg_ hnew_
                              (first | rw [← Ny280.out] at ho109 | (simp only [Int.reduceToNat] at ho109; rw [← Ny280.out] at ho109))
                              have n0_ := Aside0.mk (Kd.R_below (by (with_reducible repeat (first | apply Kd.R_alloc | apply Kd.R_drewN | apply Kd.R_drew)); exact HO235.out) hb)
                              have n1_ := Aside0.mk (Kd.N_elder' (by (with_reducible repeat (first | apply Kd.N_alloc | apply Kd.N_drewN | apply Kd.N_drew)); exact HO244.out) (Kd.N_base ho109) hb)
                              have n2_ := Aside0.mk (Kd.N_elder' (by (with_reducible repeat (first | apply Kd.N_alloc | apply Kd.N_drewN | apply Kd.N_drew)); exact HO253.out) (Kd.N_base ho109) hb)
                              have n3_ := Aside0.mk (Kd.R_below (by (with_reducible repeat (first | apply Kd.R_alloc | apply Kd.R_drewN | apply Kd.R_drew)); exact HO257.out) hb)
                              have n4_ := Aside0.mk (Kd.R_below (by (with_reducible repeat (first | apply Kd.R_alloc | apply Kd.R_drewN | apply Kd.R_drew)); exact HO261.out) hb)
                              have n5_ := Aside0.mk (Kd.R_below (by (with_reducible repeat (first | apply Kd.R_alloc | apply Kd.R_drewN | apply Kd.R_drew)); exact HO269.out) hb)
                              have n6_ := Aside0.mk (Kd.R_below (by (with_reducible repeat (first | apply Kd.R_alloc | apply Kd.R_drewN | apply Kd.R_drew)); exact HO273.out) hb)
                              have n7_ := Aside0.mk (Kd.R_below (by (with_reducible repeat (first | apply Kd.R_alloc | apply Kd.R_drewN | apply Kd.R_drew)); exact HO277.out) hb)
                              have n8_ := Aside0.mk (Kd.V_elder' (by (with_reducible repeat (first | apply Kd.V_alloc | apply Kd.V_drewN | apply Kd.V_drew)); exact HL278_0.out) (Kd.N_base ho109) hb)
                              have n9_ := Aside0.mk (Kd.V_elder' (by (with_reducible repeat (first | apply Kd.V_alloc | apply Kd.V_drewN | apply Kd.V_drew)); exact HL279_0.out) (Kd.N_base ho109) hb)
                              have n10_ := Aside0.mk (Kd.N_lower ho109 (below_size (by repeat (first | (with_reducible first | exact HB.out | apply below_alloc | apply pw_below_drewN | apply below_drew1 | refine below_set ?_ GE228.out | refine below_set ?_ GE229.out | refine below_set ?_ GE230.out | refine below_set ?_ GE232.out) | exact HB.out))))
                              have n11_ := Aside0.mk (blk_below (g := gb228) (o := .cells #[.int .i64 2, .int .i64 0, .string t226] 25 (0, 0)) (by (with_reducible repeat (first | refine blk_drewN ?_ _ | refine blk_drew ?_ | refine blk_alloc ?_ _)); exact BK228.out) hb)
                              have n12_ := Aside0.mk (blk_below (g := gb229) (o := .cells #[.int .i64 1, .int .i64 1, .string (⟨#[]⟩ : ByteArray)] 25 (0, 0)) (by (with_reducible repeat (first | refine blk_drewN ?_ _ | refine blk_drew ?_ | refine blk_alloc ?_ _)); exact BK229.out) hb)
                              have n13_ := Aside0.mk (blk_below (g := gb230) (o := .cells #[.int .i64 3, .int .i64 1, .string (⟨#[]⟩ : ByteArray)] 25 (0, 0)) (by (with_reducible repeat (first | refine blk_drewN ?_ _ | refine blk_drew ?_ | refine blk_alloc ?_ _)); exact BK230.out) hb)
                              have n14_ := Aside0.mk (blk_below (g := gb232) (o := .cells #[.int .i64 1, .int .i64 t231, .string (⟨#[]⟩ : ByteArray)] 25 (0, 0)) (by (with_reducible repeat (first | refine blk_drewN ?_ _ | refine blk_drew ?_ | refine blk_alloc ?_ _)); exact BK232.out) hb)
                              have n15_ := Aside0.mk (Kd.C_below (by repeat (first | (with_reducible exact HR278_0.out) | (with_reducible refine Kd.C_alloc ?_ _) | (with_reducible refine Kd.C_drewN ?_ _) | (with_reducible refine Kd.C_drew ?_) | exact HR278_0.out)) hb)
                              have n15k1_ := Aside0.mk (Kd.C_below (by repeat (first | (with_reducible exact Rk1.out) | (with_reducible refine Kd.C_alloc ?_ _) | (with_reducible refine Kd.C_drewN ?_ _) | (with_reducible refine Kd.C_drew ?_) | exact Rk1.out)) hb)
                              have n16_ := Aside0.mk (Kd.C_below (by repeat (first | (with_reducible exact HR279_0.out) | (with_reducible refine Kd.C_alloc ?_ _) | (with_reducible refine Kd.C_drewN ?_ _) | (with_reducible refine Kd.C_drew ?_) | exact HR279_0.out)) hb)
                              have n17_ := Aside0.mk (below_step (by repeat (first | (with_reducible first | exact HB.out | apply below_alloc | apply pw_below_drewN | apply below_drew1 | refine below_set ?_ GE228.out | refine below_set ?_ GE229.out | refine below_set ?_ GE230.out | refine below_set ?_ GE232.out) | exact HB.out)) hb)
                              clear HO235
                              clear HO244
                              clear HO253
                              clear HO257
                              clear HO261
                              clear HO269
                              clear HO273
                              clear HO277
                              clear HL278_0
                              clear HL279_0
                              clear BK228
                              clear BK229
                              clear BK230
                              clear BK232
                              clear HR278_0
                              clear Rk1
                              clear HR279_0
                              clear HB
                              clear HO265
                              have HO235 := n0_
                              have HO244 := n1_
                              have HO253 := n2_
                              have HO257 := n3_
                              have HO261 := n4_
                              have HO269 := n5_
                              have HO273 := n6_
                              have HO277 := n7_
                              have HL278_0 := n8_
                              have HL279_0 := n9_
                              have HO282 := n10_
                              have BK228 := n11_
                              have BK229 := n12_
                              have BK230 := n13_
                              have BK232 := n14_
                              have HR278_0 := n15_
                              have Rk1 := n15k1_
                              clear n15k1_
                              have HR279_0 := n16_
                              have HB := n17_
                              clear n0_ n1_ n2_ n3_ n4_ n5_ n6_ n7_ n8_ n9_ n10_ n11_ n12_ n13_ n14_ n15_ n16_ n17_
                              clear hb ho109
                              obtain ⟨Ao110, co110, eo110⟩ := Kd.N_slice HO282.out
                              (first | subst eo110 | (injection eo110 with f1_ f2_ f3_; have f4_ := f1_.symm; have f5_ := f3_.symm; clear f1_ f2_ f3_; subst f4_; subst f5_))
                              refine hK.out _ _ ⟨HS0_, HS1_⟩ (fun hHeld => ?_)
                              clear hK K
                              refine norm_ (a' := ?_) ?_ ?_
                              rotate_left
                              ·show Act.put _ (some 121) _ = _
                               simp only [Act.put, List.setIfInBounds_toArray, List.set_cons_zero, List.set_cons_succ, i64_w, i32_w]
                               rfl
                              refine one_ (i := 8) (N := some 122) #[true, true, true, true, true, true, true, true, true, false, false, false, false, false] rfl rfl (one_of HT_.out (by kernel_rfl)) (by decide) (fun K hK => ?_)
                              refine goes_ Tryd.func14 (by kernel_rfl) rfl #[.string (⟨#[97, 98, 99]⟩ : ByteArray), .slice Ao110 y280.length co110] (by rfl) rfl rfl (by (try simp only [List.map_toArray, List.map_cons, List.map_nil]); first | done | rfl | (simp only [List.length_drop, List.length_take]; rfl)) ?_
                              with_reducible refine (apply_All.calls k (⟨#[97, 98, 99]⟩ : ByteArray) _ _ y280 t283 t284 _ ?side1 ?side2 ?side3 A23.out).mono ?_
                              (case side1 => repeat (first | exact (Kd.N_reads' HO282.out).2.2 | (with_reducible refine Kd.C_alloc ?_ _) | (with_reducible refine Kd.C_drewN ?_ _) | (with_reducible refine Kd.C_drew ?_)))
                              (case side2 => exact (Kd.N_reads' HO282.out).2.1)
                              (case side3 => exact Tabs.below HT.out (by repeat (first | (with_reducible first | exact HB.out | apply below_alloc | apply pw_below_drewN | apply below_drew1 | refine below_set ?_ GE228.out | refine below_set ?_ GE229.out | refine below_set ?_ GE230.out | refine below_set ?_ GE232.out) | exact HB.out)))
                              rintro e w111 ⟨rfl, hb⟩
                              have HS0_ := (hb.cell (World.block_lt_of_cell? _ _ (hHeld.1))).trans (hHeld.1)
                              have HS1_ := (hb.cell (World.block_lt_of_cell? _ _ (hHeld.2))).trans (hHeld.2)
                              refine ⟨_, rfl, ?_⟩
                              have n0_ := Aside0.mk (Kd.R_below (by (with_reducible repeat (first | apply Kd.R_alloc | apply Kd.R_drewN | apply Kd.R_drew)); exact HO235.out) hb)
                              have n1_ := Aside0.mk (Kd.N_below (by (with_reducible repeat (first | apply Kd.N_alloc | apply Kd.N_drewN | apply Kd.N_drew)); exact HO244.out) hb)
                              have n2_ := Aside0.mk (Kd.N_below (by (with_reducible repeat (first | apply Kd.N_alloc | apply Kd.N_drewN | apply Kd.N_drew)); exact HO253.out) hb)
                              have n3_ := Aside0.mk (Kd.R_below (by (with_reducible repeat (first | apply Kd.R_alloc | apply Kd.R_drewN | apply Kd.R_drew)); exact HO257.out) hb)
                              have n4_ := Aside0.mk (Kd.R_below (by (with_reducible repeat (first | apply Kd.R_alloc | apply Kd.R_drewN | apply Kd.R_drew)); exact HO261.out) hb)
                              have n5_ := Aside0.mk (Kd.R_below (by (with_reducible repeat (first | apply Kd.R_alloc | apply Kd.R_drewN | apply Kd.R_drew)); exact HO269.out) hb)
                              have n6_ := Aside0.mk (Kd.R_below (by (with_reducible repeat (first | apply Kd.R_alloc | apply Kd.R_drewN | apply Kd.R_drew)); exact HO273.out) hb)
                              have n7_ := Aside0.mk (Kd.R_below (by (with_reducible repeat (first | apply Kd.R_alloc | apply Kd.R_drewN | apply Kd.R_drew)); exact HO277.out) hb)
                              have n8_ := Aside0.mk (Kd.V_below (by (with_reducible repeat (first | apply Kd.V_alloc | apply Kd.V_drewN | apply Kd.V_drew)); exact HL278_0.out) hb)
                              have n9_ := Aside0.mk (Kd.V_below (by (with_reducible repeat (first | apply Kd.V_alloc | apply Kd.V_drewN | apply Kd.V_drew)); exact HL279_0.out) hb)
                              have n10_ := Aside0.mk (Kd.N_below (by (with_reducible repeat (first | apply Kd.N_alloc | apply Kd.N_drewN | apply Kd.N_drew)); exact HO282.out) hb)
                              have n11_ := Aside0.mk (blk_below (g := gb228) (o := .cells #[.int .i64 2, .int .i64 0, .string t226] 25 (0, 0)) (by (with_reducible repeat (first | refine blk_drewN ?_ _ | refine blk_drew ?_ | refine blk_alloc ?_ _)); exact BK228.out) hb)
                              have n12_ := Aside0.mk (blk_below (g := gb229) (o := .cells #[.int .i64 1, .int .i64 1, .string (⟨#[]⟩ : ByteArray)] 25 (0, 0)) (by (with_reducible repeat (first | refine blk_drewN ?_ _ | refine blk_drew ?_ | refine blk_alloc ?_ _)); exact BK229.out) hb)
                              have n13_ := Aside0.mk (blk_below (g := gb230) (o := .cells #[.int .i64 3, .int .i64 1, .string (⟨#[]⟩ : ByteArray)] 25 (0, 0)) (by (with_reducible repeat (first | refine blk_drewN ?_ _ | refine blk_drew ?_ | refine blk_alloc ?_ _)); exact BK230.out) hb)
                              have n14_ := Aside0.mk (blk_below (g := gb232) (o := .cells #[.int .i64 1, .int .i64 t231, .string (⟨#[]⟩ : ByteArray)] 25 (0, 0)) (by (with_reducible repeat (first | refine blk_drewN ?_ _ | refine blk_drew ?_ | refine blk_alloc ?_ _)); exact BK232.out) hb)
                              have n15_ := Aside0.mk (Kd.C_below (by repeat (first | (with_reducible exact HR278_0.out) | (with_reducible refine Kd.C_alloc ?_ _) | (with_reducible refine Kd.C_drewN ?_ _) | (with_reducible refine Kd.C_drew ?_) | exact HR278_0.out)) hb)
                              have n15k1_ := Aside0.mk (Kd.C_below (by repeat (first | (with_reducible exact Rk1.out) | (with_reducible refine Kd.C_alloc ?_ _) | (with_reducible refine Kd.C_drewN ?_ _) | (with_reducible refine Kd.C_drew ?_) | exact Rk1.out)) hb)
                              have n16_ := Aside0.mk (Kd.C_below (by repeat (first | (with_reducible exact HR279_0.out) | (with_reducible refine Kd.C_alloc ?_ _) | (with_reducible refine Kd.C_drewN ?_ _) | (with_reducible refine Kd.C_drew ?_) | exact HR279_0.out)) hb)
                              have n17_ := Aside0.mk (below_step (by repeat (first | (with_reducible first | exact HB.out | apply below_alloc | apply pw_below_drewN | apply below_drew1 | refine below_set ?_ GE228.out | refine below_set ?_ GE229.out | refine below_set ?_ GE230.out | refine below_set ?_ GE232.out) | exact HB.out)) hb)
                              clear HO235
                              clear HO244
                              clear HO253
                              clear HO257
                              clear HO261
                              clear HO269
                              clear HO273
                              clear HO277
                              clear HL278_0
                              clear HL279_0
                              clear HO282
                              clear BK228
                              clear BK229
                              clear BK230
                              clear BK232
                              clear HR278_0
                              clear Rk1
                              clear HR279_0
                              clear HB
                              have HO235 := n0_
                              have HO244 := n1_
                              have HO253 := n2_
                              have HO257 := n3_
                              have HO261 := n4_
                              have HO269 := n5_
                              have HO273 := n6_
                              have HO277 := n7_
                              have HL278_0 := n8_
                              have HL279_0 := n9_
                              have HO282 := n10_
                              have BK228 := n11_
                              have BK229 := n12_
                              have BK230 := n13_
                              have BK232 := n14_
                              have HR278_0 := n15_
                              have Rk1 := n15k1_
                              clear n15k1_
                              have HR279_0 := n16_
                              have HB := n17_
                              clear n0_ n1_ n2_ n3_ n4_ n5_ n6_ n7_ n8_ n9_ n10_ n11_ n12_ n13_ n14_ n15_ n16_ n17_
                              (try clear hb)
                              (try clear hb2)
                              (try clear hk)
                              (try clear hi)
                              refine hK.out _ _ ⟨HS0_, HS1_⟩ (fun hHeld => ?_)
                              clear hK K
                              refine norm_ (a' := ?_) ?_ ?_
                              rotate_left
                              ·show Act.put _ (some 122) _ = _
                               simp only [Act.put, List.setIfInBounds_toArray, List.set_cons_zero, List.set_cons_succ, i64_w, i32_w]
                               rfl
                              refine pure_ (i := 9) (N := some 113) (v := ?_) (a' := ?_) #[true, true, true, true, true, true, true, true, true, true, false, false, false, false] rfl rfl (any_of HT_.out (by kernel_rfl)) (fun _ _ _ h => h) (Or.inl ⟨by rfl, ?_⟩) ?_ ?_
                              rotate_left
                              ·intro w'
                               go_simp
                               with_reducible rfl
                              rotate_left
                              ·simp only [Act.put, List.setIfInBounds_toArray, List.set_cons_zero, List.set_cons_succ, i64_w, i32_w]
                               rfl
                              refine pure_ (i := 10) (N := some 123) (v := ?_) (a' := ?_) #[true, true, true, true, true, true, true, true, true, true, true, false, false, false] rfl rfl (any_of HT_.out (by kernel_rfl)) (fun _ _ _ h => h) (Or.inl ⟨by rfl, ?_⟩) ?_ ?_
                              rotate_left
                              ·intro w'
                               go_simp
                               with_reducible rfl
                              rotate_left
                              ·simp only [Act.put, List.setIfInBounds_toArray, List.set_cons_zero, List.set_cons_succ, i64_w, i32_w]
                               rfl
                              refine pure_ (i := 11) (N := some 124) (v := ?_) (a' := ?_) #[true, true, true, true, true, true, true, true, true, true, true, true, false, false] rfl rfl (any_of HT_.out (by kernel_rfl)) (fun _ _ _ h => h) (Or.inl ⟨by rfl, ?_⟩) ?_ ?_
                              rotate_left
                              ·intro w'
                               go_simp
                               with_reducible rfl
                              rotate_left
                              ·simp only [Act.put, List.setIfInBounds_toArray, List.set_cons_zero, List.set_cons_succ, i64_w, i32_w]
                               rfl
                              refine pure_ (i := 12) (N := some 27) (v := ?_) (a' := ?_) #[true, true, true, true, true, true, true, true, true, true, true, true, true, false] rfl rfl (any_of HT_.out (by kernel_rfl)) (fun _ _ _ h => h) (Or.inl ⟨by rfl, ?_⟩) ?_ ?_
                              rotate_left
                              ·intro w'
                               go_simp
                               with_reducible rfl
                              rotate_left
                              ·simp only [Act.put, List.setIfInBounds_toArray, List.set_cons_zero, List.set_cons_succ, i64_w, i32_w]
                               rfl
                              refine pure_ (i := 13) (N := some 28) (v := ?_) (a' := ?_) #[true, true, true, true, true, true, true, true, true, true, true, true, true, true] rfl rfl (any_of HT_.out (by kernel_rfl)) (fun _ _ _ h => h) (Or.inl ⟨by rfl, ?_⟩) ?_ ?_
                              rotate_left
                              ·intro w'
                               go_simp
                               with_reducible rfl
                              rotate_left
                              ·simp only [Act.put, List.setIfInBounds_toArray, List.set_cons_zero, List.set_cons_succ, i64_w, i32_w]
                               rfl
                              refine done_ (done_of HT_.out (by kernel_rfl)) ?_
                              try go_wp2
                              have n0_ := Aside0.mk (Kd.R_drew HO235.out)
                              have n1_ := Aside0.mk (Kd.N_drew HO244.out)
                              have n2_ := Aside0.mk (Kd.N_drew HO253.out)
                              have n3_ := Aside0.mk (Kd.R_drew HO257.out)
                              have n4_ := Aside0.mk (Kd.R_drew HO261.out)
                              have n5_ := Aside0.mk (Kd.R_drew HO269.out)
                              have n6_ := Aside0.mk (Kd.R_drew HO273.out)
                              have n7_ := Aside0.mk (Kd.R_drew HO277.out)
                              have n8_ := Aside0.mk (Kd.V_drew HL278_0.out)
                              have n9_ := Aside0.mk (Kd.V_drew HL279_0.out)
                              have n10_ := Aside0.mk (Kd.N_drew HO282.out)
                              have n11_ := Aside0.mk (blk_drew BK228.out)
                              have n12_ := Aside0.mk (blk_drew BK229.out)
                              have n13_ := Aside0.mk (blk_drew BK230.out)
                              have n14_ := Aside0.mk (blk_drew BK232.out)
                              have n15_ := Aside0.mk (Kd.C_drew HR278_0.out)
                              have n15k1_ := Aside0.mk (Kd.C_drew Rk1.out)
                              have n16_ := Aside0.mk (Kd.C_drew HR279_0.out)
                              have n17_ := Aside0.mk (below_drew1 HB.out)
                              clear HO235
                              clear HO244
                              clear HO253
                              clear HO257
                              clear HO261
                              clear HO269
                              clear HO273
                              clear HO277
                              clear HL278_0
                              clear HL279_0
                              clear HO282
                              clear BK228
                              clear BK229
                              clear BK230
                              clear BK232
                              clear HR278_0
                              clear Rk1
                              clear HR279_0
                              clear HB
                              have HO235 := n0_
                              have HO244 := n1_
                              have HO253 := n2_
                              have HO257 := n3_
                              have HO261 := n4_
                              have HO269 := n5_
                              have HO273 := n6_
                              have HO277 := n7_
                              have HL278_0 := n8_
                              have HL279_0 := n9_
                              have HO282 := n10_
                              have BK228 := n11_
                              have BK229 := n12_
                              have BK230 := n13_
                              have BK232 := n14_
                              have HR278_0 := n15_
                              have Rk1 := n15k1_
                              clear n15k1_
                              have HR279_0 := n16_
                              have HB := n17_
                              clear n0_ n1_ n2_ n3_ n4_ n5_ n6_ n7_ n8_ n9_ n10_ n11_ n12_ n13_ n14_ n15_ n16_ n17_
                              have p285 : 0 ≤ (0 : Int) := (by omega)
                              have q285 : 0 < (y251.length : Int) := of_decide_eq_true (by first | (with_reducible assumption) | assumption)
                              obtain ⟨ad285, A285_0, c285_0, e285, hx285_0, hl285_0, hi285_0⟩ := at_L3 (Kd.N_reads' HO253.out).2.2 0 p285 q285
                              cases e285
                              obtain ⟨ce285, hce285, hMe285, hcc285⟩ := Kd.N_get HO253.out [] 0 p285 (by first | exact q285 | exact of_decide_eq_true (by first | (with_reducible assumption) | assumption) | (have e_ := (Kd.N_reads' HO253.out).1; omega))
                              obtain ⟨ua285_0, uc285_0, rfl, ul285_0, ge285_0⟩ := Kd.FK_slice_open hMe285
                              have hv285_0 := hcc285 0 _ rfl
                              rw [Nat.add_zero, show ((Kd.slice 25 k25)).sz = 1 from rfl, Nat.mul_one] at hv285_0
                              replace hv285_0 := Option.some.inj (hv285_0.symm.trans hx285_0)
                              injection hv285_0 with hva_ hvn_ hvc_
                              rw [hva_] at ge285_0
                              rw [hvc_] at ul285_0
                              have HL285_0 := Aside0.mk (show Kd.V k25 25 _ w.heap.size _ _ (rd_L3 y251 0) from Kd.V_mk ul285_0 ge285_0)
                              clear hva_ hvn_ hvc_ ge285_0 ul285_0
                              clear hcc285 hce285
                              have qi285 : (0 < y251.length) = True := eq_true (by omega)
                              (try rw [show ((0 : Int)).toNat = 0 from rfl] at hx285_0)
                              (try rw [Addr.add_zero'] at hx285_0)
                              have HR285_0 := Aside0.mk hi285_0
                              have HC285_0 := Aside0.mk hl285_0
                              clear hi285_0 hl285_0
                              replace p285 := eq_true p285
                              replace q285 := eq_true q285
                              have p286 : 0 ≤ (1 : Int) := (by omega)
                              have q286 : 1 < (y251.length : Int) := of_decide_eq_true (by first | (with_reducible assumption) | assumption)
                              obtain ⟨ad286, A286_0, c286_0, e286, hx286_0, hl286_0, hi286_0⟩ := at_L3 (Kd.N_reads' HO253.out).2.2 1 p286 q286
                              obtain rfl : ad285 = ad286 := (by injection e286)
                              obtain ⟨ce286, hce286, hMe286, hcc286⟩ := Kd.N_get HO253.out [] 1 p286 (by first | exact q286 | exact of_decide_eq_true (by first | (with_reducible assumption) | assumption) | (have e_ := (Kd.N_reads' HO253.out).1; omega))
                              obtain ⟨ua286_0, uc286_0, rfl, ul286_0, ge286_0⟩ := Kd.FK_slice_open hMe286
                              have hv286_0 := hcc286 0 _ rfl
                              rw [Nat.add_zero, show ((Kd.slice 25 k25)).sz = 1 from rfl, Nat.mul_one] at hv286_0
                              replace hv286_0 := Option.some.inj (hv286_0.symm.trans hx286_0)
                              injection hv286_0 with hva_ hvn_ hvc_
                              rw [hva_] at ge286_0
                              rw [hvc_] at ul286_0
                              have HL286_0 := Aside0.mk (show Kd.V k25 25 _ w.heap.size _ _ (rd_L3 y251 1) from Kd.V_mk ul286_0 ge286_0)
                              clear hva_ hvn_ hvc_ ge286_0 ul286_0
                              clear hcc286 hce286
                              (try simp only [show (1 : Int).toNat = 1 from rfl, Nat.reduceMul, Nat.reduceEqDiff, Go.Addr.add, ↓reduceIte] at hx286_0)
                              have qi286 : (1 < y251.length) = True := eq_true (by omega)
                              (try rw [show ((1 : Int)).toNat = 1 from rfl] at hx286_0)
                              have HR286_0 := Aside0.mk hi286_0
                              have HC286_0 := Aside0.mk hl286_0
                              clear hi286_0 hl286_0
                              replace p286 := eq_true p286
                              replace q286 := eq_true q286
                              obtain ⟨Ao113, co113, eo113⟩ := Kd.R_slice HO269.out
                              (first | subst eo113 | (injection eo113 with f1_ f2_ f3_; have f4_ := f1_.symm; have f5_ := f3_.symm; clear f1_ f2_ f3_; subst f4_; subst f5_))
                              refine start_ (n := 14) (S := fun w' => w'.cell? ad285 = some (.slice A285_0 (rd_L3 y251 0).length c285_0) ∧ w'.cell? ⟨ad285.block, ad285.off + 1, none⟩ = some (.slice A286_0 (rd_L3 y251 1).length c286_0)) (ds := []) #[false, false, false, false, false, false, false, false, false, false, false, false, false, false] (by kernel_rfl) rfl rfl ⟨hx285_0, hx286_0⟩ (fun hHeld => ?_); refine with_tabW epitometop_TopTie.tab18 epitometop_TopTie.bits18 (fun HT_ HW_ => ?_)
                              generalize w111.drew = w112 at HO235 HO244 HO253 HO257 HO261 HO269 HO273 HO277 HL278_0 HL279_0 HO282 BK228 BK229 BK230 BK232 HR278_0 Rk1 HR279_0 HB HL285_0 HL286_0 HR285_0 HR286_0 hx285_0 hx286_0 hHeld ⊢
                              have Rk2 := Aside0.mk (Kd.R_reads' HO269.out).2.2
                              have Lk2 := Aside0.mk (Kd.R_reads' HO269.out).2.1
                              refine pure_ (i := 0) (N := some 126) (v := ?_) (a' := ?_) #[true, false, false, false, false, false, false, false, false, false, false, false, false, false] rfl rfl (any_of HT_.out (by kernel_rfl)) (fun _ _ _ h => h) (Or.inl ⟨by rfl, ?_⟩) ?_ ?_
                              rotate_left
                              ·intro w'
                               go_simp
                               with_reducible rfl
                              rotate_left
                              ·simp only [Act.put, List.setIfInBounds_toArray, List.set_cons_zero, List.set_cons_succ, i64_w, i32_w]
                               rfl
                              refine pure_ (i := 1) (N := some 127) (v := ?_) (a' := ?_) #[true, true, false, false, false, false, false, false, false, false, false, false, false, false] rfl rfl (any_of HT_.out (by kernel_rfl)) (fun _ _ _ h => h) (Or.inl ⟨by rfl, ?_⟩) ?_ ?_
                              rotate_left
                              ·intro w'
                               go_simp
                               with_reducible rfl
                              rotate_left
                              ·simp only [Act.put, List.setIfInBounds_toArray, List.set_cons_zero, List.set_cons_succ, i64_w, i32_w]
                               rfl
                              refine pure_ (i := 3) (N := some 129) (v := ?_) (a' := ?_) #[true, true, false, true, false, false, false, false, false, false, false, false, false, false] rfl rfl (any_of HT_.out (by kernel_rfl)) (fun _ _ _ h => h) (Or.inl ⟨by rfl, ?_⟩) ?_ ?_
                              rotate_left
                              ·intro w'
                               go_simp
                               with_reducible rfl
                              rotate_left
                              ·simp only [Act.put, List.setIfInBounds_toArray, List.set_cons_zero, List.set_cons_succ, i64_w, i32_w]
                               rfl
                              refine pure_ (i := 4) (N := some 130) (v := ?_) (a' := ?_) #[true, true, false, true, true, false, false, false, false, false, false, false, false, false] rfl rfl (any_of HT_.out (by kernel_rfl)) (fun _ _ _ h => h) (Or.inl ⟨by rfl, ?_⟩) ?_ ?_
                              rotate_left
                              ·intro w'
                               go_simp
                               with_reducible rfl
                              rotate_left
                              ·simp only [Act.put, List.setIfInBounds_toArray, List.set_cons_zero, List.set_cons_succ, i64_w, i32_w]
                               rfl
                              refine pure_ (i := 6) (N := some 132) (v := ?_) (a' := ?_) #[true, true, false, true, true, false, true, false, false, false, false, false, false, false] rfl rfl (any_of HT_.out (by kernel_rfl)) (fun _ _ _ h => h) (Or.inl ⟨by rfl, ?_⟩) ?_ ?_
                              rotate_left
                              ·intro w'
                               go_simp
                               with_reducible rfl
                              rotate_left
                              ·simp only [Act.put, List.setIfInBounds_toArray, List.set_cons_zero, List.set_cons_succ, i64_w, i32_w]
                               rfl
                              refine take_ (i := 2) (N := some 128) (v := ?_) (a' := ?_) #[true, true, true, true, true, false, true, false, false, false, false, false, false, false] rfl rfl (take_ofW HT_.out HW_.out (by kernel_rfl)) (fun _ _ _ h => h) (Or.inl ⟨by rfl, ?_⟩) hHeld ?_ ?_
                              rotate_left
                              ·rintro w' ⟨s0, s1⟩
                               go_simp
                               with_reducible rfl
                              rotate_left
                              ·simp only [Act.put, List.setIfInBounds_toArray, List.set_cons_zero, List.set_cons_succ, i64_w, i32_w]
                               rfl
                              refine take_ (i := 5) (N := some 131) (v := ?_) (a' := ?_) #[true, true, true, true, true, true, true, false, false, false, false, false, false, false] rfl rfl (take_ofW HT_.out HW_.out (by kernel_rfl)) (fun _ _ _ h => h) (Or.inl ⟨by rfl, ?_⟩) hHeld ?_ ?_
                              rotate_left
                              ·rintro w' ⟨s0, s1⟩
                               go_simp
                               with_reducible rfl
                              rotate_left
                              ·simp only [Act.put, List.setIfInBounds_toArray, List.set_cons_zero, List.set_cons_succ, i64_w, i32_w]
                               rfl
                              refine one_ (i := 7) (N := some 133) #[true, true, true, true, true, true, true, true, false, false, false, false, false, false] rfl rfl (one_of HT_.out (by kernel_rfl)) (by decide) (fun K hK => ?_)
                              refine Kd.N_lit_step (Kd.slice 25 k25) _ 27 ?hg (N' := 133) ?hd (xs := ([rd_L3 y251 0, rd_L3 y251 1, t266] : List (List (S25)))) (inner := [.slice A285_0 (rd_L3 y251 0).length c285_0, .slice A286_0 (rd_L3 y251 1).length c286_0, .slice Ao113 t266.length co113]) (ok := (fun k_ => some k_ ≠ (.slice Ao99 y233.length co99 : Value).ownBlock ∧ some k_ ≠ (.slice (some ad278) y242.length co95 : Value).ownBlock ∧ some k_ ≠ (.slice (some ad285) y251.length co97 : Value).ownBlock ∧ some k_ ≠ (.slice Ao102 t254.length co102 : Value).ownBlock ∧ some k_ ≠ (.slice Ao104 t258.length co104 : Value).ownBlock ∧ some k_ ≠ (v272 : Value).ownBlock ∧ some k_ ≠ (v276 : Value).ownBlock ∧ some k_ ≠ (.slice Ao110 y280.length co110 : Value).ownBlock ∧ k_ ≠ gb228 ∧ k_ ≠ gb229 ∧ k_ ≠ gb230 ∧ k_ ≠ gb232)) (okp := (fun k_ => some k_ ≠ (.slice Ao99 y233.length co99 : Value).ownBlock ∧ some k_ ≠ (.slice (some ad278) y242.length co95 : Value).ownBlock ∧ some k_ ≠ (.slice (some ad285) y251.length co97 : Value).ownBlock ∧ some k_ ≠ (.slice Ao102 t254.length co102 : Value).ownBlock ∧ some k_ ≠ (.slice Ao104 t258.length co104 : Value).ownBlock ∧ some k_ ≠ (v272 : Value).ownBlock ∧ some k_ ≠ (v276 : Value).ownBlock ∧ some k_ ≠ (.slice Ao110 y280.length co110 : Value).ownBlock ∧ k_ ≠ gb228 ∧ k_ ≠ gb229 ∧ k_ ≠ gb230 ∧ k_ ≠ gb232)) ?hr ?hp (fun _ hk => hk) ((show ∀ k_, w112.heap.size ≤ k_ → (fun k_ => some k_ ≠ (.slice Ao99 y233.length co99 : Value).ownBlock ∧ some k_ ≠ (.slice (some ad278) y242.length co95 : Value).ownBlock ∧ some k_ ≠ (.slice (some ad285) y251.length co97 : Value).ownBlock ∧ some k_ ≠ (.slice Ao102 t254.length co102 : Value).ownBlock ∧ some k_ ≠ (.slice Ao104 t258.length co104 : Value).ownBlock ∧ some k_ ≠ (v272 : Value).ownBlock ∧ some k_ ≠ (v276 : Value).ownBlock ∧ some k_ ≠ (.slice Ao110 y280.length co110 : Value).ownBlock ∧ k_ ≠ gb228 ∧ k_ ≠ gb229 ∧ k_ ≠ gb230 ∧ k_ ≠ gb232) k_ from fun k_ hk => ⟨Kd.fresh' (Kd.R_lt (by (with_reducible repeat (first | apply Kd.R_alloc | apply Kd.R_drewN | apply Kd.R_drew)); exact HO235.out)) k_ hk, Kd.fresh' (Kd.N_lt (by (with_reducible repeat (first | apply Kd.N_alloc | apply Kd.N_drewN | apply Kd.N_drew)); exact HO244.out)) k_ hk, Kd.fresh' (Kd.N_lt (by (with_reducible repeat (first | apply Kd.N_alloc | apply Kd.N_drewN | apply Kd.N_drew)); exact HO253.out)) k_ hk, Kd.fresh' (Kd.R_lt (by (with_reducible repeat (first | apply Kd.R_alloc | apply Kd.R_drewN | apply Kd.R_drew)); exact HO257.out)) k_ hk, Kd.fresh' (Kd.R_lt (by (with_reducible repeat (first | apply Kd.R_alloc | apply Kd.R_drewN | apply Kd.R_drew)); exact HO261.out)) k_ hk, Kd.fresh' (Kd.R_lt (by (with_reducible repeat (first | apply Kd.R_alloc | apply Kd.R_drewN | apply Kd.R_drew)); exact HO273.out)) k_ hk, Kd.fresh' (Kd.R_lt (by (with_reducible repeat (first | apply Kd.R_alloc | apply Kd.R_drewN | apply Kd.R_drew)); exact HO277.out)) k_ hk, Kd.fresh' (Kd.N_lt (by (with_reducible repeat (first | apply Kd.N_alloc | apply Kd.N_drewN | apply Kd.N_drew)); exact HO282.out)) k_ hk, Kd.freshB (g := gb228) (o := .cells #[.int .i64 2, .int .i64 0, .string t226] 25 (0, 0)) (by (with_reducible repeat (first | refine blk_drewN ?_ _ | refine blk_drew ?_ | refine blk_alloc ?_ _)); exact BK228.out) k_ hk, Kd.freshB (g := gb229) (o := .cells #[.int .i64 1, .int .i64 1, .string (⟨#[]⟩ : ByteArray)] 25 (0, 0)) (by (with_reducible repeat (first | refine blk_drewN ?_ _ | refine blk_drew ?_ | refine blk_alloc ?_ _)); exact BK229.out) k_ hk, Kd.freshB (g := gb230) (o := .cells #[.int .i64 3, .int .i64 1, .string (⟨#[]⟩ : ByteArray)] 25 (0, 0)) (by (with_reducible repeat (first | refine blk_drewN ?_ _ | refine blk_drew ?_ | refine blk_alloc ?_ _)); exact BK230.out) k_ hk, Kd.freshB (g := gb232) (o := .cells #[.int .i64 1, .int .i64 t231, .string (⟨#[]⟩ : ByteArray)] 25 (0, 0)) (by (with_reducible repeat (first | refine blk_drewN ?_ _ | refine blk_drew ?_ | refine blk_alloc ?_ _)); exact BK232.out) k_ hk⟩) _ (Nat.le_refl _)) (Below.refl _ _) (Nat.le_refl _) (by simp) ?_; (case hd => rfl); (case hg => rfl); (case hr => first | (go_simp; done) | (go_simp; rfl)); (case hp => exact (Reps.one (show Kd.FK (Kd.slice 25 k25) _ _ (rd_L3 y251 0) [.slice A285_0 (rd_L3 y251 0).length c285_0] from (Kd.FK_slice_mk (Kd.V_reads' (Kd.V_mono (ok' := (fun k_ => some k_ ≠ (.slice Ao99 y233.length co99 : Value).ownBlock ∧ some k_ ≠ (.slice (some ad278) y242.length co95 : Value).ownBlock ∧ some k_ ≠ (.slice (some ad285) y251.length co97 : Value).ownBlock ∧ some k_ ≠ (.slice Ao102 t254.length co102 : Value).ownBlock ∧ some k_ ≠ (.slice Ao104 t258.length co104 : Value).ownBlock ∧ some k_ ≠ (v272 : Value).ownBlock ∧ some k_ ≠ (v276 : Value).ownBlock ∧ some k_ ≠ (.slice Ao110 y280.length co110 : Value).ownBlock ∧ k_ ≠ gb228 ∧ k_ ≠ gb229 ∧ k_ ≠ gb230 ∧ k_ ≠ gb232)) (HL285_0.out) (fun k_ hk => ⟨hk.1.1.1.1.1.1.1.1.1, ⟨hk.1.1.1.1.1.1.1.1.2.1, ⟨hk.2, ⟨hk.1.1.1.1.1.1.1.2, ⟨hk.1.1.1.1.1.1.2, ⟨hk.1.1.1.2, ⟨hk.1.1.2, ⟨hk.1.2, ⟨hk.1.1.1.1.1.1.1.1.2.2.1, ⟨hk.1.1.1.1.1.1.1.1.2.2.2.1, ⟨hk.1.1.1.1.1.1.1.1.2.2.2.2.1, hk.1.1.1.1.1.1.1.1.2.2.2.2.2⟩⟩⟩⟩⟩⟩⟩⟩⟩⟩⟩))).2.1 (Kd.V_F (Kd.V_mono (ok' := (fun k_ => some k_ ≠ (.slice Ao99 y233.length co99 : Value).ownBlock ∧ some k_ ≠ (.slice (some ad278) y242.length co95 : Value).ownBlock ∧ some k_ ≠ (.slice (some ad285) y251.length co97 : Value).ownBlock ∧ some k_ ≠ (.slice Ao102 t254.length co102 : Value).ownBlock ∧ some k_ ≠ (.slice Ao104 t258.length co104 : Value).ownBlock ∧ some k_ ≠ (v272 : Value).ownBlock ∧ some k_ ≠ (v276 : Value).ownBlock ∧ some k_ ≠ (.slice Ao110 y280.length co110 : Value).ownBlock ∧ k_ ≠ gb228 ∧ k_ ≠ gb229 ∧ k_ ≠ gb230 ∧ k_ ≠ gb232)) (HL285_0.out) (fun k_ hk => ⟨hk.1.1.1.1.1.1.1.1.1, ⟨hk.1.1.1.1.1.1.1.1.2.1, ⟨hk.2, ⟨hk.1.1.1.1.1.1.1.2, ⟨hk.1.1.1.1.1.1.2, ⟨hk.1.1.1.2, ⟨hk.1.1.2, ⟨hk.1.2, ⟨hk.1.1.1.1.1.1.1.1.2.2.1, ⟨hk.1.1.1.1.1.1.1.1.2.2.2.1, ⟨hk.1.1.1.1.1.1.1.1.2.2.2.2.1, hk.1.1.1.1.1.1.1.1.2.2.2.2.2⟩⟩⟩⟩⟩⟩⟩⟩⟩⟩⟩))))) (Reps.one (show Kd.FK (Kd.slice 25 k25) _ _ (rd_L3 y251 1) [.slice A286_0 (rd_L3 y251 1).length c286_0] from (Kd.FK_slice_mk (Kd.V_reads' (Kd.V_mono (ok' := (fun k_ => some k_ ≠ (.slice Ao99 y233.length co99 : Value).ownBlock ∧ some k_ ≠ (.slice (some ad278) y242.length co95 : Value).ownBlock ∧ some k_ ≠ (.slice (some ad285) y251.length co97 : Value).ownBlock ∧ some k_ ≠ (.slice Ao102 t254.length co102 : Value).ownBlock ∧ some k_ ≠ (.slice Ao104 t258.length co104 : Value).ownBlock ∧ some k_ ≠ (v272 : Value).ownBlock ∧ some k_ ≠ (v276 : Value).ownBlock ∧ some k_ ≠ (.slice Ao110 y280.length co110 : Value).ownBlock ∧ k_ ≠ gb228 ∧ k_ ≠ gb229 ∧ k_ ≠ gb230 ∧ k_ ≠ gb232)) (HL286_0.out) (fun k_ hk => ⟨hk.1.1.1.1.1.1.1.1.1, ⟨hk.1.1.1.1.1.1.1.1.2.1, ⟨hk.2, ⟨hk.1.1.1.1.1.1.1.2, ⟨hk.1.1.1.1.1.1.2, ⟨hk.1.1.1.2, ⟨hk.1.1.2, ⟨hk.1.2, ⟨hk.1.1.1.1.1.1.1.1.2.2.1, ⟨hk.1.1.1.1.1.1.1.1.2.2.2.1, ⟨hk.1.1.1.1.1.1.1.1.2.2.2.2.1, hk.1.1.1.1.1.1.1.1.2.2.2.2.2⟩⟩⟩⟩⟩⟩⟩⟩⟩⟩⟩))).2.1 (Kd.V_F (Kd.V_mono (ok' := (fun k_ => some k_ ≠ (.slice Ao99 y233.length co99 : Value).ownBlock ∧ some k_ ≠ (.slice (some ad278) y242.length co95 : Value).ownBlock ∧ some k_ ≠ (.slice (some ad285) y251.length co97 : Value).ownBlock ∧ some k_ ≠ (.slice Ao102 t254.length co102 : Value).ownBlock ∧ some k_ ≠ (.slice Ao104 t258.length co104 : Value).ownBlock ∧ some k_ ≠ (v272 : Value).ownBlock ∧ some k_ ≠ (v276 : Value).ownBlock ∧ some k_ ≠ (.slice Ao110 y280.length co110 : Value).ownBlock ∧ k_ ≠ gb228 ∧ k_ ≠ gb229 ∧ k_ ≠ gb230 ∧ k_ ≠ gb232)) (HL286_0.out) (fun k_ hk => ⟨hk.1.1.1.1.1.1.1.1.1, ⟨hk.1.1.1.1.1.1.1.1.2.1, ⟨hk.2, ⟨hk.1.1.1.1.1.1.1.2, ⟨hk.1.1.1.1.1.1.2, ⟨hk.1.1.1.2, ⟨hk.1.1.2, ⟨hk.1.2, ⟨hk.1.1.1.1.1.1.1.1.2.2.1, ⟨hk.1.1.1.1.1.1.1.1.2.2.2.1, ⟨hk.1.1.1.1.1.1.1.1.2.2.2.2.1, hk.1.1.1.1.1.1.1.1.2.2.2.2.2⟩⟩⟩⟩⟩⟩⟩⟩⟩⟩⟩))))) (Reps.one (show Kd.FK (Kd.slice 25 k25) _ _ t266 [.slice Ao113 t266.length co113] from (Kd.FK_slice_mk (Kd.R_reads' (Kd.R_mono (ok' := (fun k_ => some k_ ≠ (.slice Ao99 y233.length co99 : Value).ownBlock ∧ some k_ ≠ (.slice (some ad278) y242.length co95 : Value).ownBlock ∧ some k_ ≠ (.slice (some ad285) y251.length co97 : Value).ownBlock ∧ some k_ ≠ (.slice Ao102 t254.length co102 : Value).ownBlock ∧ some k_ ≠ (.slice Ao104 t258.length co104 : Value).ownBlock ∧ some k_ ≠ (v272 : Value).ownBlock ∧ some k_ ≠ (v276 : Value).ownBlock ∧ some k_ ≠ (.slice Ao110 y280.length co110 : Value).ownBlock ∧ k_ ≠ gb228 ∧ k_ ≠ gb229 ∧ k_ ≠ gb230 ∧ k_ ≠ gb232)) (Kd.R_apart' (Kd.R_apart' (Kd.R_apart' (HO269.out) (Kd.N_typed HO244.out) (by decide)) (Kd.N_typed HO253.out) (by decide)) (Kd.N_typed HO282.out) (by decide)) (fun k_ hk => ⟨hk.1.1.1.1.1.1.1.1.1.1.1.1.2, ⟨hk.1.1.2, ⟨hk.1.2, ⟨hk.1.1.1.1.1.1.1.1.1.1.1.2, ⟨hk.1.1.1.1.1.1.1.1.1.1.2, ⟨hk.1.1.1.1.2, ⟨hk.1.1.1.2, ⟨hk.2, ⟨hk.1.1.1.1.1.1.1.1.2, ⟨hk.1.1.1.1.1.1.1.2, ⟨hk.1.1.1.1.1.1.2, hk.1.1.1.1.1.2⟩⟩⟩⟩⟩⟩⟩⟩⟩⟩⟩))).2.1 (Kd.R_F (Kd.R_mono (ok' := (fun k_ => some k_ ≠ (.slice Ao99 y233.length co99 : Value).ownBlock ∧ some k_ ≠ (.slice (some ad278) y242.length co95 : Value).ownBlock ∧ some k_ ≠ (.slice (some ad285) y251.length co97 : Value).ownBlock ∧ some k_ ≠ (.slice Ao102 t254.length co102 : Value).ownBlock ∧ some k_ ≠ (.slice Ao104 t258.length co104 : Value).ownBlock ∧ some k_ ≠ (v272 : Value).ownBlock ∧ some k_ ≠ (v276 : Value).ownBlock ∧ some k_ ≠ (.slice Ao110 y280.length co110 : Value).ownBlock ∧ k_ ≠ gb228 ∧ k_ ≠ gb229 ∧ k_ ≠ gb230 ∧ k_ ≠ gb232)) (Kd.R_apart' (Kd.R_apart' (Kd.R_apart' (HO269.out) (Kd.N_typed HO244.out) (by decide)) (Kd.N_typed HO253.out) (by decide)) (Kd.N_typed HO282.out) (by decide)) (fun k_ hk => ⟨hk.1.1.1.1.1.1.1.1.1.1.1.1.2, ⟨hk.1.1.2, ⟨hk.1.2, ⟨hk.1.1.1.1.1.1.1.1.1.1.1.2, ⟨hk.1.1.1.1.1.1.1.1.1.1.2, ⟨hk.1.1.1.1.2, ⟨hk.1.1.1.2, ⟨hk.2, ⟨hk.1.1.1.1.1.1.1.1.2, ⟨hk.1.1.1.1.1.1.1.2, ⟨hk.1.1.1.1.1.1.2, hk.1.1.1.1.1.2⟩⟩⟩⟩⟩⟩⟩⟩⟩⟩⟩))))) (Reps.none _ _)))))
                              intro v288 w114 ho115 hb hg_ hnew_
                              have HS0_ := (hb.cell (World.block_lt_of_cell? _ _ (hHeld.1))).trans (hHeld.1)
                              have HS1_ := (hb.cell (World.block_lt_of_cell? _ _ (hHeld.2))).trans (hHeld.2)
                              clear hg_ hnew_
                              (first | rw [← Ny287.out] at ho115 | (simp only [Int.reduceToNat] at ho115; rw [← Ny287.out] at ho115))
                              have n0_ := Aside0.mk (Kd.R_below (by (with_reducible repeat (first | apply Kd.R_alloc | apply Kd.R_drewN | apply Kd.R_drew)); exact HO235.out) hb)
                              have n1_ := Aside0.mk (Kd.N_elder' (by (with_reducible repeat (first | apply Kd.N_alloc | apply Kd.N_drewN | apply Kd.N_drew)); exact HO244.out) (Kd.N_base ho115) hb)
                              have n2_ := Aside0.mk (Kd.N_elder' (by (with_reducible repeat (first | apply Kd.N_alloc | apply Kd.N_drewN | apply Kd.N_drew)); exact HO253.out) (Kd.N_base ho115) hb)
                              have n3_ := Aside0.mk (Kd.R_below (by (with_reducible repeat (first | apply Kd.R_alloc | apply Kd.R_drewN | apply Kd.R_drew)); exact HO257.out) hb)
                              have n4_ := Aside0.mk (Kd.R_below (by (with_reducible repeat (first | apply Kd.R_alloc | apply Kd.R_drewN | apply Kd.R_drew)); exact HO261.out) hb)
                              have n5_ := Aside0.mk (Kd.R_below (by (with_reducible repeat (first | apply Kd.R_alloc | apply Kd.R_drewN | apply Kd.R_drew)); exact HO273.out) hb)
                              have n6_ := Aside0.mk (Kd.R_below (by (with_reducible repeat (first | apply Kd.R_alloc | apply Kd.R_drewN | apply Kd.R_drew)); exact HO277.out) hb)
                              have n7_ := Aside0.mk (Kd.V_elder' (by (with_reducible repeat (first | apply Kd.V_alloc | apply Kd.V_drewN | apply Kd.V_drew)); exact HL278_0.out) (Kd.N_base ho115) hb)
                              have n8_ := Aside0.mk (Kd.V_elder' (by (with_reducible repeat (first | apply Kd.V_alloc | apply Kd.V_drewN | apply Kd.V_drew)); exact HL279_0.out) (Kd.N_base ho115) hb)
                              have n9_ := Aside0.mk (Kd.N_elder' (by (with_reducible repeat (first | apply Kd.N_alloc | apply Kd.N_drewN | apply Kd.N_drew)); exact HO282.out) (Kd.N_base ho115) hb)
                              have n10_ := Aside0.mk (Kd.V_elder' (by (with_reducible repeat (first | apply Kd.V_alloc | apply Kd.V_drewN | apply Kd.V_drew)); exact HL285_0.out) (Kd.N_base ho115) hb)
                              have n11_ := Aside0.mk (Kd.V_elder' (by (with_reducible repeat (first | apply Kd.V_alloc | apply Kd.V_drewN | apply Kd.V_drew)); exact HL286_0.out) (Kd.N_base ho115) hb)
                              have n12_ := Aside0.mk (Kd.N_lower ho115 (below_size (by repeat (first | (with_reducible first | exact HB.out | apply below_alloc | apply pw_below_drewN | apply below_drew1 | refine below_set ?_ GE228.out | refine below_set ?_ GE229.out | refine below_set ?_ GE230.out | refine below_set ?_ GE232.out) | exact HB.out))))
                              have n13_ := Aside0.mk (blk_below (g := gb228) (o := .cells #[.int .i64 2, .int .i64 0, .string t226] 25 (0, 0)) (by (with_reducible repeat (first | refine blk_drewN ?_ _ | refine blk_drew ?_ | refine blk_alloc ?_ _)); exact BK228.out) hb)
                              have n14_ := Aside0.mk (blk_below (g := gb229) (o := .cells #[.int .i64 1, .int .i64 1, .string (⟨#[]⟩ : ByteArray)] 25 (0, 0)) (by (with_reducible repeat (first | refine blk_drewN ?_ _ | refine blk_drew ?_ | refine blk_alloc ?_ _)); exact BK229.out) hb)
                              have n15_ := Aside0.mk (blk_below (g := gb230) (o := .cells #[.int .i64 3, .int .i64 1, .string (⟨#[]⟩ : ByteArray)] 25 (0, 0)) (by (with_reducible repeat (first | refine blk_drewN ?_ _ | refine blk_drew ?_ | refine blk_alloc ?_ _)); exact BK230.out) hb)
                              have n16_ := Aside0.mk (blk_below (g := gb232) (o := .cells #[.int .i64 1, .int .i64 t231, .string (⟨#[]⟩ : ByteArray)] 25 (0, 0)) (by (with_reducible repeat (first | refine blk_drewN ?_ _ | refine blk_drew ?_ | refine blk_alloc ?_ _)); exact BK232.out) hb)
                              have n17_ := Aside0.mk (Kd.C_below (by repeat (first | (with_reducible exact HR278_0.out) | (with_reducible refine Kd.C_alloc ?_ _) | (with_reducible refine Kd.C_drewN ?_ _) | (with_reducible refine Kd.C_drew ?_) | exact HR278_0.out)) hb)
                              have n17k1_ := Aside0.mk (Kd.C_below (by repeat (first | (with_reducible exact Rk1.out) | (with_reducible refine Kd.C_alloc ?_ _) | (with_reducible refine Kd.C_drewN ?_ _) | (with_reducible refine Kd.C_drew ?_) | exact Rk1.out)) hb)
                              have n18_ := Aside0.mk (Kd.C_below (by repeat (first | (with_reducible exact HR279_0.out) | (with_reducible refine Kd.C_alloc ?_ _) | (with_reducible refine Kd.C_drewN ?_ _) | (with_reducible refine Kd.C_drew ?_) | exact HR279_0.out)) hb)
                              have n19_ := Aside0.mk (Kd.C_below (by repeat (first | (with_reducible exact HR285_0.out) | (with_reducible refine Kd.C_alloc ?_ _) | (with_reducible refine Kd.C_drewN ?_ _) | (with_reducible refine Kd.C_drew ?_) | exact HR285_0.out)) hb)
                              have n19k2_ := Aside0.mk (Kd.C_below (by repeat (first | (with_reducible exact Rk2.out) | (with_reducible refine Kd.C_alloc ?_ _) | (with_reducible refine Kd.C_drewN ?_ _) | (with_reducible refine Kd.C_drew ?_) | exact Rk2.out)) hb)
                              have n20_ := Aside0.mk (Kd.C_below (by repeat (first | (with_reducible exact HR286_0.out) | (with_reducible refine Kd.C_alloc ?_ _) | (with_reducible refine Kd.C_drewN ?_ _) | (with_reducible refine Kd.C_drew ?_) | exact HR286_0.out)) hb)
                              have n21_ := Aside0.mk (below_step (by repeat (first | (with_reducible first | exact HB.out | apply below_alloc | apply pw_below_drewN | apply below_drew1 | refine below_set ?_ GE228.out | refine below_set ?_ GE229.out | refine below_set ?_ GE230.out | refine below_set ?_ GE232.out) | exact HB.out)) hb)
                              clear HO235
                              clear HO244
                              clear HO253
                              clear HO257
                              clear HO261
                              clear HO273
                              clear HO277
                              clear HL278_0
                              clear HL279_0
                              clear HO282
                              clear HL285_0
                              clear HL286_0
                              clear BK228
                              clear BK229
                              clear BK230
                              clear BK232
                              clear HR278_0
                              clear Rk1
                              clear HR279_0
                              clear HR285_0
                              clear Rk2
                              clear HR286_0
                              clear HB
                              clear HO269
                              have HO235 := n0_
                              have HO244 := n1_
                              have HO253 := n2_
                              have HO257 := n3_
                              have HO261 := n4_
                              have HO273 := n5_
                              have HO277 := n6_
                              have HL278_0 := n7_
                              have HL279_0 := n8_
                              have HO282 := n9_
                              have HL285_0 := n10_
                              have HL286_0 := n11_
                              have HO289 := n12_
                              have BK228 := n13_
                              have BK229 := n14_
                              have BK230 := n15_
                              have BK232 := n16_
                              have HR278_0 := n17_
                              have Rk1 := n17k1_
                              clear n17k1_
                              have HR279_0 := n18_
                              have HR285_0 := n19_
                              have Rk2 := n19k2_
                              clear n19k2_
                              have HR286_0 := n20_
                              have HB := n21_
                              clear n0_ n1_ n2_ n3_ n4_ n5_ n6_ n7_ n8_ n9_ n10_ n11_ n12_ n13_ n14_ n15_ n16_ n17_ n18_ n19_ n20_ n21_
                              clear hb ho115
                              obtain ⟨Ao116, co116, eo116⟩ := Kd.N_slice HO289.out
                              (first | subst eo116 | (injection eo116 with f1_ f2_ f3_; have f4_ := f1_.symm; have f5_ := f3_.symm; clear f1_ f2_ f3_; subst f4_; subst f5_))
                              refine hK.out _ _ ⟨HS0_, HS1_⟩ (fun hHeld => ?_)
                              clear hK K
                              refine norm_ (a' := ?_) ?_ ?_
                              rotate_left
                              ·show Act.put _ (some 133) _ = _
                               simp only [Act.put, List.setIfInBounds_toArray, List.set_cons_zero, List.set_cons_succ, i64_w, i32_w]
                               rfl
                              refine one_ (i := 8) (N := some 134) #[true, true, true, true, true, true, true, true, true, false, false, false, false, false] rfl rfl (one_of HT_.out (by kernel_rfl)) (by decide) (fun K hK => ?_)
                              refine goes_ Tryd.func14 (by kernel_rfl) rfl #[.string (⟨#[97, 98, 99]⟩ : ByteArray), .slice Ao116 y287.length co116] (by rfl) rfl rfl (by (try simp only [List.map_toArray, List.map_cons, List.map_nil]); first | done | rfl | (simp only [List.length_drop, List.length_take]; rfl)) ?_
                              with_reducible refine (apply_All.calls k (⟨#[97, 98, 99]⟩ : ByteArray) _ _ y287 t290 t291 _ ?side1 ?side2 ?side3 A26.out).mono ?_
                              (case side1 => repeat (first | exact (Kd.N_reads' HO289.out).2.2 | (with_reducible refine Kd.C_alloc ?_ _) | (with_reducible refine Kd.C_drewN ?_ _) | (with_reducible refine Kd.C_drew ?_)))
                              (case side2 => exact (Kd.N_reads' HO289.out).2.1)
                              (case side3 => exact Tabs.below HT.out (by repeat (first | (with_reducible first | exact HB.out | apply below_alloc | apply pw_below_drewN | apply below_drew1 | refine below_set ?_ GE228.out | refine below_set ?_ GE229.out | refine below_set ?_ GE230.out | refine below_set ?_ GE232.out) | exact HB.out)))
                              rintro e w117 ⟨rfl, hb⟩
                              have HS0_ := (hb.cell (World.block_lt_of_cell? _ _ (hHeld.1))).trans (hHeld.1)
                              have HS1_ := (hb.cell (World.block_lt_of_cell? _ _ (hHeld.2))).trans (hHeld.2)
                              refine ⟨_, rfl, ?_⟩
                              have n0_ := Aside0.mk (Kd.R_below (by (with_reducible repeat (first | apply Kd.R_alloc | apply Kd.R_drewN | apply Kd.R_drew)); exact HO235.out) hb)
                              have n1_ := Aside0.mk (Kd.N_below (by (with_reducible repeat (first | apply Kd.N_alloc | apply Kd.N_drewN | apply Kd.N_drew)); exact HO244.out) hb)
                              have n2_ := Aside0.mk (Kd.N_below (by (with_reducible repeat (first | apply Kd.N_alloc | apply Kd.N_drewN | apply Kd.N_drew)); exact HO253.out) hb)
                              have n3_ := Aside0.mk (Kd.R_below (by (with_reducible repeat (first | apply Kd.R_alloc | apply Kd.R_drewN | apply Kd.R_drew)); exact HO257.out) hb)
                              have n4_ := Aside0.mk (Kd.R_below (by (with_reducible repeat (first | apply Kd.R_alloc | apply Kd.R_drewN | apply Kd.R_drew)); exact HO261.out) hb)
                              have n5_ := Aside0.mk (Kd.R_below (by (with_reducible repeat (first | apply Kd.R_alloc | apply Kd.R_drewN | apply Kd.R_drew)); exact HO273.out) hb)
                              have n6_ := Aside0.mk (Kd.R_below (by (with_reducible repeat (first | apply Kd.R_alloc | apply Kd.R_drewN | apply Kd.R_drew)); exact HO277.out) hb)
                              have n7_ := Aside0.mk (Kd.V_below (by (with_reducible repeat (first | apply Kd.V_alloc | apply Kd.V_drewN | apply Kd.V_drew)); exact HL278_0.out) hb)
                              have n8_ := Aside0.mk (Kd.V_below (by (with_reducible repeat (first | apply Kd.V_alloc | apply Kd.V_drewN | apply Kd.V_drew)); exact HL279_0.out) hb)
                              have n9_ := Aside0.mk (Kd.N_below (by (with_reducible repeat (first | apply Kd.N_alloc | apply Kd.N_drewN | apply Kd.N_drew)); exact HO282.out) hb)
                              have n10_ := Aside0.mk (Kd.V_below (by (with_reducible repeat (first | apply Kd.V_alloc | apply Kd.V_drewN | apply Kd.V_drew)); exact HL285_0.out) hb)
                              have n11_ := Aside0.mk (Kd.V_below (by (with_reducible repeat (first | apply Kd.V_alloc | apply Kd.V_drewN | apply Kd.V_drew)); exact HL286_0.out) hb)
                              have n12_ := Aside0.mk (Kd.N_below (by (with_reducible repeat (first | apply Kd.N_alloc | apply Kd.N_drewN | apply Kd.N_drew)); exact HO289.out) hb)
                              have n13_ := Aside0.mk (blk_below (g := gb228) (o := .cells #[.int .i64 2, .int .i64 0, .string t226] 25 (0, 0)) (by (with_reducible repeat (first | refine blk_drewN ?_ _ | refine blk_drew ?_ | refine blk_alloc ?_ _)); exact BK228.out) hb)
                              have n14_ := Aside0.mk (blk_below (g := gb229) (o := .cells #[.int .i64 1, .int .i64 1, .string (⟨#[]⟩ : ByteArray)] 25 (0, 0)) (by (with_reducible repeat (first | refine blk_drewN ?_ _ | refine blk_drew ?_ | refine blk_alloc ?_ _)); exact BK229.out) hb)
                              have n15_ := Aside0.mk (blk_below (g := gb230) (o := .cells #[.int .i64 3, .int .i64 1, .string (⟨#[]⟩ : ByteArray)] 25 (0, 0)) (by (with_reducible repeat (first | refine blk_drewN ?_ _ | refine blk_drew ?_ | refine blk_alloc ?_ _)); exact BK230.out) hb)
                              have n16_ := Aside0.mk (blk_below (g := gb232) (o := .cells #[.int .i64 1, .int .i64 t231, .string (⟨#[]⟩ : ByteArray)] 25 (0, 0)) (by (with_reducible repeat (first | refine blk_drewN ?_ _ | refine blk_drew ?_ | refine blk_alloc ?_ _)); exact BK232.out) hb)
                              have n17_ := Aside0.mk (Kd.C_below (by repeat (first | (with_reducible exact HR278_0.out) | (with_reducible refine Kd.C_alloc ?_ _) | (with_reducible refine Kd.C_drewN ?_ _) | (with_reducible refine Kd.C_drew ?_) | exact HR278_0.out)) hb)
                              have n17k1_ := Aside0.mk (Kd.C_below (by repeat (first | (with_reducible exact Rk1.out) | (with_reducible refine Kd.C_alloc ?_ _) | (with_reducible refine Kd.C_drewN ?_ _) | (with_reducible refine Kd.C_drew ?_) | exact Rk1.out)) hb)
                              have n18_ := Aside0.mk (Kd.C_below (by repeat (first | (with_reducible exact HR279_0.out) | (with_reducible refine Kd.C_alloc ?_ _) | (with_reducible refine Kd.C_drewN ?_ _) | (with_reducible refine Kd.C_drew ?_) | exact HR279_0.out)) hb)
                              have n19_ := Aside0.mk (Kd.C_below (by repeat (first | (with_reducible exact HR285_0.out) | (with_reducible refine Kd.C_alloc ?_ _) | (with_reducible refine Kd.C_drewN ?_ _) | (with_reducible refine Kd.C_drew ?_) | exact HR285_0.out)) hb)
                              have n19k2_ := Aside0.mk (Kd.C_below (by repeat (first | (with_reducible exact Rk2.out) | (with_reducible refine Kd.C_alloc ?_ _) | (with_reducible refine Kd.C_drewN ?_ _) | (with_reducible refine Kd.C_drew ?_) | exact Rk2.out)) hb)
                              have n20_ := Aside0.mk (Kd.C_below (by repeat (first | (with_reducible exact HR286_0.out) | (with_reducible refine Kd.C_alloc ?_ _) | (with_reducible refine Kd.C_drewN ?_ _) | (with_reducible refine Kd.C_drew ?_) | exact HR286_0.out)) hb)
                              have n21_ := Aside0.mk (below_step (by repeat (first | (with_reducible first | exact HB.out | apply below_alloc | apply pw_below_drewN | apply below_drew1 | refine below_set ?_ GE228.out | refine below_set ?_ GE229.out | refine below_set ?_ GE230.out | refine below_set ?_ GE232.out) | exact HB.out)) hb)
                              clear HO235
                              clear HO244
                              clear HO253
                              clear HO257
                              clear HO261
                              clear HO273
                              clear HO277
                              clear HL278_0
                              clear HL279_0
                              clear HO282
                              clear HL285_0
                              clear HL286_0
                              clear HO289
                              clear BK228
                              clear BK229
                              clear BK230
                              clear BK232
                              clear HR278_0
                              clear Rk1
                              clear HR279_0
                              clear HR285_0
                              clear Rk2
                              clear HR286_0
                              clear HB
                              have HO235 := n0_
                              have HO244 := n1_
                              have HO253 := n2_
                              have HO257 := n3_
                              have HO261 := n4_
                              have HO273 := n5_
                              have HO277 := n6_
                              have HL278_0 := n7_
                              have HL279_0 := n8_
                              have HO282 := n9_
                              have HL285_0 := n10_
                              have HL286_0 := n11_
                              have HO289 := n12_
                              have BK228 := n13_
                              have BK229 := n14_
                              have BK230 := n15_
                              have BK232 := n16_
                              have HR278_0 := n17_
                              have Rk1 := n17k1_
                              clear n17k1_
                              have HR279_0 := n18_
                              have HR285_0 := n19_
                              have Rk2 := n19k2_
                              clear n19k2_
                              have HR286_0 := n20_
                              have HB := n21_
                              clear n0_ n1_ n2_ n3_ n4_ n5_ n6_ n7_ n8_ n9_ n10_ n11_ n12_ n13_ n14_ n15_ n16_ n17_ n18_ n19_ n20_ n21_
                              (try clear hb)
                              (try clear hb2)
                              (try clear hk)
                              (try clear hi)
                              refine hK.out _ _ ⟨HS0_, HS1_⟩ (fun hHeld => ?_)
                              clear hK K
                              refine norm_ (a' := ?_) ?_ ?_
                              rotate_left
                              ·show Act.put _ (some 134) _ = _
                               simp only [Act.put, List.setIfInBounds_toArray, List.set_cons_zero, List.set_cons_succ, i64_w, i32_w]
                               rfl
                              refine pure_ (i := 9) (N := some 125) (v := ?_) (a' := ?_) #[true, true, true, true, true, true, true, true, true, true, false, false, false, false] rfl rfl (any_of HT_.out (by kernel_rfl)) (fun _ _ _ h => h) (Or.inl ⟨by rfl, ?_⟩) ?_ ?_
                              rotate_left
                              ·intro w'
                               go_simp
                               with_reducible rfl
                              rotate_left
                              ·simp only [Act.put, List.setIfInBounds_toArray, List.set_cons_zero, List.set_cons_succ, i64_w, i32_w]
                               rfl
                              refine pure_ (i := 10) (N := some 135) (v := ?_) (a' := ?_) #[true, true, true, true, true, true, true, true, true, true, true, false, false, false] rfl rfl (any_of HT_.out (by kernel_rfl)) (fun _ _ _ h => h) (Or.inl ⟨by rfl, ?_⟩) ?_ ?_
                              rotate_left
                              ·intro w'
                               go_simp
                               with_reducible rfl
                              rotate_left
                              ·simp only [Act.put, List.setIfInBounds_toArray, List.set_cons_zero, List.set_cons_succ, i64_w, i32_w]
                               rfl
                              refine pure_ (i := 11) (N := some 136) (v := ?_) (a' := ?_) #[true, true, true, true, true, true, true, true, true, true, true, true, false, false] rfl rfl (any_of HT_.out (by kernel_rfl)) (fun _ _ _ h => h) (Or.inl ⟨by rfl, ?_⟩) ?_ ?_
                              rotate_left
                              ·intro w'
                               go_simp
                               with_reducible rfl
                              rotate_left
                              ·simp only [Act.put, List.setIfInBounds_toArray, List.set_cons_zero, List.set_cons_succ, i64_w, i32_w]
                               rfl
                              refine pure_ (i := 12) (N := some 29) (v := ?_) (a' := ?_) #[true, true, true, true, true, true, true, true, true, true, true, true, true, false] rfl rfl (any_of HT_.out (by kernel_rfl)) (fun _ _ _ h => h) (Or.inl ⟨by rfl, ?_⟩) ?_ ?_
                              rotate_left
                              ·intro w'
                               go_simp
                               with_reducible rfl
                              rotate_left
                              ·simp only [Act.put, List.setIfInBounds_toArray, List.set_cons_zero, List.set_cons_succ, i64_w, i32_w]
                               rfl
                              refine pure_ (i := 13) (N := some 30) (v := ?_) (a' := ?_) #[true, true, true, true, true, true, true, true, true, true, true, true, true, true] rfl rfl (any_of HT_.out (by kernel_rfl)) (fun _ _ _ h => h) (Or.inl ⟨by rfl, ?_⟩) ?_ ?_
                              rotate_left
                              ·intro w'
                               go_simp
                               with_reducible rfl
                              rotate_left
                              ·simp only [Act.put, List.setIfInBounds_toArray, List.set_cons_zero, List.set_cons_succ, i64_w, i32_w]
                               rfl
                              refine done_ (done_of HT_.out (by kernel_rfl)) ?_
                              try go_wp2_with (first | (go_at_call 15; (with_reducible refine (epitomeref04_Same.calls k _ _ t254 _ _ t258 false _ ?side1 ?side2 ?side3 ?side4 A36.out).mono ?_); (case side1 => repeat (first | exact (Kd.R_reads' HO257.out).2.2 | (with_reducible refine Kd.C_alloc ?_ _) | (with_reducible refine Kd.C_drewN ?_ _) | (with_reducible refine Kd.C_drew ?_))); (case side2 => exact (Kd.R_reads' HO257.out).2.1); (case side3 => repeat (first | exact (Kd.R_reads' HO261.out).2.2 | (with_reducible refine Kd.C_alloc ?_ _) | (with_reducible refine Kd.C_drewN ?_ _) | (with_reducible refine Kd.C_drew ?_))); (case side4 => exact (Kd.R_reads' HO261.out).2.1); rintro e w' ⟨rfl, ⟨nd, rfl⟩⟩; obtain ⟨Ao118, co118, eo118⟩ := Kd.R_slice HO273.out; subst eo118) | (go_at_call 15; (with_reducible refine (epitomeref04_Same.calls k _ _ t262 _ _ t270 true _ ?side1 ?side2 ?side3 ?side4 A38.out).mono ?_); (case side1 => repeat (first | exact Rk1.out | (with_reducible refine Kd.C_alloc ?_ _) | (with_reducible refine Kd.C_drewN ?_ _) | (with_reducible refine Kd.C_drew ?_))); (case side2 => exact Lk1.out); (case side3 => repeat (first | exact (Kd.R_reads' HO273.out).2.2 | (with_reducible refine Kd.C_alloc ?_ _) | (with_reducible refine Kd.C_drewN ?_ _) | (with_reducible refine Kd.C_drew ?_))); (case side4 => exact (Kd.R_reads' HO273.out).2.1); rintro e w' ⟨rfl, ⟨nd, rfl⟩⟩; obtain ⟨Ao119, co119, eo119⟩ := Kd.R_slice HO277.out; subst eo119) | (go_at_call 15; (with_reducible refine (epitomeref04_Same.calls k _ _ t266 _ _ t274 true _ ?side1 ?side2 ?side3 ?side4 A40.out).mono ?_); (case side1 => repeat (first | exact Rk2.out | (with_reducible refine Kd.C_alloc ?_ _) | (with_reducible refine Kd.C_drewN ?_ _) | (with_reducible refine Kd.C_drew ?_))); (case side2 => exact Lk2.out); (case side3 => repeat (first | exact (Kd.R_reads' HO277.out).2.2 | (with_reducible refine Kd.C_alloc ?_ _) | (with_reducible refine Kd.C_drewN ?_ _) | (with_reducible refine Kd.C_drew ?_))); (case side4 => exact (Kd.R_reads' HO277.out).2.1); rintro e w' ⟨rfl, ⟨nd, rfl⟩⟩))
                              go_ret
                              exact ⟨by first | rfl | (simp [errW_none, errW_some] <;> rfl) | (simp only [← hji4, ← hji9]; first | rfl | (simp [errW_none, errW_some] <;> rfl)) | (simp [*, errW_none, errW_some] <;> rfl), by repeat (first | (with_reducible first | exact HB.out | apply below_alloc | apply pw_below_drewN | apply below_drew1 | refine below_set ?_ GE228.out | refine below_set ?_ GE229.out | refine below_set ?_ GE230.out | refine below_set ?_ GE232.out) | exact HB.out)⟩
                             ·rw [if_neg c48] at H
                              exact absurd H (by simp)
                            ·rw [if_neg c47] at H
                             exact absurd H (by simp)
                           ·rw [if_neg c46] at H
                            exact absurd H (by simp)
                          ·rw [if_neg c45] at H
                           have c45b0 : (t283.toList == ((((⟨#[97]⟩ : ByteArray) ++ t227) ++ t226) ++ (⟨#[99]⟩ : ByteArray)).toList) = false := beq_eq_false_iff_ne.mpr c45
                           have c45b1 : (t283.toList != ((((⟨#[97]⟩ : ByteArray) ++ t227) ++ t226) ++ (⟨#[99]⟩ : ByteArray)).toList) = true := bne_iff_ne.mpr c45
                           obtain rfl := Option.some.inj H
                           exact absurd HLAW.out (by decide)
                         ·rw [if_neg c44] at H
                          exact absurd H (by simp)
                        ·rw [if_neg c43] at H
                         exact absurd H (by simp)
                       ·rw [if_neg c42] at H
                        exact absurd H (by simp)
                      ·replace c41 := Bool.eq_false_iff.mpr c41
                       subst c41
                       have H1 : (some false) = some r := by rw [if_neg (show ¬ (false = true) by decide)] at H; exact H
                       clear H
                       have H := H1
                       clear H1
                       obtain rfl := Option.some.inj H
                       exact absurd HLAW.out (by decide)
                     ·replace c39 := Bool.eq_false_iff.mpr c39
                      subst c39
                      have H1 : (some false) = some r := by rw [if_neg (show ¬ (false = true) by decide)] at H; exact H
                      clear H
                      have H := H1
                      clear H1
                      obtain rfl := Option.some.inj H
                      exact absurd HLAW.out (by decide)
                   ·rw [if_neg c35] at H
                    have c35b0 : (t291 == 0) = false := beq_eq_false_iff_ne.mpr c35
                    have c35b1 : (t291 != 0) = true := bne_iff_ne.mpr c35
                    obtain rfl := Option.some.inj H
                    exact absurd HLAW.out (by decide)
                  ·rw [if_neg c34] at H
                   have c34b0 : (t284 == 0) = false := beq_eq_false_iff_ne.mpr c34
                   have c34b1 : (t284 != 0) = true := bne_iff_ne.mpr c34
                   obtain rfl := Option.some.inj H
                   exact absurd HLAW.out (by decide)
                 ·rw [if_neg c33] at H
                  have c33b0 : (t275 == 0) = false := beq_eq_false_iff_ne.mpr c33
                  have c33b1 : (t275 != 0) = true := bne_iff_ne.mpr c33
                  obtain rfl := Option.some.inj H
                  exact absurd HLAW.out (by decide)
                ·rw [if_neg c32] at H
                 have c32b0 : (t271 == 0) = false := beq_eq_false_iff_ne.mpr c32
                 have c32b1 : (t271 != 0) = true := bne_iff_ne.mpr c32
                 obtain rfl := Option.some.inj H
                 exact absurd HLAW.out (by decide)
               ·rw [if_neg c31] at H
                have c31b0 : (t267 == 0) = false := beq_eq_false_iff_ne.mpr c31
                have c31b1 : (t267 != 0) = true := bne_iff_ne.mpr c31
                obtain rfl := Option.some.inj H
                exact absurd HLAW.out (by decide)
              ·rw [if_neg c30] at H
               have c30b0 : (t263 == 0) = false := beq_eq_false_iff_ne.mpr c30
               have c30b1 : (t263 != 0) = true := bne_iff_ne.mpr c30
               obtain rfl := Option.some.inj H
               exact absurd HLAW.out (by decide)
             ·rw [if_neg c29] at H
              have c29b0 : (t259 == 0) = false := beq_eq_false_iff_ne.mpr c29
              have c29b1 : (t259 != 0) = true := bne_iff_ne.mpr c29
              obtain rfl := Option.some.inj H
              exact absurd HLAW.out (by decide)
            ·rw [if_neg c28] at H
             have c28b0 : (t255 == 0) = false := beq_eq_false_iff_ne.mpr c28
             have c28b1 : (t255 != 0) = true := bne_iff_ne.mpr c28
             obtain rfl := Option.some.inj H
             exact absurd HLAW.out (by decide)
           ·replace c27 := Bool.eq_false_iff.mpr c27
            subst c27
            have H1 : (some false) = some r := by rw [if_neg (show ¬ (false = true) by decide)] at H; exact H
            clear H
            have H := H1
            clear H1
            obtain rfl := Option.some.inj H
            exact absurd HLAW.out (by decide)
          ·rw [if_neg c25] at H
           exact absurd H (by simp)
         ·rw [if_neg c24] at H
          exact absurd H (by simp)
        ·rw [if_neg c22] at H
         exact absurd H (by simp)
       ·rw [if_neg c21] at H
        exact absurd H (by simp)
      ·rw [if_neg c12] at H
       exact absurd H (by simp)
     ·rw [if_neg c11] at H
      exact absurd H (by simp)
    ·rw [if_neg c10] at H
     exact absurd H (by simp)
   ·rw [if_neg c7] at H
    exact absurd H (by simp)
  ·rw [if_neg c6] at H
   exact absurd H (by simp)
 ·rw [if_neg c5] at H
  exact absurd H (by simp)

/-- THE ONE PURE STATEMENT of epitometop_TopTie: yours. -/
def epitometop_TopTie.Pure : Prop := ∀ (a0 : ByteArray) (a1 : ByteArray), a0.size ≤ 140737488351232 → a1.size ≤ 140737488351232 → ∃ k, epitometop_TopTie.f k a0 a1 = some true
theorem epitometop_TopTie.walk (P : epitometop_TopTie.Pure) (a0 : ByteArray) (a1 : ByteArray) (w : World) (hT : Tabs w) (w0 : a0.size ≤ 140737488351232) (w1 : a1.size ≤ 140737488351232) :
  Calls Tryd.prog 3 #[.string a0, .string a1] w fun e w' => e = .returned (.bool true) ∧ Below w.heap.size w w' := by
 obtain ⟨k, h⟩ := P a0 a1 w0 w1
 refine (epitometop_TopTie.calls k a0 a1 true w hT h rfl).mono ?_
 rintro e w' ⟨rfl, hd⟩
 exact ⟨rfl, hd⟩

end Go.Proofs.YtegjegihcebimaaDoor.P
