/- Part 17 of the proof of topLogs_holds: out of the texts that this session's programs wrote, what the theorem reaches. -/
import Derived.Lib.Bytes
import Derived.Test.YtegjegihcebimaaDoorZ0
import Derived.Test.YtegjegihcebimaaDoorZ13
import Derived.Test.YtegjegihcebimaaDoorZ2
import Derived.Test.YtegjegihcebimaaDoorZ3
import Derived.Test.YtegjegihcebimaaDoorZ4
import Derived.Test.YtegjegihcebimaaDoorZ5
import Derived.Test.YtegjegihcebimaaDoorZ6
import Derived.Test.YtegjegihcebimaaDoorZ7
import Derived.Test.YtegjegihcebimaaDoorZ8
section
namespace Go.Proofs.YtegjegihcebimaaDoor.P
open Go.RowKit Go.Proofs.YtegjegihcebimaaDoorW.PrintWords Go.Proofs.YtegjegihcebimaaDoorW.PrintLast Go.Proofs.YtegjegihcebimaaDoorW.PrintMore
attribute [local go_sem] max2_int min2_int max_two min_two max_three min_three max_four min_four
set_option linter.unusedVariables false
set_option linter.unusedSimpArgs false
mutual
def epitomeref01_first.j0 : Nat → ByteArray → Int → Int → Int → Bool → Option (Int × Int)
 | 0, _, _, _, _, _ => none
 | k + 1, x0, x4, x5, x6, x21 => if x21 = true then (epitomeref01_first.j3 k x0 3 (wrap64 (x4 - 240))) else (if x4 ≥ 224 then (epitomeref01_first.j1 k x0 x4 x5 x6 (decide (x4 < 240))) else (epitomeref01_first.j1 k x0 x4 x5 x6 false))
def epitomeref01_first.j3 : Nat → ByteArray → Int → Int → Option (Int × Int)
 | 0, _, _, _ => none
 | k + 1, x0, x5, x6 => if (x0.size : Int) < (wrap64 (x5 + 1)) then (some (0, 0)) else (epitomeref01_first.l0 k x0 x5 x6 1)
def epitomeref01_first.l0 : Nat → ByteArray → Int → Int → Int → Option (Int × Int)
 | 0, _, _, _, _ => none
 | k + 1, x0, x5, x6, x7 => if x7 ≤ x5 then (if 0 ≤ x7 then (if x7 < (x0.size : Int) then (if (wrap64 (bt x0 x7)) < 128 then (some (0, 0)) else (if (wrap64 (bt x0 x7)) > 191 then (some (0, 0)) else (epitomeref01_first.l0 k x0 x5 (wrap64 ((wrap64 ((wrap64 (x6 * 64)) + (wrap64 (bt x0 x7)))) - 128)) (wrap64 (x7 + 1))))) else (none)) else (none)) else ((epitomeref01_size.f k x6).bind fun t239 => (if t239 = (wrap64 (x5 + 1)) then (some (x6, wrap64 (x5 + 1))) else (some (0, 0))))
def epitomeref01_first.j1 : Nat → ByteArray → Int → Int → Int → Bool → Option (Int × Int)
 | 0, _, _, _, _, _ => none
 | k + 1, x0, x4, x5, x6, x29 => if x29 = true then (epitomeref01_first.j3 k x0 2 (wrap64 (x4 - 224))) else (if x4 ≥ 192 then (epitomeref01_first.j2 k x0 x4 x5 x6 (decide (x4 < 224))) else (epitomeref01_first.j2 k x0 x4 x5 x6 false))
def epitomeref01_first.j2 : Nat → ByteArray → Int → Int → Int → Bool → Option (Int × Int)
 | 0, _, _, _, _, _ => none
 | k + 1, x0, x4, x5, x6, x37 => if x37 = true then (epitomeref01_first.j3 k x0 1 (wrap64 (x4 - 192))) else (if x4 ≥ 128 then (some (0, 0)) else (epitomeref01_first.j3 k x0 x5 x6))
end
def epitomeref01_first.f (k : Nat) (a0 : ByteArray) : Option (Int × Int) := if (a0.size : Int) = 0 then (some (0, 0)) else (if 0 < (a0.size : Int) then (if (wrap64 (bt a0 0)) ≥ 240 then (epitomeref01_first.j0 k a0 (wrap64 (bt a0 0)) 0 (wrap64 (bt a0 0)) (decide ((wrap64 (bt a0 0)) < 248))) else (epitomeref01_first.j0 k a0 (wrap64 (bt a0 0)) 0 (wrap64 (bt a0 0)) false)) else (none))
def epitomeref01_Starts.l0 : Nat → ByteArray → List Int → Int → Option (List Int × Bool)
 | 0, _, _, _ => none
 | k + 1, x0, x4, x5 => if x5 < (x0.size : Int) then (if 0 ≤ x5 then (if x5 ≤ (x0.size : Int) then ((epitomeref01_first.f k (x0.extract (x5 : Int).toNat x0.size)).bind fun bt243 => (if bt243.2 = 0 then (some (([] : List Int), false)) else (if x4.length < 17592186044416 then (epitomeref01_Starts.l0 k x0 (x4 ++ [wrap64 (x5 + bt243.2)]) (wrap64 (x5 + bt243.2))) else (none)))) else (none)) else (none)) else (some (x4, true))
def epitomeref01_Starts.f (k : Nat) (a0 : ByteArray) : Option (List Int × Bool) := epitomeref01_Starts.l0 k a0 (([0] : List Int)) 0
def epitomeref01_Count.f (k : Nat) (a0 : ByteArray) : Option (Int) := (epitomeref01_Starts.f k a0).bind fun bt248 => (some (wrap64 ((bt248.1.length : Int) - 1)))
def epitomeref03_Out.f (k : Nat) (a0_0 : Int) (a0_1 : Int) (a0_2 : ByteArray) : Option (Int) := if a0_0 = 1 then (some a0_1) else (if a0_0 = 2 then ((epitomeref01_Count.f k a0_2).bind fun t253 => (some (mx t253 0))) else (some 0))
def epitomeref04_Out.l0 : Nat → List (S25) → Int → Int → Option (Int)
 | 0, _, _, _ => none
 | k + 1, x0, x3, x4 => if x4 < (x0.length : Int) then (if 0 ≤ x4 then ((epitomeref03_Out.f k ((rd_T25 x0 x4).f0) ((rd_T25 x0 x4).f1) ((rd_T25 x0 x4).f2)).bind fun t255 => (epitomeref04_Out.l0 k x0 (wrap64 (x3 + t255)) (wrap64 (x4 + 1)))) else (none)) else (some x3)
def epitomeref04_Out.f (k : Nat) (l0 : List (S25)) : Option (Int) := epitomeref04_Out.l0 k l0 0 0
mutual
def epitomeref04_Chain.l0 : Nat → List (List (S25)) → Int → List (List (S25)) → Int → Option ((List (List (S25))))
 | 0, _, _, _, _ => none
 | k + 1, x0, x1, x5, x6 => if x6 < (x0.length : Int) then (epitomeref04_Chain.j1 k x0 x1 x5 x6 (decide (x6 < 20))) else (epitomeref04_Chain.j1 k x0 x1 x5 x6 false)
def epitomeref04_Chain.j1 : Nat → List (List (S25)) → Int → List (List (S25)) → Int → Bool → Option ((List (List (S25))))
 | 0, _, _, _, _, _ => none
 | k + 1, x0, x1, x5, x6, x16 => if x16 = true then (if 0 ≤ x6 then (if x6 < (x0.length : Int) then ((epitomeref04_Fit.f k (rd_L3 x0 x6) x1).bind fun t260 => (if x5.length < 5864062014805 then ((epitomeref04_Out.f k t260).bind fun t266 => (epitomeref04_Chain.l0 k x0 t266 (x5 ++ [t260]) (wrap64 (x6 + 1)))) else (none))) else (none)) else (none)) else (some x5)
end
def epitomeref04_Chain.f (k : Nat) (l0 : List (List (S25))) (a1 : Int) : Option ((List (List (S25)))) := epitomeref04_Chain.l0 k l0 a1 (([] : List (List (S25)))) 0
mutual
def epitomeref05_Of.l0 : Nat → List (S25) → List (S25) → Int → Option ((List (S25)))
 | 0, _, _, _ => none
 | k + 1, x0, x3, x4 => if x4 < (x0.length : Int) then (if 0 ≤ x4 then (if ((rd_T25 x0 x4).f1) = 0 then (epitomeref05_Of.j1 k x0 x3 x4 (((rd_T25 x0 x4).f2).toList == ([] : List UInt8)) ((rd_T25 x0 x4).f0) ((rd_T25 x0 x4).f1) ((rd_T25 x0 x4).f2)) else (epitomeref05_Of.j1 k x0 x3 x4 false ((rd_T25 x0 x4).f0) ((rd_T25 x0 x4).f1) ((rd_T25 x0 x4).f2))) else (none)) else (some x3)
def epitomeref05_Of.j1 : Nat → List (S25) → List (S25) → Int → Bool → Int → Int → ByteArray → Option ((List (S25)))
 | 0, _, _, _, _, _, _, _ => none
 | k + 1, x0, x3, x4, x25, x272000, x272001, x272002 => if x25 = true then (epitomeref05_Of.l0 k x0 x3 (wrap64 (x4 + 1))) else (if (x3.length : Int) > 0 then (if 0 ≤ (wrap64 ((x3.length : Int) - 1)) then (if (wrap64 ((x3.length : Int) - 1)) < (x3.length : Int) then (if ((rd_T25 x3 (wrap64 ((x3.length : Int) - 1))).f0) = x272000 then ((some (x3.set ((wrap64 ((x3.length : Int) - 1)) : Int).toNat (⟨(rd_T25 x3 (wrap64 ((x3.length : Int) - 1))).f0, wrap64 (((rd_T25 x3 (wrap64 ((x3.length : Int) - 1))).f1) + x272001), (rd_T25 x3 (wrap64 ((x3.length : Int) - 1))).f2⟩ : S25) : List (S25))).bind fun y274 => (if ((rd_T25 y274 (wrap64 ((x3.length : Int) - 1))).f2).size + x272002.size ≤ 9223372036854775807 then (epitomeref05_Of.l0 k x0 (y274.set ((wrap64 ((x3.length : Int) - 1)) : Int).toNat (⟨(rd_T25 y274 (wrap64 ((x3.length : Int) - 1))).f0, (rd_T25 y274 (wrap64 ((x3.length : Int) - 1))).f1, ((rd_T25 y274 (wrap64 ((x3.length : Int) - 1))).f2) ++ x272002⟩ : S25)) (wrap64 (x4 + 1))) else (none))) else (if x3.length < 4398046511104 then (epitomeref05_Of.l0 k x0 (x3 ++ [(⟨x272000, x272001, x272002⟩ : S25)]) (wrap64 (x4 + 1))) else (none))) else (none)) else (none)) else (if x3.length < 4398046511104 then (epitomeref05_Of.l0 k x0 (x3 ++ [(⟨x272000, x272001, x272002⟩ : S25)]) (wrap64 (x4 + 1))) else (none)))
end
def epitomeref05_Of.f (k : Nat) (l0 : List (S25)) : Option ((List (S25))) := epitomeref05_Of.l0 k l0 (([] : List (S25))) 0
def epitomeref16_Fit.l0 : Nat → List (List (S25)) → Int → ByteArray → List Int → List (List (S25)) → Option (ByteArray × List Int × (List (List (S25))))
 | 0, _, _, _, _, _ => none
 | k + 1, x6, x7, x289000, x289001, x289002 => if x7 < (x6.length : Int) then (if x289001.length < 17592186044416 then (if 0 ≤ x7 then ((epitomeref05_Of.f k (rd_L3 x6 x7)).bind fun t297 => (if x289002.length < 5864062014805 then (epitomeref16_Fit.l0 k x6 (wrap64 (x7 + 1)) x289000 (x289001 ++ [wrap64 (x7 + 1)]) (x289002 ++ [t297])) else (none))) else (none)) else (none)) else (some (x289000, x289001, x289002))
def epitomeref16_Fit.f (k : Nat) (a0 : ByteArray) (l1 : List (List (S25))) : Option (ByteArray × List Int × (List (List (S25)))) := if 0 ≤ (mn (a0.size : Int) 20) then (if (mn (a0.size : Int) 20) ≤ (a0.size : Int) then ((epitomeref01_Fit.f k (a0.extract 0 ((mn (a0.size : Int) 20) : Int).toNat)).bind fun t284 => ((epitomeref01_Count.f k t284).bind fun t289 => ((epitomeref04_Chain.f k l1 t289).bind fun t290 => (epitomeref16_Fit.l0 k t290 0 t284 (([0] : List Int)) ([] : List (List (S25))))))) else (none)) else (none)
end Go.Proofs.YtegjegihcebimaaDoor.P
end
section
namespace Go.Proofs.YtegjegihcebimaaDoor.Pure
open Go.RowKit Go.Proofs.YtegjegihcebimaaDoor.P Go.Proofs.YtegjegihcebimaaDoorW.PrintWords Go.Proofs.YtegjegihcebimaaDoorW.PrintLast Go.Proofs.YtegjegihcebimaaDoorW.PrintMore
set_option linter.unusedVariables false
set_option linter.unusedSimpArgs false
theorem w64 {x : Int} (h0 : -9223372036854775808 ≤ x) (h1 : x ≤ 9223372036854775807) : wrap64 x = x := by unfold wrap64; omega
def sizeS (n : Int) : Int := if n < 0 ∨ 1114111 < n ∨ (55296 ≤ n ∧ n ≤ 57343) then 0 else if n < 128 then 1 else if n < 2048 then 2 else if n < 65536 then 3 else 4
theorem size_f (k : Nat) (n : Int) : epitomeref01_size.f (k + 1) n = some (sizeS n) := by
 have e : ∀ b, epitomeref01_size.j0 (k + 1) n b = if b = true then some 0 else some (if n < 128 then 1 else if n < 2048 then 2 else if n < 65536 then 3 else 4) := by
  intro b
  simp only [epitomeref01_size.j0]
  cases b
  ·simp only [Bool.false_eq_true, if_false]
   repeat' split
   all_goals rfl
  ·simp only [if_true]
 unfold epitomeref01_size.f sizeS
 by_cases c : n < 0
 ·rw [if_pos c, if_pos (.inl c), e, if_pos rfl]
 ·rw [if_neg c]
  by_cases c1 : n > 1114111
  ·rw [if_pos c1, if_pos (.inr (.inl c1)), e, if_pos rfl]
  ·rw [if_neg c1]
   by_cases c2 : n ≥ 55296
   ·rw [if_pos c2, e]
    by_cases c3 : n ≤ 57343
    ·rw [if_pos (by simpa using c3), if_pos (.inr (.inr ⟨c2, c3⟩))]
    ·rw [if_neg (by simpa using c3), if_neg (show ¬ (n < 0 ∨ 1114111 < n ∨ (55296 ≤ n ∧ n ≤ 57343)) by omega)]
   ·rw [if_neg c2, e, if_neg (by decide), if_neg (show ¬ (n < 0 ∨ 1114111 < n ∨ (55296 ≤ n ∧ n ≤ 57343)) by omega)]
def ofB (l : List Int) : List Int := (l.filter fun c => decide (isRune c)).flatMap Lib.encodeRuneZ
theorem ofB_len : ∀ l : List Int, (ofB l).length ≤ 4 * l.length
 | [] => by simp [ofB]
 | c :: l => by
  have ih := ofB_len l
  have hc := Lib.encodeRuneZ_length c
  unfold ofB at *
  rw [List.filter_cons]
  split
  ·rw [List.flatMap_cons, List.length_append, List.length_cons]; omega
  ·rw [List.length_cons]; omega
theorem ofB_next (l : List Int) (k : Nat) (h : k < l.length) : ofB (l.take (k + 1)) = ofB (l.take k) ++ (if isRune (l.getD k 0) then Lib.encodeRuneZ (l.getD k 0) else []) := by
 have e : l.getD k 0 = l[k] := by rw [List.getD_eq_getElem?_getD, List.getElem?_eq_getElem h]; rfl
 rw [e, List.take_succ_eq_append_getElem h]
 unfold ofB
 rw [List.filter_append, List.flatMap_append]
 congr 1
 by_cases c : isRune l[k]
 ·rw [if_pos c, List.filter_cons, if_pos (by simpa using c)]; simp
 ·rw [if_neg c, List.filter_cons, if_neg (by simpa using c)]; simp
theorem ofB_str (l : List Int) : strOfNums (ofB l) = enc (l.filter fun c => decide (isRune c)) := by
 apply bytes_ext
 rw [strOfNums_data, enc_list, encB, ofB, List.map_flatMap, List.flatMap_def]
 rfl
set_option maxHeartbeats 1000000 in
theorem of_l (l : List Int) (hl : 4 * l.length < 140737488355000) (hw : ∀ x ∈ l, -2147483648 ≤ x ∧ x ≤ 2147483647) :
  ∀ (d i k : Nat), l.length - i = d → i ≤ l.length → d + 3 ≤ k → epitomeref01_Of.l0 k l (ofB (l.take i)) (i : Int) = some (enc (l.filter fun c => decide (isRune c))) := by
 intro d
 induction d with
 | zero =>
  intro i k hd hi hk
  obtain ⟨k, rfl⟩ : ∃ m, k = m + 1 := ⟨k - 1, by omega⟩
  simp only [epitomeref01_Of.l0]
  rw [if_neg (by omega), List.take_of_length_le (by omega), ofB_str]
 | succ d ih =>
  intro i k hd hi hk
  obtain ⟨k, rfl⟩ : ∃ m, k = m + 2 := ⟨k - 2, by omega⟩
  have hb := ofB_len (l.take i)
  rw [List.length_take] at hb
  have hn := ofB_next l i (by omega)
  have hx : -2147483648 ≤ l.getD i 0 ∧ l.getD i 0 ≤ 2147483647 := by
   rw [List.getD_eq_getElem?_getD, List.getElem?_eq_getElem (by omega)]
   exact hw _ (List.getElem_mem _)
  have next := ih (i + 1) (k + 1) (by omega) (by omega) (by omega)
  rw [hn] at next
  simp only [epitomeref01_Of.l0]
  rw [if_pos (by omega), if_pos (by omega), size_f, Option.bind_some, w64 (x := (i : Int) + 1) (by omega) (by omega)]
  rw [show (i : Int) + 1 = ((i + 1 : Nat) : Int) by omega]
  unfold rd
  rw [Int.toNat_natCast]
  generalize l.getD i 0 = x at *
  simp only [w64 (x := x) (by omega) (by omega)]
  by_cases r : isRune x
  ·rw [if_pos r] at next
   unfold isRune at r
   rcases (by omega : (0 ≤ x ∧ x ≤ 127) ∨ (128 ≤ x ∧ x ≤ 2047) ∨ ((2048 ≤ x ∧ x < 55296) ∨ (57343 < x ∧ x ≤ 65535)) ∨ (65536 ≤ x ∧ x ≤ 1114111)) with g | g | g | g
   ·have z : sizeS x = 1 := by unfold sizeS; rw [if_neg (by omega), if_pos (by omega)]
    rw [Lib.encodeRuneZ_one g.1 g.2] at next
    rw [z, if_pos rfl, if_pos (by omega), Int.emod_eq_of_lt (by omega) (by omega)]
    exact next
   ·have z : sizeS x = 2 := by unfold sizeS; rw [if_neg (by omega), if_neg (by omega), if_pos (by omega)]
    rw [Lib.encodeRuneZ_two g.1 g.2] at next
    rw [z, if_neg (by decide), if_pos rfl, Option.bind_some, if_pos (by simp only [List.length_cons, List.length_nil]; omega)]
    rw [Int.tdiv_eq_ediv_of_nonneg (by omega), Int.tmod_eq_emod_of_nonneg (by omega), w64 (x := x / 64) (by omega) (by omega), w64 (x := 192 + x / 64) (by omega) (by omega), w64 (x := 128 + x % 64) (by omega) (by omega), Int.emod_eq_of_lt (a := 192 + x / 64) (by omega) (by omega), Int.emod_eq_of_lt (a := 128 + x % 64) (by omega) (by omega)]
    exact next
   ·have z : sizeS x = 3 := by unfold sizeS; rw [if_neg (by omega), if_neg (by omega), if_neg (by omega), if_pos (by omega)]
    have e : Lib.encodeRuneZ x = [224 + x / 4096, 128 + x / 64 % 64, 128 + x % 64] := by
     unfold Lib.encodeRuneZ; rw [if_neg (by omega), if_neg (by omega), if_pos g]
    rw [e] at next
    rw [z, if_neg (by decide), if_neg (by decide), if_pos rfl, Option.bind_some, if_pos (by simp only [List.length_cons, List.length_nil]; omega)]
    rw [Int.tdiv_eq_ediv_of_nonneg (b := 4096) (by omega), Int.tdiv_eq_ediv_of_nonneg (b := 64) (by omega), w64 (x := x / 64) (by omega) (by omega), Int.tmod_eq_emod_of_nonneg (a := x) (by omega), Int.tmod_eq_emod_of_nonneg (a := x / 64) (by omega), w64 (x := x / 4096) (by omega) (by omega), w64 (x := 224 + x / 4096) (by omega) (by omega), w64 (x := 128 + x / 64 % 64) (by omega) (by omega), w64 (x := 128 + x % 64) (by omega) (by omega),
     Int.emod_eq_of_lt (a := 224 + x / 4096) (by omega) (by omega), Int.emod_eq_of_lt (a := 128 + x / 64 % 64) (by omega) (by omega), Int.emod_eq_of_lt (a := 128 + x % 64) (by omega) (by omega)]
    exact next
   ·have z : sizeS x = 4 := by unfold sizeS; rw [if_neg (by omega), if_neg (by omega), if_neg (by omega), if_neg (by omega)]
    have e : Lib.encodeRuneZ x = [240 + x / 262144, 128 + x / 4096 % 64, 128 + x / 64 % 64, 128 + x % 64] := by
     unfold Lib.encodeRuneZ; rw [if_neg (by omega), if_neg (by omega), if_neg (by omega), if_pos g]
    rw [e] at next
    rw [z, if_neg (by decide), if_neg (by decide), if_neg (by decide), if_pos rfl, Option.bind_some, if_pos (by simp only [List.length_cons, List.length_nil]; omega)]
    rw [Int.tdiv_eq_ediv_of_nonneg (b := 262144) (by omega), Int.tdiv_eq_ediv_of_nonneg (b := 4096) (by omega), Int.tdiv_eq_ediv_of_nonneg (b := 64) (by omega), w64 (x := x / 64) (by omega) (by omega), w64 (x := x / 4096) (by omega) (by omega), Int.tmod_eq_emod_of_nonneg (a := x) (by omega), Int.tmod_eq_emod_of_nonneg (a := x / 64) (by omega), Int.tmod_eq_emod_of_nonneg (a := x / 4096) (by omega), w64 (x := x / 262144) (by omega) (by omega), w64 (x := 240 + x / 262144) (by omega) (by omega), w64 (x := 128 + x / 4096 % 64) (by omega) (by omega), w64 (x := 128 + x / 64 % 64) (by omega) (by omega), w64 (x := 128 + x % 64) (by omega) (by omega),
     Int.emod_eq_of_lt (a := 240 + x / 262144) (by omega) (by omega), Int.emod_eq_of_lt (a := 128 + x / 4096 % 64) (by omega) (by omega), Int.emod_eq_of_lt (a := 128 + x / 64 % 64) (by omega) (by omega), Int.emod_eq_of_lt (a := 128 + x % 64) (by omega) (by omega)]
    exact next
  ·rw [if_neg r, List.append_nil] at next
   have z : sizeS x = 0 := by unfold isRune at r; unfold sizeS; rw [if_pos (by omega)]
   rw [z, if_neg (by decide), if_neg (by decide), if_neg (by decide), if_neg (by decide)]
   exact next
theorem refOf (l : List Int) (hl : 4 * l.length < 140737488355000) (hw : ∀ x ∈ l, -2147483648 ≤ x ∧ x ≤ 2147483647) (k : Nat) (hk : l.length + 3 ≤ k) :
  epitomeref01_Of.f k l = some (enc (l.filter fun c => decide (isRune c))) := by
 unfold epitomeref01_Of.f
 exact of_l l hl hw l.length 0 k rfl (Nat.zero_le _) hk
theorem fit_rune (s : ByteArray) : Runes (epitomeref01_Fit.l s) := by
 intro c hc
 unfold epitomeref01_Fit.l at hc
 obtain ⟨b, _, rfl⟩ := List.mem_map.mp hc
 have h8 : b.toNat % 8 < 8 := Nat.mod_lt _ (by decide)
 generalize b.toNat % 8 = m at *
 rcases (by omega : m = 0 ∨ m = 1 ∨ m = 2 ∨ m = 3 ∨ m = 4 ∨ m = 5 ∨ m = 6 ∨ m = 7) with rfl | rfl | rfl | rfl | rfl | rfl | rfl | rfl <;> decide
theorem filter_runes {l : List Int} (h : Runes l) : (l.filter fun c => decide (isRune c)) = l := List.filter_eq_self.mpr fun c hc => by simpa using h c hc
theorem valid_ok {l : List Int} (h : Runes l) (hs : (enc l).size ≤ 9999) : points_Valid.f (enc l) = some true := by
 unfold points_Valid.f; rw [if_pos (by omega), validT_enc h]
theorem up {α : Type} {f : Nat → Option α} (h : ∀ k, LeO (f k) (f (k + 1))) {k k' : Nat} (hk : k ≤ k') {r : α} (e : f k = some r) : f k' = some r := by
 induction hk with
 | refl => exact e
 | step _ ih => exact h _ _ ih
theorem u8_of {m : Nat} {x : Int} (h : x = (m : Int)) : UInt8.ofNat m = x.toNat.toUInt8 := by subst h; rfl
theorem encode_rune {c : Int} (h : isRune c) : Utf8.encode c = enc [c] := by
 apply bytes_ext
 rw [enc_list, encB_cons, encB_nil, List.append_nil]
 obtain ⟨m, rfl⟩ : ∃ m : Nat, c = (m : Int) := ⟨c.toNat, by unfold isRune at h; omega⟩
 have v : Utf8.valid (m : Int) = true := by unfold isRune at h; simp [Utf8.valid]; omega
 unfold isRune at h
 unfold Lib.encodeRune
 by_cases c1 : m < 128
 ·rw [Lib.encodeRuneZ_one (by omega) (by omega)]
  simp only [Utf8.encode, v, if_true, Int.toNat_natCast, if_pos c1, List.map_cons, List.map_nil]
 by_cases c2 : m < 2048
 ·rw [Lib.encodeRuneZ_two (by omega) (by omega)]
  simp only [Utf8.encode, v, if_true, Int.toNat_natCast, if_neg c1, if_pos c2, List.map_cons, List.map_nil]
  rw [← u8_of (m := 192 + m / 64) (by omega), ← u8_of (m := 128 + m % 64) (by omega)]
 by_cases c3 : m < 65536
 ·rw [Lib.encodeRuneZ_three (by omega)]
  simp only [Utf8.encode, v, if_true, Int.toNat_natCast, if_neg c1, if_neg c2, if_pos c3, List.map_cons, List.map_nil]
  rw [← u8_of (m := 224 + m / 4096) (by omega), ← u8_of (m := 128 + m / 64 % 64) (by omega), ← u8_of (m := 128 + m % 64) (by omega)]
 ·rw [Lib.encodeRuneZ_four (by omega) (by omega)]
  simp only [Utf8.encode, v, if_true, Int.toNat_natCast, if_neg c1, if_neg c2, if_neg c3, List.map_cons, List.map_nil]
  rw [← u8_of (m := 240 + m / 262144) (by omega), ← u8_of (m := 128 + m / 4096 % 64) (by omega), ← u8_of (m := 128 + m / 64 % 64) (by omega), ← u8_of (m := 128 + m % 64) (by omega)]
theorem runesBytes_go : ∀ (l : List Int), Runes l → ∀ (b : List Int), (l.foldl (fun r n => r ++ Utf8.encode n) (enc b)) = enc (b ++ l)
 | [], _, b => by simp
 | c :: l, h, b => by
  rw [List.foldl_cons, encode_rune h.cons.1, enc_append, runesBytes_go l h.cons.2]
  simp
theorem runesBytes_enc {l : List Int} (h : Runes l) : runesBytes l = enc l := runesBytes_go l h []
theorem runesP_enc {l : List Int} (h : Runes l) : ∀ (d k b : Nat), l.length - k = d → k ≤ l.length → (enc l).size ≤ (encB (l.take k)).length + b → runesP (enc l) b (encB (l.take k)).length = l.drop k := by
 intro d
 induction d with
 | zero =>
  intro k b hd hk hb
  rw [List.drop_of_length_le (by omega), List.take_of_length_le (by omega)]
  cases b with
  | zero => rfl
  | succ b => rw [runesP, if_neg (by rw [enc_size]; omega)]
 | succ d ih =>
  intro k b hd hk hb
  have hlt := encB_take_lt (l := l) k (by omega)
  have hs := encB_take_succ (l := l) k (by omega)
  have h1 := (encodeRune_length (l.getD k 0)).1
  rw [enc_size] at hb
  cases b with
  | zero => omega
  | succ b =>
   have e : l.getD k 0 = l[k] := by rw [List.getD_eq_getElem?_getD, List.getElem?_eq_getElem (by omega)]; rfl
   have h0 : 0 ≤ l[k] := by have := h _ (List.getElem_mem (l := l) (n := k) (by omega)); unfold isRune at this; omega
   rw [runesP, if_pos (by rw [enc_size]; exact hlt), decode_enc h k (by omega) _ rfl]
   show ((l.getD k 0).toNat : Int) :: runesP (enc l) b ((encB (l.take k)).length + (Lib.encodeRune (l.getD k 0)).length) = _
   rw [← hs, ih (k + 1) b (by omega) (by omega) (by rw [enc_size]; omega), List.drop_eq_getElem_cons (show k < l.length by omega), e, Int.toNat_of_nonneg h0]
theorem runes_enc {l : List Int} (h : Runes l) : runesS (enc l) = l := by
 have := runesP_enc h l.length 0 (enc l).size rfl (Nat.zero_le _) (by simp [encB])
 simpa [encB, runesS] using this
abbrev sK (n : Int) : S25 := ⟨1, n, ⟨#[]⟩⟩
abbrev sD (n : Int) : S25 := ⟨3, n, ⟨#[]⟩⟩
abbrev sI (l : List Int) : S25 := ⟨2, 0, enc l⟩
theorem emp_enc : (⟨#[]⟩ : ByteArray) = enc [] := rfl
theorem enc_toList (l : List Int) : (enc l).toList = encB l := by rw [ByteArray.toList_eq]; rfl
theorem encB_ne {l : List Int} (h : l ≠ []) : encB l ≠ [] := by
 cases l with
 | nil => exact absurd rfl h
 | cons c l => rw [encB_cons]; exact encodeRune_ne _ _
theorem e_num (a n : Int) : normal_Of.e ⟨a, n, ⟨#[]⟩⟩ = decide (n = 0) := by
 unfold normal_Of.e
 rw [emp_enc, enc_toList, encB_nil]; simp
theorem e_text (a n : Int) {l : List Int} (h : l ≠ []) : normal_Of.e ⟨a, n, enc l⟩ = false := by
 unfold normal_Of.e
 rw [enc_toList]; simp [encB_ne h]
theorem normal_ok {l : List S25} (hl : l.length < 1000000000) (ht : normal_Of.t l < 140737488355328) : normal_Of.f l = some (normal_Of.n l) := if_pos ⟨hl, ht⟩
theorem emp_app : (⟨#[]⟩ : ByteArray) ++ ⟨#[]⟩ = ⟨#[]⟩ := rfl
theorem emp_size : (⟨#[]⟩ : ByteArray).size = 0 := rfl
def restN (f a m : Int) (s : ByteArray) (l : List S25) : List S25 := if a = m then l else ⟨f, a - m, s⟩ :: l
def restT (a m : Int) (l : List S25) : List Int := if a = m then loadT l else []
theorem cl_end (k : Nat) (xl yl : List S25) (xt yt : List Int) (out : List S25) (ho : out.length < 1000000000) (h2 : kindT yl ≠ 2) (h3 : kindT xl ≠ 3) (h : kindT xl = 0 ∨ kindT yl = 0) : compose_Of.l (k + 1) xl xt yl yt out = some out := by
 rw [compose_Of.l, if_pos ho, if_neg h2, if_neg h3]
 split
 ·rfl
 ·rw [if_pos (h.resolve_left (by assumption))]
theorem kindT_cons (x : S25) (l : List S25) : kindT (x :: l) = x.f0 := rfl
theorem kne (f a : Int) (s : ByteArray) (l : List S25) (n : Int) (h : f ≠ n) : ¬ kindT (⟨f, a, s⟩ :: l) = n := h
theorem cl_put (k : Nat) (xl ys : List S25) (xt yt : List Int) (s : ByteArray) (out : List S25) (hy : Runes yt) (hn : yt.length ≤ 1000000) (ho : out.length < 1000000000) :
  compose_Of.l (k + 1) xl xt (⟨2, 0, s⟩ :: ys) yt out = compose_Of.l k xl xt ys (loadT ys) (out ++ [sI yt]) := by
 rw [compose_Of.l, if_pos ho]
 simp only [kindT_cons]
 rw [if_pos trivial, compose_Of.sz, Option.bind_some, compose_Of.tk, if_pos rfl]
 rw [w64 (x := 0 + (yt.length : Int)) (by omega) (by omega), if_pos (by omega), Option.bind_some, Int.zero_add, Int.toNat_natCast, List.take_length, List.drop_length, runesBytes_enc hy]
 simp [wrap64]
theorem cl_drop (k : Nat) (xs yl : List S25) (yt : List Int) (n : Int) (s : ByteArray) (out : List S25) (h0 : 0 ≤ n) (hn : n ≤ 1048576) (hy : kindT yl ≠ 2) (ho : out.length < 1000000000) :
  compose_Of.l (k + 1) (⟨3, n, s⟩ :: xs) [] yl yt out = compose_Of.l k xs (loadT xs) yl yt (out ++ [sD n]) := by
 rw [compose_Of.l, if_pos ho]
 simp only [kindT_cons]
 rw [if_neg hy, if_pos trivial, compose_Of.sz, Option.bind_some, compose_Of.tk, if_neg (show ¬ (3 : Int) = 2 by decide)]
 have e : wrap64 (n + (([] : List Int).length : Int)) = n := by rw [w64 (by simp; omega) (by simp; omega)]; simp
 rw [e, Option.bind_some, Int.sub_self]
 simp [wrap64]
theorem mn_le (a b : Int) : mn a b ≤ a ∧ mn a b ≤ b ∧ (mn a b = a ∨ mn a b = b) := by unfold mn; split <;> omega
theorem tk_num {f a m : Int} {s : ByteArray} {l : List S25} (hf : f ≠ 2) (h0 : 0 ≤ m) (h1 : m ≤ a) (ha : a ≤ 1048576) : compose_Of.tk (⟨f, a, s⟩ :: l) [] m = some (⟨f, m, ⟨#[]⟩⟩, restN f a m s l, restT a m l) := by
 rw [compose_Of.tk, if_neg hf]
 have e : wrap64 (a - m) = a - m := w64 (by omega) (by omega)
 have e2 : wrap64 (a - m + (([] : List Int).length : Int)) = a - m := by rw [w64 (by simp; omega) (by simp; omega)]; simp
 simp only [e, e2, restN, restT]
 by_cases c : a = m
 ·subst c; simp
 ·have c2 : ¬ a - m = 0 := by omega
  simp only [c, c2, if_false]
theorem tk_text {m : Int} {s : ByteArray} {l : List S25} {t : List Int} (ht : Runes t) (hn : t.length ≤ 1000000) (h0 : 0 ≤ m) (h1 : m ≤ (t.length : Int)) : compose_Of.tk (⟨2, 0, s⟩ :: l) t m = some (sI (t.take m.toNat), (if (t.length : Int) = m then l else ⟨2, 0, s⟩ :: l), (if (t.length : Int) = m then loadT l else t.drop m.toNat)) := by
 rw [compose_Of.tk, if_pos rfl, if_pos ⟨h0, h1⟩, runesBytes_enc (ht.take _)]
 have d : ((t.drop m.toNat).length : Int) = (t.length : Int) - m := by rw [List.length_drop]; omega
 have e : wrap64 (0 + ((t.drop m.toNat).length : Int)) = (t.length : Int) - m := by rw [d, Int.zero_add]; exact w64 (by omega) (by omega)
 show some (_, (if wrap64 (0 + ((t.drop m.toNat).length : Int)) = 0 then l else _), (if wrap64 (0 + ((t.drop m.toNat).length : Int)) = 0 then _ else _)) = _
 rw [e]
 by_cases c : (t.length : Int) = m
 ·rw [if_pos c, if_pos c, if_pos (by omega), if_pos (by omega)]
 ·rw [if_neg c, if_neg c, if_neg (by omega), if_neg (by omega)]
theorem sz_num {f a : Int} {s : ByteArray} {l : List S25} (h0 : 0 ≤ a) (h1 : a ≤ 1048576) : compose_Of.sz (⟨f, a, s⟩ :: l) [] = some a := by
 rw [compose_Of.sz, w64 (by simp; omega) (by simp; omega)]; simp
theorem sz_text {s : ByteArray} {l : List S25} {t : List Int} (hn : t.length ≤ 1000000) : compose_Of.sz (⟨2, 0, s⟩ :: l) t = some (t.length : Int) := by
 show some (wrap64 (0 + (t.length : Int))) = _
 rw [w64 (by omega) (by omega), Int.zero_add]
theorem cl_KK (k : Nat) (xs ys : List S25) (a b : Int) (s t : ByteArray) (out : List S25) (ha : 0 ≤ a) (ha1 : a ≤ 1048576) (hb : 0 ≤ b) (hb1 : b ≤ 1048576) (ho : out.length < 1000000000) :
  compose_Of.l (k + 1) (⟨1, a, s⟩ :: xs) [] (⟨1, b, t⟩ :: ys) [] out = compose_Of.l k (restN 1 a (mn a b) s xs) (restT a (mn a b) xs) (restN 1 b (mn a b) t ys) (restT b (mn a b) ys) (out ++ [sK (mn a b)]) := by
 have m := mn_le a b
 rw [compose_Of.l, if_pos ho, if_neg (kne 1 b t ys 2 (by decide)), if_neg (kne 1 a s xs 3 (by decide)), if_neg (kne 1 a s xs 0 (by decide)), if_neg (kne 1 b t ys 0 (by decide)), sz_num ha ha1, Option.bind_some, sz_num hb hb1, Option.bind_some,
  tk_num (by decide) (by omega) m.1 ha1, Option.bind_some, tk_num (by decide) (by omega) m.2.1 hb1, Option.bind_some, if_pos rfl]
theorem cl_KD (k : Nat) (xs ys : List S25) (a b : Int) (s t : ByteArray) (out : List S25) (ha : 0 ≤ a) (ha1 : a ≤ 1048576) (hb : 0 ≤ b) (hb1 : b ≤ 1048576) (ho : out.length < 1000000000) :
  compose_Of.l (k + 1) (⟨1, a, s⟩ :: xs) [] (⟨3, b, t⟩ :: ys) [] out = compose_Of.l k (restN 1 a (mn a b) s xs) (restT a (mn a b) xs) (restN 3 b (mn a b) t ys) (restT b (mn a b) ys) (out ++ [sD (mn a b)]) := by
 have m := mn_le a b
 rw [compose_Of.l, if_pos ho, if_neg (kne 3 b t ys 2 (by decide)), if_neg (kne 1 a s xs 3 (by decide)), if_neg (kne 1 a s xs 0 (by decide)), if_neg (kne 3 b t ys 0 (by decide)), sz_num ha ha1, Option.bind_some, sz_num hb hb1, Option.bind_some,
  tk_num (by decide) (by omega) m.1 ha1, Option.bind_some, tk_num (by decide) (by omega) m.2.1 hb1, Option.bind_some, if_neg (show ¬ (3 : Int) = 1 by decide), if_pos rfl]
theorem cl_IK (k : Nat) (xs ys : List S25) (xt : List Int) (b : Int) (s t : ByteArray) (out : List S25) (hx : Runes xt) (hn : xt.length ≤ 1000000) (hb : 0 ≤ b) (hb1 : b ≤ 1048576) (ho : out.length < 1000000000) :
  compose_Of.l (k + 1) (⟨2, 0, s⟩ :: xs) xt (⟨1, b, t⟩ :: ys) [] out = compose_Of.l k (if (xt.length : Int) = mn xt.length b then xs else ⟨2, 0, s⟩ :: xs) (if (xt.length : Int) = mn xt.length b then loadT xs else xt.drop (mn xt.length b).toNat) (restN 1 b (mn xt.length b) t ys) (restT b (mn xt.length b) ys) (out ++ [sI (xt.take (mn xt.length b).toNat)]) := by
 have m := mn_le xt.length b
 rw [compose_Of.l, if_pos ho, if_neg (kne 1 b t ys 2 (by decide)), if_neg (kne 2 0 s xs 3 (by decide)), if_neg (kne 2 0 s xs 0 (by decide)), if_neg (kne 1 b t ys 0 (by decide)), sz_text hn, Option.bind_some, sz_num hb hb1, Option.bind_some,
  tk_text hx hn (by omega) m.1, Option.bind_some, tk_num (by decide) (by omega) m.2.1 hb1, Option.bind_some, if_pos rfl]
theorem cl_ID (k : Nat) (xs ys : List S25) (xt : List Int) (b : Int) (s t : ByteArray) (out : List S25) (hx : Runes xt) (hn : xt.length ≤ 1000000) (hb : 0 ≤ b) (hb1 : b ≤ 1048576) (ho : out.length < 1000000000) :
  compose_Of.l (k + 1) (⟨2, 0, s⟩ :: xs) xt (⟨3, b, t⟩ :: ys) [] out = compose_Of.l k (if (xt.length : Int) = mn xt.length b then xs else ⟨2, 0, s⟩ :: xs) (if (xt.length : Int) = mn xt.length b then loadT xs else xt.drop (mn xt.length b).toNat) (restN 3 b (mn xt.length b) t ys) (restT b (mn xt.length b) ys) out := by
 have m := mn_le xt.length b
 rw [compose_Of.l, if_pos ho, if_neg (kne 3 b t ys 2 (by decide)), if_neg (kne 2 0 s xs 3 (by decide)), if_neg (kne 2 0 s xs 0 (by decide)), if_neg (kne 3 b t ys 0 (by decide)), sz_text hn, Option.bind_some, sz_num hb hb1, Option.bind_some,
  tk_text hx hn (by omega) m.1, Option.bind_some, tk_num (by decide) (by omega) m.2.1 hb1, Option.bind_some, if_neg (show ¬ (3 : Int) = 1 by decide), if_neg (show ¬ (2 : Int) = 1 by decide)]
theorem ol_end (k : Nat) (out : List S25) (ho : out.length < 1000000000) : over_Of.l (k + 1) [] [] out = some out := by rw [over_Of.l, if_pos ho]; rfl
theorem ol_a (k : Nat) (a s : List S25) (n f b : Int) (t u : ByteArray) (out : List S25) (hf : f ≠ 2) (ho : out.length < 1000000000) :
  over_Of.l (k + 1) (⟨2, n, t⟩ :: a) (⟨f, b, u⟩ :: s) out = over_Of.l k a (⟨f, b, u⟩ :: s) (out ++ [⟨2, n, t⟩]) := by
 rw [over_Of.l, if_pos ho, over_Of.st, if_neg hf]
 rfl
theorem ol_a0 (k : Nat) (a : List S25) (n : Int) (t : ByteArray) (out : List S25) (ho : out.length < 1000000000) :
  over_Of.l (k + 1) (⟨2, n, t⟩ :: a) [] out = over_Of.l k a [] (out ++ [⟨2, n, t⟩]) := by
 rw [over_Of.l, if_pos ho, over_Of.st, if_pos rfl]
theorem cut_ok {f a m : Int} {s : ByteArray} {l : List S25} (h0 : 0 ≤ m) (h1 : m ≤ a) (ha : a ≤ 1048576) : over_Of.cut (⟨f, a, s⟩ :: l) m = some (restN f a m s l) := by
 have e : wrap64 (a - m) = a - m := w64 (by omega) (by omega)
 show some (if wrap64 (a - m) = 0 then l else ⟨f, wrap64 (a - m), s⟩ :: l) = _
 rw [e, restN]
 by_cases c : a = m
 ·rw [if_pos c, if_pos (by omega)]
 ·rw [if_neg c, if_neg (by omega)]
theorem ol_K (k : Nat) (xs ys : List S25) (f a b : Int) (s t : ByteArray) (out : List S25) (hf : f ≠ 2) (ha : 0 ≤ a) (ha1 : a ≤ 1048576) (hb : 0 ≤ b) (hb1 : b ≤ 1048576) (ho : out.length < 1000000000) :
  over_Of.l (k + 1) (⟨f, a, s⟩ :: xs) (⟨1, b, t⟩ :: ys) out = over_Of.l k (restN f a (mn a b) s xs) (restN 1 b (mn a b) t ys) (out ++ [⟨f, mn a b, ⟨#[]⟩⟩]) := by
 have m := mn_le a b
 rw [over_Of.l, if_pos ho, over_Of.st, if_neg (show ¬ (1 : Int) = 2 by decide)]
 simp only []
 rw [if_neg hf, cut_ok (by omega) m.1 ha1, Option.bind_some, cut_ok (by omega) m.2.1 hb1, Option.bind_some, if_pos trivial]
theorem ol_D (k : Nat) (xs ys : List S25) (f a b : Int) (s t : ByteArray) (out : List S25) (hf : f ≠ 2) (ha : 0 ≤ a) (ha1 : a ≤ 1048576) (hb : 0 ≤ b) (hb1 : b ≤ 1048576) (ho : out.length < 1000000000) :
  over_Of.l (k + 1) (⟨f, a, s⟩ :: xs) (⟨3, b, t⟩ :: ys) out = over_Of.l k (restN f a (mn a b) s xs) (restN 3 b (mn a b) t ys) out := by
 have m := mn_le a b
 rw [over_Of.l, if_pos ho, over_Of.st, if_neg (show ¬ (3 : Int) = 2 by decide)]
 simp only []
 rw [if_neg hf, cut_ok (by omega) m.1 ha1, Option.bind_some, cut_ok (by omega) m.2.1 hb1, Option.bind_some, if_neg (show ¬ (3 : Int) = 1 by decide)]
inductive At | K | D | I (c : Int) deriving DecidableEq
def At.kd : At → Int | .K => 1 | .D => 3 | .I _ => 2
def At.i : At → Nat | .K => 1 | .D => 1 | .I _ => 0
def At.o : At → Nat | .K => 1 | .D => 0 | .I _ => 1
def ins (l : List At) : Nat := (l.map At.i).sum
def outs (l : List At) : Nat := (l.map At.o).sum
theorem ins_nil : ins [] = 0 := rfl
theorem outs_nil : outs [] = 0 := rfl
theorem ins_cons (a : At) (l : List At) : ins (a :: l) = a.i + ins l := by simp [ins]
theorem outs_cons (a : At) (l : List At) : outs (a :: l) = a.o + outs l := by simp [outs]
theorem ins_app (a b : List At) : ins (a ++ b) = ins a + ins b := by simp [ins]
theorem outs_app (a b : List At) : outs (a ++ b) = outs a + outs b := by simp [outs]
theorem ins_K (n : Nat) : ins (List.replicate n At.K) = n := by induction n with | zero => rfl | succ n ih => rw [List.replicate_succ, ins_cons, ih]; simp [At.i]; omega
theorem ins_D (n : Nat) : ins (List.replicate n At.D) = n := by induction n with | zero => rfl | succ n ih => rw [List.replicate_succ, ins_cons, ih]; simp [At.i]; omega
theorem outs_K (n : Nat) : outs (List.replicate n At.K) = n := by induction n with | zero => rfl | succ n ih => rw [List.replicate_succ, outs_cons, ih]; simp [At.o]; omega
theorem outs_D (n : Nat) : outs (List.replicate n At.D) = 0 := by induction n with | zero => rfl | succ n ih => rw [List.replicate_succ, outs_cons, ih]; simp [At.o]
theorem ins_I (t : List Int) : ins (t.map At.I) = 0 := by induction t with | nil => rfl | cons c t ih => rw [List.map_cons, ins_cons, ih]; simp [At.i]
theorem outs_I (t : List Int) : outs (t.map At.I) = t.length := by induction t with | nil => rfl | cons c t ih => rw [List.map_cons, outs_cons, ih]; simp [At.o]; omega
theorem ins_le (l : List At) : ins l ≤ l.length := by
  induction l with
  | nil => exact Nat.le_refl _
  | cons a l ih => rw [ins_cons, List.length_cons]; have : a.i ≤ 1 := by cases a <;> simp [At.i]
                   omega
theorem outs_le (l : List At) : outs l ≤ l.length := by
  induction l with
  | nil => exact Nat.le_refl _
  | cons a l ih => rw [outs_cons, List.length_cons]; have : a.o ≤ 1 := by cases a <;> simp [At.o]
                   omega
def okA (x : S25) : Prop := ((x.f0 = 1 ∨ x.f0 = 3) ∧ 0 ≤ x.f1 ∧ x.f2 = ⟨#[]⟩) ∨ (x.f0 = 2 ∧ x.f1 = 0 ∧ ∃ l, Runes l ∧ x.f2 = enc l)
def at1 (x : S25) : List At := if x.f0 = 2 then (runesS x.f2).map At.I else List.replicate x.f1.toNat (if x.f0 = 1 then At.K else At.D)
def ats (l : List S25) : List At := l.flatMap at1
theorem ats_nil : ats [] = [] := rfl
theorem ats_cons (x : S25) (l : List S25) : ats (x :: l) = at1 x ++ ats l := by simp [ats]
theorem ats_app (a b : List S25) : ats (a ++ b) = ats a ++ ats b := by simp [ats]
theorem at1_K (n : Int) (s : ByteArray) : at1 ⟨1, n, s⟩ = List.replicate n.toNat At.K := rfl
theorem at1_D (n : Int) (s : ByteArray) : at1 ⟨3, n, s⟩ = List.replicate n.toNat At.D := rfl
theorem at1_I {t : List Int} (n : Int) (h : Runes t) : at1 ⟨2, n, enc t⟩ = t.map At.I := by show (runesS (enc t)).map At.I = _; rw [runes_enc h]
theorem okA_cases {x : S25} (h : okA x) : (∃ n : Nat, x = ⟨1, (n : Int), ⟨#[]⟩⟩) ∨ (∃ n : Nat, x = ⟨3, (n : Int), ⟨#[]⟩⟩) ∨ (∃ t, Runes t ∧ x = ⟨2, 0, enc t⟩) := by
 obtain ⟨a, n, s⟩ := x
 rcases h with ⟨ha | ha, h0, h2⟩ | ⟨ha, h0, t, ht, h2⟩
 ·simp only at ha h0 h2; subst ha h2; exact .inl ⟨n.toNat, by rw [Int.toNat_of_nonneg h0]⟩
 ·simp only at ha h0 h2; subst ha h2; exact .inr (.inl ⟨n.toNat, by rw [Int.toNat_of_nonneg h0]⟩)
 ·simp only at ha h0 h2; subst ha h0 h2; exact .inr (.inr ⟨t, ht, rfl⟩)
theorem okA_K (n : Nat) : okA ⟨1, (n : Int), ⟨#[]⟩⟩ := .inl ⟨.inl rfl, Int.natCast_nonneg n, rfl⟩
theorem okA_D (n : Nat) : okA ⟨3, (n : Int), ⟨#[]⟩⟩ := .inl ⟨.inr rfl, Int.natCast_nonneg n, rfl⟩
theorem okA_I {t : List Int} (h : Runes t) : okA ⟨2, 0, enc t⟩ := .inr ⟨rfl, rfl, t, h, rfl⟩
theorem enc_le4 (t : List Int) : (enc t).size ≤ 4 * t.length := by
 rw [enc_size]
 induction t with
 | nil => simp [encB]
 | cons c t ih => rw [encB_cons, List.length_append, List.length_cons]; have := (encodeRune_length c).2; omega
theorem enc_sz {t : List Int} (h : t.length ≤ 1000000) : (enc t).size ≤ 4000000 := by have := enc_le4 t; omega
theorem count_big {l : List Int} (h : Runes l) (hs : (enc l).size ≤ 1000000000) : points_Count.f (enc l) = some (l.length : Int) := by
 unfold points_Count.f; rw [if_pos (by omega), countT_enc h]
theorem valid_big {l : List Int} (h : Runes l) (hs : (enc l).size ≤ 1000000000) : points_Valid.f (enc l) = some true := by
 unfold points_Valid.f; rw [if_pos (by omega), validT_enc h]
abbrev W (l : List S25) : Prop := ∀ x ∈ l, okA x
theorem W_cons {x : S25} {l : List S25} : W (x :: l) ↔ okA x ∧ W l := List.forall_mem_cons
theorem W_app {a b : List S25} : W (a ++ b) ↔ W a ∧ W b := by
 constructor
 ·exact fun h => ⟨fun x hx => h x (List.mem_append_left _ hx), fun x hx => h x (List.mem_append_right _ hx)⟩
 ·rintro ⟨h1, h2⟩ x hx
  exact (List.mem_append.mp hx).elim (h1 x) (h2 x)
theorem text_le {l : List S25} (h : W l) : normal_Of.t l ≤ 4 * (ats l).length := by
 induction l with
 | nil => simp [normal_Of.t]
 | cons x l ih =>
  obtain ⟨hx, hl⟩ := W_cons.1 h
  have := ih hl
  rw [normal_Of.t, ats_cons, List.length_append]
  rcases okA_cases hx with ⟨n, rfl⟩ | ⟨n, rfl⟩ | ⟨t, ht, rfl⟩
  ·show (⟨#[]⟩ : ByteArray).size + _ ≤ _; rw [emp_size]; omega
  ·show (⟨#[]⟩ : ByteArray).size + _ ≤ _; rw [emp_size]; omega
  ·rw [at1_I 0 ht, List.length_map]
   have := enc_le4 t
   show (enc t).size + _ ≤ _
   omega
theorem in_1 {x : S25} (h : okA x) : span_In.f x.f0 x.f1 x.f2 = some (ins (at1 x) : Int) := by
 rcases okA_cases h with ⟨n, rfl⟩ | ⟨n, rfl⟩ | ⟨t, ht, rfl⟩
 ·rw [at1_K, ins_K]; simp [span_In.f, span_of.f]
 ·rw [at1_D, ins_D]; simp [span_In.f, span_of.f]
 ·rw [at1_I 0 ht, ins_I]; simp [span_In.f, span_of.f]
theorem out_1 {x : S25} (h : okA x) (hb : (at1 x).length ≤ 1000000) : span_Out.f x.f0 x.f1 x.f2 = some (outs (at1 x) : Int) := by
 rcases okA_cases h with ⟨n, rfl⟩ | ⟨n, rfl⟩ | ⟨t, ht, rfl⟩
 ·rw [at1_K, outs_K]; simp [span_Out.f, span_of.f]
 ·rw [at1_D, outs_D]; simp [span_Out.f, span_of.f]
 ·rw [at1_I 0 ht, List.length_map] at hb
  have := enc_sz hb
  rw [at1_I 0 ht, outs_I]
  simp [span_Out.f, span_of.f, count_big ht (by omega), mx]
  intro hn; omega
theorem sum_go {F : S25 → Option Int} {g : List At → Nat} (hg : ∀ a b, g (a ++ b) = g a + g b) (h0 : g [] = 0) : ∀ (l : List S25) (a : Int), (∀ x ∈ l, F x = some (g (at1 x) : Int)) → 0 ≤ a → a + (g (ats l) : Int) ≤ 1000000000000 → op_sum.l F a l = some (a + (g (ats l) : Int)) := by
 intro l
 induction l with
 | nil => intro a _ _ _; rw [ats_nil, h0]; simp [op_sum.l]
 | cons x l ih =>
  intro a hx h0 ha
  obtain ⟨h1, hl⟩ := List.forall_mem_cons.1 hx
  rw [ats_cons, hg] at ha ⊢
  rw [op_sum.l, h1, Option.bind_some, w64 (by omega) (by omega), ih _ hl (by omega) (by omega)]
  congr 1; omega
theorem in_A {l : List S25} (h : W l) (hb : (ats l).length ≤ 1000000) (hl : l.length ≤ 1000000) : op_In.f l = some (ins (ats l) : Int) := by
 unfold op_In.f
 have := ins_le (ats l)
 rw [if_pos (by omega), sum_go ins_app ins_nil l 0 (fun x hx => in_1 (h x hx)) (by omega) (by omega)]
 simp
theorem at1_le {x : S25} {l : List S25} (h : x ∈ l) : (at1 x).length ≤ (ats l).length := by
 induction l with
 | nil => cases h
 | cons y l ih =>
  rw [ats_cons, List.length_append]
  rcases List.mem_cons.1 h with rfl | h
  ·omega
  ·have := ih h; omega
theorem out_A {l : List S25} (h : W l) (hb : (ats l).length ≤ 1000000) (hl : l.length ≤ 1000000) : op_Out.f l = some (outs (ats l) : Int) := by
 unfold op_Out.f
 have := outs_le (ats l)
 rw [if_pos (by omega), sum_go outs_app outs_nil l 0 (fun x hx => out_1 (h x hx) (by have := at1_le hx; omega)) (by omega) (by omega)]
 simp
theorem may_1 {x : S25} (h : okA x) (hb : (at1 x).length ≤ 1000000) : span_May.f 3 x.f0 x.f1 x.f2 = some 0 := by
 have e4 : points_Valid.f ⟨#[]⟩ = some true := by rw [emp_enc]; exact valid_ok (fun _ h => by cases h) (by decide)
 rcases okA_cases h with ⟨n, rfl⟩ | ⟨n, rfl⟩ | ⟨t, ht, rfl⟩
 ·rw [at1_K, List.length_replicate] at hb
  have e1 : ¬ (n : Int) < 0 := by omega
  have e2 : ¬ (n : Int) > 1048576 := by omega
  simp [span_May.f, span_of.f, span_May.j0, span_May.j1, span_May.j2, e1, e2, e4]
 ·rw [at1_D, List.length_replicate] at hb
  have e1 : ¬ (n : Int) < 0 := by omega
  have e2 : ¬ (n : Int) > 1048576 := by omega
  simp [span_May.f, span_of.f, span_May.j0, span_May.j1, span_May.j2, e1, e2, e4]
 ·rw [at1_I 0 ht, List.length_map] at hb
  have := enc_sz hb
  simp [span_May.f, span_of.f, span_May.j0, span_May.j1, span_May.j2, valid_big ht (by omega)]
theorem may_A {l : List S25} (h : W l) (hb : (ats l).length ≤ 1000000) (hl : l.length ≤ 1000000) (k : Nat) (hk : l.length + 4 ≤ k) : op_May.f k l = some 0 := by
 have hi := ins_le (ats l)
 have go : ∀ (d i k : Nat), l.length - i = d → i ≤ l.length → d + 4 ≤ k → op_May.l0 k l l (l.length : Int) (i : Int) = some 0 := by
  intro d
  induction d with
  | zero =>
   intro i k hd hi hk
   obtain ⟨k, rfl⟩ : ∃ j, k = j + 1 := ⟨k - 1, by omega⟩
   rw [op_May.l0, if_neg (by omega), in_A h hb hl, Option.bind_some, if_neg (by omega)]
  | succ d ih =>
   intro i k hd hi hk
   obtain ⟨k, rfl⟩ : ∃ j, k = j + 1 := ⟨k - 1, by omega⟩
   have hm : rd_T25 l (i : Int) ∈ l := by
    unfold rd_T25
    rw [Int.toNat_natCast, List.getD_eq_getElem?_getD, List.getElem?_eq_getElem (by omega)]
    exact List.getElem_mem _
   rw [op_May.l0, if_pos (by omega), if_pos (by omega), if_pos (by omega), up (span_May.mono _ _ _) (by omega : 3 ≤ k) (may_1 (h _ hm) (by have := at1_le hm; omega)), Option.bind_some, if_pos rfl, w64 (by omega) (by omega), show (i : Int) + 1 = ((i + 1 : Nat) : Int) by omega]
   exact ih (i + 1) k (by omega) (by omega) (by omega)
 exact go _ 0 k rfl (Nat.zero_le _) (by omega)
def ne (x : S25) : Prop := at1 x ≠ []
def Alt : List S25 → Prop
 | [] => True
 | x :: l => ne x ∧ (∀ y l', l = y :: l' → x.f0 ≠ y.f0) ∧ Alt l
theorem e_iff {x : S25} (h : okA x) : normal_Of.e x = true ↔ at1 x = [] := by
 rcases okA_cases h with ⟨n, rfl⟩ | ⟨n, rfl⟩ | ⟨t, ht, rfl⟩
 ·rw [e_num, at1_K]; simp
 ·rw [e_num, at1_D]; simp
 ·rw [at1_I 0 ht]
  by_cases c : t = []
  ·subst c; simp [e_num, show enc [] = (⟨#[]⟩ : ByteArray) from rfl]
  ·rw [e_text _ _ c]; simp [c]
theorem keep_ats : ∀ l : List S25, W l → ats (normal_Of.keep l) = ats l
 | [], _ => rfl
 | x :: l, h => by
  obtain ⟨hx, hl⟩ := W_cons.1 h
  have ih := keep_ats l hl
  unfold normal_Of.keep at *
  rw [List.filter_cons, ats_cons]
  by_cases c : normal_Of.e x = true
  ·rw [if_neg (by simp [c]), ih, (e_iff hx).1 c]; rfl
  ·rw [if_pos (by simpa using c), ats_cons, ih]
theorem keep_A {l : List S25} (h : W l) : W (normal_Of.keep l) ∧ (∀ x ∈ normal_Of.keep l, ne x) ∧ ats (normal_Of.keep l) = ats l ∧ (normal_Of.keep l).length ≤ l.length := by
 refine ⟨fun x hx => h x (List.mem_filter.1 hx).1, fun x hx => ?_, ?_, List.length_filter_le _ _⟩
 ·obtain ⟨hm, he⟩ := List.mem_filter.1 hx
  intro c
  rw [← e_iff (h x hm)] at c
  simp [c] at he
 ·exact keep_ats l h
theorem step_last (d : List S25) (y x : S25) : normal_Of.step (d ++ [y]) x = if x.f0 = y.f0 then d ++ [⟨y.f0, wrap64 (y.f1 + x.f1), y.f2 ++ x.f2⟩] else d ++ [y] ++ [x] := by
 have e1 : (d ++ [y]).length - 1 = d.length := by simp
 have e2 : rd_T25 (d ++ [y]) ((d.length : Nat) : Int) = y := by
  unfold rd_T25; rw [Int.toNat_natCast, List.getD_eq_getElem?_getD]; simp
 unfold normal_Of.step
 rw [if_neg (by simp), e1, e2]
 congr 1
 rw [List.set_append_right _ _ (Nat.le_refl _), Nat.sub_self]; rfl
theorem alt_snoc {d : List S25} {x : S25} (h : Alt d) (hx : ne x) (hk : ∀ d' y, d = d' ++ [y] → y.f0 ≠ x.f0) : Alt (d ++ [x]) := by
 induction d with
 | nil => exact ⟨hx, fun y l' e => by simp at e, trivial⟩
 | cons z d ih =>
  obtain ⟨h1, h2, h3⟩ := h
  refine ⟨h1, fun y l' e => ?_, ih h3 (fun d' y e => hk (z :: d') y (by rw [e]; rfl))⟩
  cases d with
  | nil => have e : [x] = y :: l' := e; injection e with e _; subst e; exact hk [] z rfl
  | cons w d => have e : w :: (d ++ [x]) = y :: l' := e; injection e with e _; subst e; exact h2 w d rfl
theorem alt_set {d : List S25} {y z : S25} (h : Alt (d ++ [y])) (hz : ne z) (hk : z.f0 = y.f0) : Alt (d ++ [z]) := by
 induction d with
 | nil => exact ⟨hz, fun y l' e => by simp at e, trivial⟩
 | cons w d ih =>
  obtain ⟨h1, h2, h3⟩ := h
  refine ⟨h1, fun u l' e => ?_, ih h3⟩
  cases d with
  | nil => have e : [z] = u :: l' := e; injection e with e _; subst e; rw [hk]; exact h2 y [] rfl
  | cons v d => have e : v :: (d ++ [z]) = u :: l' := e; injection e with e _; subst e; exact h2 v (d ++ [y]) rfl
theorem merge_A {x y : S25} (hx : okA x) (hy : okA y) (hk : x.f0 = y.f0) (hb : (at1 y).length + (at1 x).length ≤ 1000000) : okA ⟨y.f0, wrap64 (y.f1 + x.f1), y.f2 ++ x.f2⟩ ∧ at1 ⟨y.f0, wrap64 (y.f1 + x.f1), y.f2 ++ x.f2⟩ = at1 y ++ at1 x := by
 rcases okA_cases hy with ⟨n, rfl⟩ | ⟨n, rfl⟩ | ⟨t, ht, rfl⟩ <;> rcases okA_cases hx with ⟨m, rfl⟩ | ⟨m, rfl⟩ | ⟨u, hu, rfl⟩ <;> simp only at hk <;> try (exact absurd hk (by decide))
 ·rw [at1_K, at1_K, List.length_replicate, List.length_replicate] at hb
  simp only [emp_app]
  rw [w64 (by omega) (by omega), show (n : Int) + m = ((n + m : Nat) : Int) by omega]
  exact ⟨okA_K _, by rw [at1_K, at1_K, at1_K, Int.toNat_natCast, Int.toNat_natCast, Int.toNat_natCast, List.replicate_append_replicate]⟩
 ·rw [at1_D, at1_D, List.length_replicate, List.length_replicate] at hb
  simp only [emp_app]
  rw [w64 (by omega) (by omega), show (n : Int) + m = ((n + m : Nat) : Int) by omega]
  exact ⟨okA_D _, by rw [at1_D, at1_D, at1_D, Int.toNat_natCast, Int.toNat_natCast, Int.toNat_natCast, List.replicate_append_replicate]⟩
 ·have e0 : wrap64 ((0 : Int) + 0) = 0 := by simp [wrap64]
  simp only [enc_append, e0]
  exact ⟨okA_I (ht.append hu), by rw [at1_I 0 (ht.append hu), at1_I 0 ht, at1_I 0 hu, List.map_append]⟩
theorem step_A {d : List S25} {x : S25} (hd : W d) (ha : Alt d) (hx : okA x) (hn : ne x) (hb : (ats d).length + (at1 x).length ≤ 1000000) : W (normal_Of.step d x) ∧ Alt (normal_Of.step d x) ∧ ats (normal_Of.step d x) = ats d ++ at1 x ∧ (normal_Of.step d x).length ≤ d.length + 1 := by
 refine ⟨?_, ?_, ?_, (normal_Of.step_len d x).2⟩
 all_goals
  rcases List.eq_nil_or_concat d with rfl | ⟨d, y, rfl⟩
 ·rw [show normal_Of.step [] x = [x] from rfl]; exact W_cons.2 ⟨hx, fun _ h => by cases h⟩
 ·rw [List.concat_eq_append] at *
  rw [step_last]
  obtain ⟨h1, h2⟩ := W_app.1 hd
  have hy : okA y := h2 y (by simp)
  split
  ·rename_i c
   rw [ats_app, ats_cons, ats_nil, List.append_nil, List.length_append] at hb
   exact W_app.2 ⟨h1, W_cons.2 ⟨(merge_A hx hy c (by omega)).1, fun _ h => by cases h⟩⟩
  ·exact W_app.2 ⟨hd, W_cons.2 ⟨hx, fun _ h => by cases h⟩⟩
 ·rw [show normal_Of.step [] x = [x] from rfl]; exact ⟨hn, fun y l' e => by simp at e, trivial⟩
 ·rw [List.concat_eq_append] at *
  rw [step_last]
  obtain ⟨h1, h2⟩ := W_app.1 hd
  have hy : okA y := h2 y (by simp)
  split
  ·rename_i c
   rw [ats_app, ats_cons, ats_nil, List.append_nil, List.length_append] at hb
   refine alt_set ha ?_ rfl
   unfold ne
   rw [(merge_A hx hy c (by omega)).2]
   intro e
   exact hn (List.append_eq_nil_iff.1 e).2
  ·rename_i c
   refine alt_snoc ha hn (fun d' z e => ?_)
   obtain ⟨_, e2⟩ := List.append_inj' e rfl
   injection e2 with e2 _
   subst e2
   exact fun e => c e.symm
 ·rw [show normal_Of.step [] x = [x] from rfl]; simp [ats]
 ·rw [List.concat_eq_append] at *
  rw [step_last]
  obtain ⟨h1, h2⟩ := W_app.1 hd
  have hy : okA y := h2 y (by simp)
  rw [ats_app, ats_cons, ats_nil, List.append_nil] at hb ⊢
  rw [List.length_append] at hb
  split
  ·rename_i c
   rw [ats_app, ats_cons, ats_nil, List.append_nil, (merge_A hx hy c (by omega)).2, List.append_assoc]
  ·rw [ats_app, ats_app, ats_cons, ats_cons, ats_nil, List.append_nil, List.append_nil]
theorem fold_A : ∀ (l d : List S25), W d → Alt d → W l → (∀ x ∈ l, ne x) → (ats d).length + (ats l).length ≤ 1000000 → W (l.foldl normal_Of.step d) ∧ Alt (l.foldl normal_Of.step d) ∧ ats (l.foldl normal_Of.step d) = ats d ++ ats l ∧ (l.foldl normal_Of.step d).length ≤ d.length + l.length
 | [], d, hd, ha, _, _, _ => ⟨hd, ha, by simp [ats], by simp⟩
 | x :: l, d, hd, ha, hl, hn, hb => by
  obtain ⟨h1, h2⟩ := W_cons.1 hl
  obtain ⟨n1, n2⟩ := List.forall_mem_cons.1 hn
  rw [ats_cons, List.length_append] at hb
  obtain ⟨s1, s2, s3, s4⟩ := step_A hd ha h1 n1 (by omega)
  obtain ⟨r1, r2, r3, r4⟩ := fold_A l _ s1 s2 h2 n2 (by rw [s3, List.length_append]; omega)
  refine ⟨r1, r2, ?_, ?_⟩
  ·rw [List.foldl_cons, r3, s3, ats_cons, List.append_assoc]
  ·rw [List.foldl_cons, List.length_cons]; omega
theorem norm_A {l : List S25} (h : W l) (hb : (ats l).length ≤ 1000000) : W (normal_Of.n l) ∧ Alt (normal_Of.n l) ∧ ats (normal_Of.n l) = ats l ∧ (normal_Of.n l).length ≤ l.length := by
 obtain ⟨h1, h2, h3, h4⟩ := keep_A h
 obtain ⟨r1, r2, r3, r4⟩ := fold_A (normal_Of.keep l) [] (fun _ h => by cases h) trivial h1 h2 (by rw [h3, ats_nil]; simpa using hb)
 unfold normal_Of.n
 refine ⟨r1, r2, by rw [r3, h3]; rfl, by simp only [List.length_nil] at r4; omega⟩
theorem normal_A {l : List S25} (h : W l) (hb : (ats l).length ≤ 1000000) (hl : l.length ≤ 1000000) : normal_Of.f l = some (normal_Of.n l) := by
 have := text_le h
 exact normal_ok (by omega) (by omega)
theorem alt_ne : ∀ {l : List S25}, Alt l → ∀ x ∈ l, ne x
 | [], _, _, h => by cases h
 | y :: l, ⟨h1, _, h3⟩, x, hx => by
  rcases List.mem_cons.1 hx with rfl | hx
  ·exact h1
  ·exact alt_ne h3 x hx
theorem alt_len {l : List S25} (h : Alt l) : l.length ≤ (ats l).length := by
 induction l with
 | nil => simp
 | cons x l ih =>
  obtain ⟨h1, _, h3⟩ := h
  have := ih h3
  have : 1 ≤ (at1 x).length := by unfold ne at h1; cases hh : at1 x with | nil => exact absurd hh h1 | cons => simp
  rw [ats_cons, List.length_cons, List.length_append]; omega
theorem kd_at1 {x : S25} (h : okA x) : ∀ a ∈ at1 x, a.kd = x.f0 := by
 rcases okA_cases h with ⟨n, rfl⟩ | ⟨n, rfl⟩ | ⟨t, ht, rfl⟩
 ·intro a ha; rw [at1_K] at ha; rw [List.eq_of_mem_replicate ha]; rfl
 ·intro a ha; rw [at1_D] at ha; rw [List.eq_of_mem_replicate ha]; rfl
 ·intro a ha; rw [at1_I 0 ht] at ha; obtain ⟨c, _, rfl⟩ := List.mem_map.1 ha; rfl
theorem blocks {z : Int} : ∀ {a b c d : List At}, (∀ x ∈ a, x.kd = z) → (∀ x ∈ b, x.kd = z) → (∀ x l, c = x :: l → x.kd ≠ z) → (∀ x l, d = x :: l → x.kd ≠ z) → a ++ c = b ++ d → a = b ∧ c = d
 | [], [], c, d, _, _, _, _, e => ⟨rfl, e⟩
 | x :: a, [], c, d, ha, _, _, hd, e => absurd (ha x (by simp)) (hd x (a ++ c) (by simpa using e.symm))
 | [], y :: b, c, d, _, hb, hc, _, e => absurd (hb y (by simp)) (hc y (b ++ d) (by simpa using e))
 | x :: a, y :: b, c, d, ha, hb, hc, hd, e => by
  rw [List.cons_append, List.cons_append] at e
  injection e with e1 e2
  subst e1
  obtain ⟨r1, r2⟩ := blocks (a := a) (b := b) (fun x hx => ha x (by simp [hx])) (fun x hx => hb x (by simp [hx])) hc hd e2
  exact ⟨by rw [r1], r2⟩
theorem at1_inj {x y : S25} (hx : okA x) (hy : okA y) (hk : x.f0 = y.f0) (h : at1 x = at1 y) : x = y := by
 rcases okA_cases hx with ⟨n, rfl⟩ | ⟨n, rfl⟩ | ⟨t, ht, rfl⟩ <;> rcases okA_cases hy with ⟨m, rfl⟩ | ⟨m, rfl⟩ | ⟨u, hu, rfl⟩ <;> simp only at hk <;> try (exact absurd hk (by decide))
 ·rw [at1_K, at1_K] at h
  have := congrArg List.length h
  simp only [List.length_replicate] at this
  rw [show n = m by omega]
 ·rw [at1_D, at1_D] at h
  have := congrArg List.length h
  simp only [List.length_replicate] at this
  rw [show n = m by omega]
 ·rw [at1_I 0 ht, at1_I 0 hu] at h
  have : t = u := List.map_inj_right (fun a b e => by injection e) |>.1 h
  rw [this]
theorem alt_head {x : S25} {l : List S25} (ha : Alt (x :: l)) (hw : W l) : ∀ a m, ats l = a :: m → a.kd ≠ x.f0 := by
 intro a m e
 obtain ⟨_, h2, h3⟩ := ha
 cases l with
 | nil => rw [ats_nil] at e; cases e
 | cons y l =>
  have hy := (W_cons.1 hw).1
  have hn := h3.1
  rw [ats_cons] at e
  cases hh : at1 y with
  | nil => exact absurd hh hn
  | cons b u =>
   rw [hh, List.cons_append] at e
   injection e with e _
   have := kd_at1 hy b (by rw [hh]; simp)
   rw [← e, this]
   exact fun e => h2 y l rfl e.symm
theorem alt_uniq : ∀ {a b : List S25}, W a → W b → Alt a → Alt b → ats a = ats b → a = b
 | [], [], _, _, _, _, _ => rfl
 | x :: a, [], _, _, ha, _, e => absurd (List.append_eq_nil_iff.1 (by rw [← ats_cons]; exact e)).1 ha.1
 | [], y :: b, _, _, _, hb, e => absurd (List.append_eq_nil_iff.1 (by rw [← ats_cons]; exact e.symm)).1 hb.1
 | x :: a, y :: b, wa, wb, ha, hb, e => by
  obtain ⟨x1, a1⟩ := W_cons.1 wa
  obtain ⟨y1, b1⟩ := W_cons.1 wb
  rw [ats_cons, ats_cons] at e
  have hk : x.f0 = y.f0 := by
   cases hh : at1 x with
   | nil => exact absurd hh ha.1
   | cons u m =>
    cases hg : at1 y with
    | nil => exact absurd hg hb.1
    | cons v n =>
     rw [hh, hg, List.cons_append, List.cons_append] at e
     injection e with e _
     rw [← kd_at1 x1 u (by rw [hh]; simp), ← kd_at1 y1 v (by rw [hg]; simp), e]
  obtain ⟨e1, e2⟩ := blocks (z := x.f0) (kd_at1 x1) (fun c hc => by rw [hk]; exact kd_at1 y1 c hc) (alt_head ha a1) (fun c l hc => by rw [hk]; exact alt_head hb b1 c l hc) e
  rw [at1_inj x1 y1 hk e1, alt_uniq a1 b1 ha.2.2 hb.2.2 e2]
def comp (xs ys : List At) : List At :=
 match xs, ys with
 | xs, .I c :: ys => .I c :: comp xs ys
 | .D :: xs, ys => .D :: comp xs ys
 | .K :: xs, .K :: ys => .K :: comp xs ys
 | .K :: xs, .D :: ys => .D :: comp xs ys
 | .I c :: xs, .K :: ys => .I c :: comp xs ys
 | .I c :: xs, .D :: ys => comp xs ys
 | _, _ => []
termination_by xs.length + ys.length
theorem comp_I (xs ys : List At) (c : Int) : comp xs (.I c :: ys) = .I c :: comp xs ys := by rw [comp]
def noI (l : List At) : Prop := ∀ c l', l ≠ At.I c :: l'
theorem comp_D (xs ys : List At) (h : noI ys) : comp (.D :: xs) ys = .D :: comp xs ys := by rw [comp]; exact fun c l e => h c l e
theorem comp_KK (xs ys : List At) : comp (.K :: xs) (.K :: ys) = .K :: comp xs ys := by rw [comp]
theorem comp_KD (xs ys : List At) : comp (.K :: xs) (.D :: ys) = .D :: comp xs ys := by rw [comp]
theorem comp_IK (xs ys : List At) (c : Int) : comp (.I c :: xs) (.K :: ys) = .I c :: comp xs ys := by rw [comp]
theorem comp_ID (xs ys : List At) (c : Int) : comp (.I c :: xs) (.D :: ys) = comp xs ys := by rw [comp]
theorem comp_nil : comp [] [] = [] := by rw [comp] <;> (intros; simp_all)
theorem comp_rI (xs ys : List At) : ∀ t : List Int, comp xs (t.map At.I ++ ys) = t.map At.I ++ comp xs ys
 | [] => rfl
 | c :: t => by rw [List.map_cons, List.cons_append, comp_I, comp_rI xs ys t]; rfl
theorem comp_rD (xs ys : List At) (h : noI ys) : ∀ n : Nat, comp (List.replicate n At.D ++ xs) ys = List.replicate n At.D ++ comp xs ys
 | 0 => rfl
 | n + 1 => by rw [List.replicate_succ, List.cons_append, comp_D _ _ h, comp_rD xs ys h n]; rfl
theorem comp_rKK (xs ys : List At) : ∀ n : Nat, comp (List.replicate n At.K ++ xs) (List.replicate n At.K ++ ys) = List.replicate n At.K ++ comp xs ys
 | 0 => rfl
 | n + 1 => by rw [List.replicate_succ, List.cons_append, List.cons_append, comp_KK, comp_rKK xs ys n]; rfl
theorem comp_rKD (xs ys : List At) : ∀ n : Nat, comp (List.replicate n At.K ++ xs) (List.replicate n At.D ++ ys) = List.replicate n At.D ++ comp xs ys
 | 0 => rfl
 | n + 1 => by rw [List.replicate_succ, List.replicate_succ, List.cons_append, List.cons_append, comp_KD, comp_rKD xs ys n]; rfl
theorem comp_rIK (xs ys : List At) : ∀ t : List Int, comp (t.map At.I ++ xs) (List.replicate t.length At.K ++ ys) = t.map At.I ++ comp xs ys
 | [] => rfl
 | c :: t => by rw [List.map_cons, List.length_cons, List.replicate_succ, List.cons_append, List.cons_append, comp_IK, comp_rIK xs ys t]; rfl
theorem comp_rID (xs ys : List At) : ∀ t : List Int, comp (t.map At.I ++ xs) (List.replicate t.length At.D ++ ys) = comp xs ys
 | [] => rfl
 | c :: t => by rw [List.map_cons, List.length_cons, List.replicate_succ, List.cons_append, List.cons_append, comp_ID, comp_rID xs ys t]
def st : List S25 → List Int → List At
 | [], _ => []
 | x :: l, t => (if x.f0 = 2 then t.map At.I else at1 x) ++ ats l
def SV (l : List S25) (t : List Int) : Prop := W l ∧ (∀ x l', l = x :: l' → (x.f0 = 2 → Runes t ∧ t ≠ []) ∧ (x.f0 ≠ 2 → t = [] ∧ ne x) ∧ ∀ y ∈ l', ne y)
theorem sv_load {l : List S25} (h : W l) (hn : ∀ x ∈ l, ne x) : SV l (loadT l) ∧ st l (loadT l) = ats l := by
 refine ⟨⟨h, fun x l' e => ?_⟩, ?_⟩
 ·subst e
  obtain ⟨n1, n2⟩ := List.forall_mem_cons.1 hn
  refine ⟨fun hk => ?_, fun hk => ?_, n2⟩
  ·rcases okA_cases (W_cons.1 h).1 with ⟨n, rfl⟩ | ⟨n, rfl⟩ | ⟨t, ht, rfl⟩
   ·exact absurd hk (show ¬ (1 : Int) = 2 by decide)
   ·exact absurd hk (show ¬ (3 : Int) = 2 by decide)
   ·show Runes (runesS (enc t)) ∧ runesS (enc t) ≠ []
    rw [runes_enc ht]
    unfold ne at n1
    rw [at1_I 0 ht] at n1
    exact ⟨ht, fun e => n1 (by rw [e]; rfl)⟩
  ·rcases okA_cases (W_cons.1 h).1 with ⟨n, rfl⟩ | ⟨n, rfl⟩ | ⟨t, ht, rfl⟩
   ·exact ⟨rfl, n1⟩
   ·exact ⟨rfl, n1⟩
   ·exact absurd rfl hk
 ·cases l with
  | nil => rfl
  | cons x l =>
   rw [ats_cons]
   show (if x.f0 = 2 then (runesS x.f2).map At.I else at1 x) ++ ats l = _
   unfold at1
   split <;> rfl
theorem sv_cases {x : S25} {l : List S25} {t : List Int} (h : SV (x :: l) t) : W l ∧ (∀ y ∈ l, ne y) ∧ ((∃ n : Nat, 0 < n ∧ x = ⟨1, (n : Int), ⟨#[]⟩⟩ ∧ t = [] ∧ st (x :: l) t = List.replicate n At.K ++ ats l) ∨ (∃ n : Nat, 0 < n ∧ x = ⟨3, (n : Int), ⟨#[]⟩⟩ ∧ t = [] ∧ st (x :: l) t = List.replicate n At.D ++ ats l) ∨ (∃ s, x = ⟨2, 0, s⟩ ∧ Runes t ∧ t ≠ [] ∧ st (x :: l) t = t.map At.I ++ ats l)) := by
 obtain ⟨hw, hs⟩ := h
 obtain ⟨s1, s2, s3⟩ := hs x l rfl
 obtain ⟨w1, w2⟩ := W_cons.1 hw
 refine ⟨w2, s3, ?_⟩
 rcases okA_cases w1 with ⟨n, rfl⟩ | ⟨n, rfl⟩ | ⟨t', ht, rfl⟩
 ·obtain ⟨a, b⟩ := s2 (show ¬ (1 : Int) = 2 by decide)
  refine .inl ⟨n, ?_, rfl, a, rfl⟩
  unfold ne at b
  rw [at1_K] at b
  cases n with
  | zero => exact absurd rfl b
  | succ n => omega
 ·obtain ⟨a, b⟩ := s2 (show ¬ (3 : Int) = 2 by decide)
  refine .inr (.inl ⟨n, ?_, rfl, a, rfl⟩)
  unfold ne at b
  rw [at1_D] at b
  cases n with
  | zero => exact absurd rfl b
  | succ n => omega
 ·obtain ⟨a, b⟩ := s1 rfl
  exact .inr (.inr ⟨_, rfl, a, b, rfl⟩)
theorem restN_ne' {f a m : Int} {s : ByteArray} {l : List S25} (h : a ≠ m) : restN f a m s l = ⟨f, a - m, s⟩ :: l := if_neg h
theorem restN_eq' {f a : Int} {s : ByteArray} {l : List S25} : restN f a a s l = l := if_pos rfl
theorem restT_ne' {a m : Int} {l : List S25} (h : a ≠ m) : restT a m l = [] := if_neg h
theorem restT_eq' {a : Int} {l : List S25} : restT a a l = loadT l := if_pos rfl
def atk (f : Int) : At := if f = 1 then At.K else At.D
theorem sv_restN {f : Int} {n m : Nat} {l : List S25} (hf : f = 1 ∨ f = 3) (hm : m ≤ n) (h : W l) (hn : ∀ y ∈ l, ne y) : SV (restN f (n : Int) (m : Int) ⟨#[]⟩ l) (restT (n : Int) (m : Int) l) ∧ st (restN f (n : Int) (m : Int) ⟨#[]⟩ l) (restT (n : Int) (m : Int) l) = List.replicate (n - m) (atk f) ++ ats l ∧ (restN f (n : Int) (m : Int) ⟨#[]⟩ l).length ≤ l.length + 1 ∧ (n = m → (restN f (n : Int) (m : Int) ⟨#[]⟩ l).length = l.length) := by
 by_cases c : n = m
 ·subst c
  rw [restN_eq', restT_eq']
  obtain ⟨a, b⟩ := sv_load h hn
  exact ⟨a, by rw [b, Nat.sub_self]; rfl, by omega, fun _ => rfl⟩
 ·rw [restN_ne' (by omega), restT_ne' (by omega)]
  have e : (n : Int) - (m : Int) = ((n - m : Nat) : Int) := by omega
  rw [e]
  have ok : okA ⟨f, ((n - m : Nat) : Int), ⟨#[]⟩⟩ := by rcases hf with rfl | rfl; exact okA_K _; exact okA_D _
  have ea : at1 ⟨f, ((n - m : Nat) : Int), ⟨#[]⟩⟩ = List.replicate (n - m) (atk f) := by rcases hf with rfl | rfl <;> rfl
  have f2 : f ≠ 2 := by rcases hf with rfl | rfl <;> decide
  refine ⟨⟨W_cons.2 ⟨ok, h⟩, fun x l' e => ?_⟩, ?_, by simp, fun e => absurd e c⟩
  ·injection e with e1 e2
   subst e1 e2
   refine ⟨fun e => absurd e f2, fun _ => ⟨rfl, ?_⟩, hn⟩
   unfold ne
   rw [ea]
   intro e
   have := congrArg List.length e
   simp at this
   omega
  ·show (if f = 2 then _ else _) ++ _ = _
   rw [if_neg f2, ea]
theorem sv_restI {s : ByteArray} {t : List Int} {m : Nat} {l : List S25} (ht : Runes t) (hx : okA ⟨2, 0, s⟩) (hm : m ≤ t.length) (h : W l) (hn : ∀ y ∈ l, ne y) :
  SV (if (t.length : Int) = (m : Int) then l else ⟨2, 0, s⟩ :: l) (if (t.length : Int) = (m : Int) then loadT l else t.drop m) ∧ st (if (t.length : Int) = (m : Int) then l else ⟨2, 0, s⟩ :: l) (if (t.length : Int) = (m : Int) then loadT l else t.drop m) = (t.drop m).map At.I ++ ats l ∧
   (if (t.length : Int) = (m : Int) then l else ⟨2, 0, s⟩ :: l).length ≤ l.length + 1 ∧ (t.length = m → (if (t.length : Int) = (m : Int) then l else (⟨2, 0, s⟩ : S25) :: l).length = l.length) := by
 by_cases c : t.length = m
 ·rw [if_pos (by omega), if_pos (by omega)]
  obtain ⟨a, b⟩ := sv_load h hn
  exact ⟨a, by rw [b, List.drop_of_length_le (by omega)]; rfl, by omega, fun _ => rfl⟩
 ·rw [if_neg (by omega), if_neg (by omega)]
  refine ⟨⟨W_cons.2 ⟨hx, h⟩, fun x l' e => ?_⟩, rfl, by simp, fun e => absurd e c⟩
  injection e with e1 e2
  subst e1 e2
  refine ⟨fun _ => ⟨ht.drop _, fun e => ?_⟩, fun e => absurd rfl e, hn⟩
  have := congrArg List.length e
  simp at this
  omega
theorem noI_rep {a : At} (h : ∀ c, a ≠ At.I c) {n : Nat} (hn : 0 < n) (l : List At) : noI (List.replicate n a ++ l) := by
 intro c l' e
 cases n with
 | zero => omega
 | succ n => rw [List.replicate_succ, List.cons_append] at e; injection e with e _; exact h c e
theorem mn_nat (a b : Nat) : mn (a : Int) (b : Int) = ((min a b : Nat) : Int) := by
 unfold mn; split <;> omega
theorem rep_split (a : At) {m n : Nat} (h : m ≤ n) : List.replicate n a = List.replicate m a ++ List.replicate (n - m) a := by
 rw [List.replicate_append_replicate]; congr 1; omega
theorem W_nil : W [] := fun _ h => by cases h
theorem comp_l : ∀ (m : Nat) (xl : List S25) (xt : List Int) (yl : List S25) (yt : List Int) (out : List S25), SV xl xt → SV yl yt → xl.length + yl.length ≤ m → (st xl xt).length ≤ 1000000 → (st yl yt).length ≤ 1000000 → out.length + m ≤ 100000000 → outs (st xl xt) = ins (st yl yt) →
    ∃ r, (∀ k, m + 1 ≤ k → compose_Of.l k xl xt yl yt out = some (out ++ r)) ∧ W r ∧ ats r = comp (st xl xt) (st yl yt) ∧ r.length ≤ xl.length + yl.length := by
  intro m
  induction m with
  | zero =>
    intro xl xt yl yt out hx hy hm bx bY ho hio
    obtain rfl : xl = [] := List.length_eq_zero_iff.1 (by omega)
    obtain rfl : yl = [] := List.length_eq_zero_iff.1 (by omega)
    refine ⟨[], fun k hk => ?_, W_nil, comp_nil.symm, by simp⟩
    obtain ⟨k, rfl⟩ : ∃ j, k = j + 1 := ⟨k - 1, by omega⟩
    rw [cl_end k [] [] xt yt out (by omega) (show ¬ (0 : Int) = 2 by decide) (show ¬ (0 : Int) = 3 by decide) (.inl rfl), List.append_nil]
  | succ m ih =>
    intro xl xt yl yt out hx hy hm bx bY ho hio
    by_cases hput : kindT yl = 2
    · cases yl with
      | nil => exact absurd hput (show ¬ (0 : Int) = 2 by decide)
      | cons y ys =>
        obtain ⟨wy, ny, hy⟩ := sv_cases hy
        rcases hy with ⟨p, hp, rfl, rfl, est⟩ | ⟨p, hp, rfl, rfl, est⟩ | ⟨s, rfl, rt, tne, est⟩
        · exact absurd hput (show ¬ (1 : Int) = 2 by decide)
        · exact absurd hput (show ¬ (3 : Int) = 2 by decide)
        · obtain ⟨sv, es⟩ := sv_load wy ny
          rw [est] at bY hio ⊢
          rw [List.length_append, List.length_map] at bY
          rw [ins_app, ins_I] at hio
          rw [List.length_cons] at hm
          obtain ⟨r, h1, h2, h3, h4⟩ := ih xl xt ys (loadT ys) (out ++ [sI yt]) hx sv (by omega) bx (by rw [es]; omega) (by rw [List.length_append, List.length_singleton]; omega) (by rw [es]; omega)
          refine ⟨sI yt :: r, fun k hk => ?_, W_cons.2 ⟨okA_I rt, h2⟩, ?_, by rw [List.length_cons, List.length_cons]; omega⟩
          · obtain ⟨k, rfl⟩ : ∃ j, k = j + 1 := ⟨k - 1, by omega⟩
            rw [cl_put k xl ys xt yt s out rt (by omega) (by omega), h1 k (by omega), List.append_assoc]; rfl
          · rw [ats_cons, at1_I 0 rt, h3, es, comp_rI]
    · have hno : noI (st yl yt) := by
        cases yl with
        | nil => intro c l' e; cases e
        | cons y ys =>
          obtain ⟨wy, ny, hy⟩ := sv_cases hy
          rcases hy with ⟨p, hp, rfl, rfl, est⟩ | ⟨p, hp, rfl, rfl, est⟩ | ⟨s, rfl, rt, tne, est⟩
          · rw [est]; exact noI_rep (fun c e => by cases e) hp _
          · rw [est]; exact noI_rep (fun c e => by cases e) hp _
          · exact absurd rfl hput
      cases xl with
      | nil =>
        cases yl with
        | nil =>
          refine ⟨[], fun k hk => ?_, W_nil, comp_nil.symm, by simp⟩
          obtain ⟨k, rfl⟩ : ∃ j, k = j + 1 := ⟨k - 1, by omega⟩
          rw [cl_end k [] [] xt yt out (by omega) (show ¬ (0 : Int) = 2 by decide) (show ¬ (0 : Int) = 3 by decide) (.inl rfl), List.append_nil]
        | cons y ys =>
          exfalso
          obtain ⟨wy, ny, hy⟩ := sv_cases hy
          have e0 : outs (st [] xt) = 0 := rfl
          rcases hy with ⟨p, hp, rfl, rfl, est⟩ | ⟨p, hp, rfl, rfl, est⟩ | ⟨s, rfl, rt, tne, est⟩
          · rw [est, ins_app, ins_K] at hio; omega
          · rw [est, ins_app, ins_D] at hio; omega
          · exact hput rfl
      | cons x xs =>
        obtain ⟨wx, nx, hx'⟩ := sv_cases hx
        rw [List.length_cons] at hm
        rcases hx' with ⟨n, hn, rfl, rfl, esx⟩ | ⟨n, hn, rfl, rfl, esx⟩ | ⟨s, rfl, rx, tnx, esx⟩
        ·
          cases yl with
          | nil => exfalso; have e0 : ins (st [] yt) = 0 := rfl
                   rw [esx, outs_app, outs_K] at hio; omega
          | cons y ys =>
            obtain ⟨wy, ny, hy⟩ := sv_cases hy
            rw [List.length_cons] at hm
            rw [esx] at bx hio ⊢
            rw [List.length_append, List.length_replicate] at bx
            rcases hy with ⟨p, hp, rfl, rfl, esy⟩ | ⟨p, hp, rfl, rfl, esy⟩ | ⟨s, rfl, rt, tne, esy⟩
            · rw [esy] at bY hio ⊢
              rw [List.length_append, List.length_replicate] at bY
              rw [outs_app, outs_K, ins_app, ins_K] at hio
              obtain ⟨a1, a2, a3, a4⟩ := sv_restN (.inl rfl) (Nat.min_le_left n p) wx nx
              obtain ⟨b1, b2, b3, b4⟩ := sv_restN (.inl rfl) (Nat.min_le_right n p) wy ny
              obtain ⟨r, h1, h2, h3, h4⟩ := ih _ _ _ _ (out ++ [sK ((min n p : Nat) : Int)]) a1 b1 (by rcases (by omega : n = min n p ∨ p = min n p) with e | e; have := a4 e; omega; have := b4 e; omega) (by rw [a2, List.length_append, List.length_replicate]; omega) (by rw [b2, List.length_append, List.length_replicate]; omega) (by rw [List.length_append, List.length_singleton]; omega) (by rw [a2, b2, outs_app, ins_app]; simp only [atk, if_pos]; rw [outs_K, ins_K]; omega)
              refine ⟨sK ((min n p : Nat) : Int) :: r, fun k hk => ?_, W_cons.2 ⟨okA_K _, h2⟩, ?_, by rw [List.length_cons]; have : (restN 1 (n : Int) ((min n p : Nat) : Int) ⟨#[]⟩ xs).length + (restN 1 (p : Int) ((min n p : Nat) : Int) ⟨#[]⟩ ys).length ≤ xs.length + ys.length + 1 := (by rcases (by omega : n = min n p ∨ p = min n p) with e | e; have := a4 e; omega; have := b4 e; omega); simp only [List.length_cons]; omega⟩
              · obtain ⟨k, rfl⟩ : ∃ j, k = j + 1 := ⟨k - 1, by omega⟩
                rw [cl_KK k xs ys n p ⟨#[]⟩ ⟨#[]⟩ out (by omega) (by omega) (by omega) (by omega) (by omega), mn_nat, h1 k (by omega), List.append_assoc]; rfl
              · rw [ats_cons, at1_K, Int.toNat_natCast, h3, a2, b2, rep_split At.K (Nat.min_le_left n p), rep_split (n := p) At.K (Nat.min_le_right n p), List.append_assoc, List.append_assoc, comp_rKK]; rfl
            · rw [esy] at bY hio ⊢
              rw [List.length_append, List.length_replicate] at bY
              rw [outs_app, outs_K, ins_app, ins_D] at hio
              obtain ⟨a1, a2, a3, a4⟩ := sv_restN (.inl rfl) (Nat.min_le_left n p) wx nx
              obtain ⟨b1, b2, b3, b4⟩ := sv_restN (.inr rfl) (Nat.min_le_right n p) wy ny
              obtain ⟨r, h1, h2, h3, h4⟩ := ih _ _ _ _ (out ++ [sD ((min n p : Nat) : Int)]) a1 b1 (by rcases (by omega : n = min n p ∨ p = min n p) with e | e; have := a4 e; omega; have := b4 e; omega) (by rw [a2, List.length_append, List.length_replicate]; omega) (by rw [b2, List.length_append, List.length_replicate]; omega) (by rw [List.length_append, List.length_singleton]; omega) (by rw [a2, b2, outs_app, ins_app]; simp only [atk, if_pos, if_neg (show ¬ (3 : Int) = 1 by decide)]; rw [outs_K, ins_D]; omega)
              refine ⟨sD ((min n p : Nat) : Int) :: r, fun k hk => ?_, W_cons.2 ⟨okA_D _, h2⟩, ?_, by rw [List.length_cons]; have : (restN 1 (n : Int) ((min n p : Nat) : Int) ⟨#[]⟩ xs).length + (restN 3 (p : Int) ((min n p : Nat) : Int) ⟨#[]⟩ ys).length ≤ xs.length + ys.length + 1 := (by rcases (by omega : n = min n p ∨ p = min n p) with e | e; have := a4 e; omega; have := b4 e; omega); simp only [List.length_cons]; omega⟩
              · obtain ⟨k, rfl⟩ : ∃ j, k = j + 1 := ⟨k - 1, by omega⟩
                rw [cl_KD k xs ys n p ⟨#[]⟩ ⟨#[]⟩ out (by omega) (by omega) (by omega) (by omega) (by omega), mn_nat, h1 k (by omega), List.append_assoc]; rfl
              · rw [ats_cons, at1_D, Int.toNat_natCast, h3, a2, b2, rep_split At.K (Nat.min_le_left n p), rep_split (n := p) At.D (Nat.min_le_right n p), List.append_assoc, List.append_assoc, comp_rKD]; rfl
            · exact absurd rfl hput
        ·
          obtain ⟨sv, es⟩ := sv_load wx nx
          rw [esx] at bx hio ⊢
          rw [List.length_append, List.length_replicate] at bx
          rw [outs_app, outs_D] at hio
          obtain ⟨r, h1, h2, h3, h4⟩ := ih xs (loadT xs) yl yt (out ++ [sD (n : Int)]) sv hy (by omega) (by rw [es]; omega) bY (by rw [List.length_append, List.length_singleton]; omega) (by rw [es]; omega)
          refine ⟨sD (n : Int) :: r, fun k hk => ?_, W_cons.2 ⟨okA_D _, h2⟩, ?_, by rw [List.length_cons, List.length_cons]; omega⟩
          · obtain ⟨k, rfl⟩ : ∃ j, k = j + 1 := ⟨k - 1, by omega⟩
            rw [cl_drop k xs yl yt n ⟨#[]⟩ out (by omega) (by omega) hput (by omega), h1 k (by omega), List.append_assoc]; rfl
          · rw [ats_cons, at1_D, Int.toNat_natCast, h3, es, comp_rD _ _ hno]
        ·
          cases yl with
          | nil => exfalso; have e0 : ins (st [] yt) = 0 := rfl
                   rw [esx, outs_app, outs_I] at hio
                   cases xt with | nil => exact tnx rfl | cons c t => rw [List.length_cons] at hio; omega
          | cons y ys =>
            obtain ⟨wy, ny, hy⟩ := sv_cases hy
            have okx : okA ⟨2, 0, s⟩ := hx.1 _ (by simp)
            have px : 0 < xt.length := by cases xt with | nil => exact absurd rfl tnx | cons => simp
            rw [List.length_cons] at hm
            rw [esx] at bx hio ⊢
            rw [List.length_append, List.length_map] at bx
            rcases hy with ⟨p, hp, rfl, rfl, esy⟩ | ⟨p, hp, rfl, rfl, esy⟩ | ⟨s', rfl, rt, tne, esy⟩
            · rw [esy] at bY hio ⊢
              rw [List.length_append, List.length_replicate] at bY
              rw [outs_app, outs_I, ins_app, ins_K] at hio
              obtain ⟨a1, a2, a3, a4⟩ := sv_restI (s := s) rx okx (Nat.min_le_left xt.length p) wx nx
              obtain ⟨b1, b2, b3, b4⟩ := sv_restN (.inl rfl) (Nat.min_le_right xt.length p) wy ny
              obtain ⟨r, h1, h2, h3, h4⟩ := ih _ _ _ _ (out ++ [sI (xt.take (min xt.length p))]) a1 b1 (by rcases (by omega : xt.length = min xt.length p ∨ p = min xt.length p) with e | e; have := a4 e; omega; have := b4 e; omega) (by rw [a2, List.length_append, List.length_map, List.length_drop]; omega) (by rw [b2, List.length_append, List.length_replicate]; omega) (by rw [List.length_append, List.length_singleton]; omega) (by rw [a2, b2, outs_app, ins_app]; simp only [atk, if_pos]; rw [outs_I, ins_K, List.length_drop]; omega)
              refine ⟨sI (xt.take (min xt.length p)) :: r, fun k hk => ?_, W_cons.2 ⟨okA_I (rx.take _), h2⟩, ?_, by rw [List.length_cons]; have : (if (xt.length : Int) = ((min xt.length p : Nat) : Int) then xs else (⟨2, 0, s⟩ : S25) :: xs).length + (restN 1 (p : Int) ((min xt.length p : Nat) : Int) ⟨#[]⟩ ys).length ≤ xs.length + ys.length + 1 := (by rcases (by omega : xt.length = min xt.length p ∨ p = min xt.length p) with e | e; have := a4 e; omega; have := b4 e; omega); simp only [List.length_cons]; omega⟩
              · obtain ⟨k, rfl⟩ : ∃ j, k = j + 1 := ⟨k - 1, by omega⟩
                rw [cl_IK k xs ys xt p s ⟨#[]⟩ out rx (by omega) (by omega) (by omega) (by omega), mn_nat, Int.toNat_natCast, h1 k (by omega), List.append_assoc]; rfl
              · have e1 : xt.map At.I ++ ats xs = (xt.take (min xt.length p)).map At.I ++ ((xt.drop (min xt.length p)).map At.I ++ ats xs) := by rw [← List.append_assoc, ← List.map_append, List.take_append_drop]
                have e2 : List.replicate p At.K ++ ats ys = List.replicate (xt.take (min xt.length p)).length At.K ++ (List.replicate (p - min xt.length p) At.K ++ ats ys) := by rw [List.length_take, ← List.append_assoc, show min (min xt.length p) xt.length = min xt.length p by omega, ← rep_split At.K (Nat.min_le_right xt.length p)]
                rw [ats_cons, at1_I 0 (rx.take _), h3, a2, b2, e1, e2, comp_rIK]; rfl
            · rw [esy] at bY hio ⊢
              rw [List.length_append, List.length_replicate] at bY
              rw [outs_app, outs_I, ins_app, ins_D] at hio
              obtain ⟨a1, a2, a3, a4⟩ := sv_restI (s := s) rx okx (Nat.min_le_left xt.length p) wx nx
              obtain ⟨b1, b2, b3, b4⟩ := sv_restN (.inr rfl) (Nat.min_le_right xt.length p) wy ny
              obtain ⟨r, h1, h2, h3, h4⟩ := ih _ _ _ _ out a1 b1 (by rcases (by omega : xt.length = min xt.length p ∨ p = min xt.length p) with e | e; have := a4 e; omega; have := b4 e; omega) (by rw [a2, List.length_append, List.length_map, List.length_drop]; omega) (by rw [b2, List.length_append, List.length_replicate]; omega) (by omega) (by rw [a2, b2, outs_app, ins_app]; simp only [atk, if_neg (show ¬ (3 : Int) = 1 by decide)]; rw [outs_I, ins_D, List.length_drop]; omega)
              refine ⟨r, fun k hk => ?_, h2, ?_, by simp only [List.length_cons]; omega⟩
              · obtain ⟨k, rfl⟩ : ∃ j, k = j + 1 := ⟨k - 1, by omega⟩
                rw [cl_ID k xs ys xt p s ⟨#[]⟩ out rx (by omega) (by omega) (by omega) (by omega), mn_nat, Int.toNat_natCast, h1 k (by omega)]
              · have e1 : xt.map At.I ++ ats xs = (xt.take (min xt.length p)).map At.I ++ ((xt.drop (min xt.length p)).map At.I ++ ats xs) := by rw [← List.append_assoc, ← List.map_append, List.take_append_drop]
                have e2 : List.replicate p At.D ++ ats ys = List.replicate (xt.take (min xt.length p)).length At.D ++ (List.replicate (p - min xt.length p) At.D ++ ats ys) := by rw [List.length_take, ← List.append_assoc, show min (min xt.length p) xt.length = min xt.length p by omega, ← rep_split At.D (Nat.min_le_right xt.length p)]
                rw [h3, a2, b2, e1, e2, comp_rID]; rfl
            · exact absurd rfl hput
theorem comp_len : ∀ (n : Nat) (xs ys : List At), xs.length + ys.length ≤ n → outs xs = ins ys → ins (comp xs ys) = ins xs ∧ outs (comp xs ys) = outs ys ∧ (comp xs ys).length ≤ xs.length + ys.length
 | 0, xs, ys, h, _ => by
  obtain rfl : xs = [] := List.length_eq_zero_iff.1 (by omega)
  obtain rfl : ys = [] := List.length_eq_zero_iff.1 (by omega)
  rw [comp_nil]; simp [ins, outs]
 | n + 1, xs, ys, h, hio => by
  by_cases c : noI ys
  ·cases xs with
   | nil =>
    cases ys with
    | nil => rw [comp_nil]; simp [ins, outs]
    | cons y ys =>
     exfalso
     rw [outs_nil, ins_cons] at hio
     cases y with
     | K => simp [At.i] at hio; omega
     | D => simp [At.i] at hio; omega
     | I c' => exact c c' ys rfl
   | cons x xs =>
    rw [List.length_cons] at h
    cases x with
    | D =>
     rw [outs_cons] at hio
     obtain ⟨h1, h2, h3⟩ := comp_len n xs ys (by omega) (by simpa [At.o] using hio)
     rw [comp_D _ _ c, ins_cons, outs_cons, ins_cons, h1, h2, List.length_cons, List.length_cons]
     simp [At.i, At.o]; omega
    | K =>
     cases ys with
     | nil => exfalso; rw [outs_cons, ins_nil] at hio; simp only [At.o] at hio; omega
     | cons y ys =>
      rw [List.length_cons] at h
      rw [outs_cons, ins_cons] at hio
      cases y with
      | K =>
       obtain ⟨h1, h2, h3⟩ := comp_len n xs ys (by omega) (by simpa [At.o, At.i] using hio)
       rw [comp_KK, ins_cons, outs_cons, ins_cons, outs_cons, h1, h2, List.length_cons, List.length_cons, List.length_cons]
       simp [At.i, At.o]; omega
      | D =>
       obtain ⟨h1, h2, h3⟩ := comp_len n xs ys (by omega) (by simpa [At.o, At.i] using hio)
       rw [comp_KD, ins_cons, outs_cons, ins_cons, outs_cons, h1, h2, List.length_cons, List.length_cons, List.length_cons]
       simp [At.i, At.o]; omega
      | I c' => exact absurd rfl (c c' ys)
    | I a =>
     cases ys with
     | nil => exfalso; rw [outs_cons, ins_nil] at hio; simp only [At.o] at hio; omega
     | cons y ys =>
      rw [List.length_cons] at h
      rw [outs_cons, ins_cons] at hio
      cases y with
      | K =>
       obtain ⟨h1, h2, h3⟩ := comp_len n xs ys (by omega) (by simpa [At.o, At.i] using hio)
       rw [comp_IK, ins_cons, outs_cons, ins_cons, outs_cons, h1, h2, List.length_cons, List.length_cons, List.length_cons]
       simp [At.i, At.o]; omega
      | D =>
       obtain ⟨h1, h2, h3⟩ := comp_len n xs ys (by omega) (by simpa [At.o, At.i] using hio)
       rw [comp_ID, ins_cons, outs_cons, h1, h2, List.length_cons, List.length_cons]
       simp [At.i, At.o]; omega
      | I c' => exact absurd rfl (c c' ys)
  ·obtain ⟨a, l, rfl⟩ : ∃ a l, ys = At.I a :: l := by
    cases ys with
    | nil => exact absurd (fun c' l' e => by cases e) c
    | cons y ys =>
     cases y with
     | K => exact absurd (fun c' l' e => by cases e) c
     | D => exact absurd (fun c' l' e => by cases e) c
     | I a => exact ⟨a, ys, rfl⟩
   rw [List.length_cons] at h
   rw [ins_cons] at hio
   obtain ⟨h1, h2, h3⟩ := comp_len n xs l (by omega) (by simpa [At.i] using hio)
   rw [comp_I, ins_cons, outs_cons, outs_cons, h1, h2, List.length_cons, List.length_cons]
   simp [At.i, At.o]; omega
theorem comp_keep : ∀ (ys : List At), comp (List.replicate (ins ys) At.K) ys = ys
 | [] => comp_nil
 | .I c :: ys => by rw [ins_cons, comp_I]; simp only [At.i, Nat.zero_add]; rw [comp_keep ys]
 | .K :: ys => by rw [ins_cons]; simp only [At.i]; rw [Nat.add_comm, List.replicate_succ, comp_KK, comp_keep ys]
 | .D :: ys => by rw [ins_cons]; simp only [At.i]; rw [Nat.add_comm, List.replicate_succ, comp_KD, comp_keep ys]
theorem comp_A {a b : List S25} (wa : W a) (wb : W b) (ba : (ats a).length ≤ 1000000) (bb : (ats b).length ≤ 1000000) (ll : a.length + b.length ≤ 1000000) (hab : (ats a).length + (ats b).length ≤ 1000000) (hio : outs (ats a) = ins (ats b)) :
  ∃ r, (∀ k, a.length + b.length + 4 ≤ k → compose_Of.f k a b = some (r, 0)) ∧ W r ∧ Alt r ∧ ats r = comp (ats a) (ats b) ∧ r.length ≤ a.length + b.length := by
 have la : a.length ≤ 1000000 := by omega
 have lb : b.length ≤ 1000000 := by omega
 obtain ⟨w1, n1, e1, l1⟩ := norm_A wa ba
 obtain ⟨w2, n2, e2, l2⟩ := norm_A wb bb
 obtain ⟨s1, t1⟩ := sv_load w1 (alt_ne n1)
 obtain ⟨s2, t2⟩ := sv_load w2 (alt_ne n2)
 have cl := (comp_len _ (ats a) (ats b) (Nat.le_refl _) hio).2.2
 obtain ⟨r, h1, h2, h3, h4⟩ := comp_l ((normal_Of.n a).length + (normal_Of.n b).length) _ _ _ _ [] s1 s2 (Nat.le_refl _) (by rw [t1, e1]; exact ba) (by rw [t2, e2]; exact bb) (by simp only [List.length_nil]; omega) (by rw [t1, t2, e1, e2]; exact hio)
 rw [t1, t2, e1, e2] at h3
 obtain ⟨w3, n3, e3, l3⟩ := norm_A h2 (by rw [h3]; omega)
 refine ⟨normal_Of.n r, fun k hk => ?_, w3, n3, by rw [e3, h3], by omega⟩
 have hi := ins_le (ats b)
 unfold compose_Of.f
 rw [may_A wa ba la k (by omega), Option.bind_some, if_pos rfl, may_A wb bb lb k (by omega), Option.bind_some, if_pos rfl, out_A wa ba la, Option.bind_some, in_A wb bb lb, Option.bind_some, if_pos (by omega)]
 have t1' := text_le wa
 have t2' := text_le wb
 rw [if_pos (by omega), h1 k (by omega), Option.bind_some, List.nil_append, normal_A h2 (by rw [h3]; omega) (by omega)]
 rfl
theorem tm3 (x : Int) : -3 < Int.tmod x 3 ∧ Int.tmod x 3 < 3 := ⟨Int.lt_tmod_of_pos x (by decide), Int.tmod_lt_of_pos x (by decide)⟩
theorem tm7 (x : Int) : -7 < Int.tmod x 7 ∧ Int.tmod x 7 < 7 := ⟨Int.lt_tmod_of_pos x (by decide), Int.tmod_lt_of_pos x (by decide)⟩
theorem kd_cases (x : Int) : wrap64 (1 + Int.tmod (wrap64 (Int.tmod x 3 + 3)) 3) = 1 ∨ wrap64 (1 + Int.tmod (wrap64 (Int.tmod x 3 + 3)) 3) = 2 ∨ wrap64 (1 + Int.tmod (wrap64 (Int.tmod x 3 + 3)) 3) = 3 := by
 have h := tm3 x
 rw [w64 (x := Int.tmod x 3 + 3) (by omega) (by omega), Int.tmod_eq_emod_of_nonneg (a := Int.tmod x 3 + 3) (by omega), w64 (by omega) (by omega)]
 omega
theorem nn_range (x : Int) : 0 ≤ Int.tmod (wrap64 (Int.tmod x 7 + 7)) 7 ∧ Int.tmod (wrap64 (Int.tmod x 7 + 7)) 7 ≤ 6 := by
 have h := tm7 x
 rw [w64 (x := Int.tmod x 7 + 7) (by omega) (by omega), Int.tmod_eq_emod_of_nonneg (a := Int.tmod x 7 + 7) (by omega)]
 omega
theorem fit_small (s : ByteArray) (h : s.size ≤ 20) (k : Nat) (hk : 200 ≤ k) : ∃ l, epitomeref01_Fit.f k s = some (enc l) ∧ Runes l ∧ l.length = s.size := by
 have hl := epitomeref01_Fit.len s
 refine ⟨epitomeref01_Fit.l s, ?_, fit_rune s, by omega⟩
 unfold epitomeref01_Fit.f
 rw [if_pos (by omega), refOf _ (by omega) _ _ (by omega), filter_runes (fit_rune s)]
 intro x hx
 have := fit_rune s x hx
 unfold isRune at this; omega
theorem W_snoc {d : List S25} {x : S25} (hd : W d) (hx : okA x) : W (d ++ [x]) := W_app.2 ⟨hd, W_cons.2 ⟨hx, W_nil⟩⟩
theorem ats_snoc (d : List S25) (x : S25) : ats (d ++ [x]) = ats d ++ at1 x := by rw [ats_app, ats_cons, ats_nil, List.append_nil]
theorem fit_l (l : List S25) : ∀ (d i k n : Nat) (out : List S25), 12 - i = d → i ≤ 12 → W out → out.length ≤ 100 + i → n ≤ 1000000 → 300 + 2 * d ≤ k →
  ∃ r, epitomeref04_Fit.l0 k l (n : Int) out (i : Int) = some r ∧ W r ∧ ins (ats r) = ins (ats out) + n ∧ (ats r).length ≤ (ats out).length + n + 6 * d ∧ r.length ≤ out.length + d + 1 := by
 intro d
 induction d with
 | zero =>
  intro i k n out hd hi hw ho hn hk
  have ho' : out.length < 4398046511104 := by omega
  obtain ⟨k, rfl⟩ : ∃ j, k = j + 2 := ⟨k - 2, by omega⟩
  have fin : ∃ r, epitomeref04_Fit.j1 (k + 1) l (n : Int) out (i : Int) false = some r ∧ W r ∧ ins (ats r) = ins (ats out) + n ∧ (ats r).length ≤ (ats out).length + n + 6 * 0 ∧ r.length ≤ out.length + 0 + 1 := by
   rw [epitomeref04_Fit.j1, if_neg (by decide)]
   by_cases c : (n : Int) > 0
   ·rw [if_pos c, if_pos ho']
    refine ⟨_, rfl, W_snoc hw (okA_K n), ?_, ?_, by simp⟩
    ·rw [ats_snoc, ins_app, at1_K, ins_K]; simp
    ·rw [ats_snoc, List.length_append, at1_K, List.length_replicate, Int.toNat_natCast]; omega
   ·rw [if_neg c]
    exact ⟨_, rfl, hw, by omega, by omega, by omega⟩
  rw [epitomeref04_Fit.l0]
  split
  ·rw [show decide ((i : Int) < 12) = false from decide_eq_false (by omega)]; exact fin
  ·exact fin
 | succ d ih =>
  intro i k n out hd hi hw ho hn hk
  have ho' : out.length < 4398046511104 := by omega
  obtain ⟨k, rfl⟩ : ∃ j, k = j + 2 := ⟨k - 2, by omega⟩
  have fin : ∃ r, epitomeref04_Fit.j1 (k + 1) l (n : Int) out (i : Int) false = some r ∧ W r ∧ ins (ats r) = ins (ats out) + n ∧ (ats r).length ≤ (ats out).length + n + 6 * (d + 1) ∧ r.length ≤ out.length + (d + 1) + 1 := by
   rw [epitomeref04_Fit.j1, if_neg (by decide)]
   by_cases c : (n : Int) > 0
   ·rw [if_pos c, if_pos ho']
    refine ⟨_, rfl, W_snoc hw (okA_K n), ?_, ?_, by simp⟩
    ·rw [ats_snoc, ins_app, at1_K, ins_K]; simp
    ·rw [ats_snoc, List.length_append, at1_K, List.length_replicate, Int.toNat_natCast]; omega
   ·rw [if_neg c]
    exact ⟨_, rfl, hw, by omega, by omega, by omega⟩
  rw [epitomeref04_Fit.l0]
  split
  ·rename_i hlt
   rw [show decide ((i : Int) < 12) = true from decide_eq_true (by omega), epitomeref04_Fit.j1, if_pos rfl, if_pos (by omega), if_pos hlt]
   have hkd := kd_cases (rd_T25 l (i : Int)).f0
   have hnn := nn_range (rd_T25 l (i : Int)).f1
   obtain ⟨x, ex⟩ : ∃ x, x = rd_T25 l (i : Int) := ⟨_, rfl⟩
   rw [← ex] at hkd hnn ⊢
   obtain ⟨K, eK⟩ : ∃ K, K = wrap64 (1 + Int.tmod (wrap64 (Int.tmod x.f0 3 + 3)) 3) := ⟨_, rfl⟩
   obtain ⟨q, eq⟩ : ∃ q, q = Int.tmod (wrap64 (Int.tmod x.f1 7 + 7)) 7 := ⟨_, rfl⟩
   simp only [← eK, ← eq] at hkd hnn ⊢
   clear eK eq
   have ew : wrap64 ((i : Int) + 1) = ((i + 1 : Nat) : Int) := w64 (by omega) (by omega)
   rw [ew]
   clear ew
   by_cases c : K = 2
   ·subst c
    have m := mn_le (x.f2.size : Int) 6
    have h0 : 0 ≤ mn (x.f2.size : Int) 6 := by rcases m.2.2 with h | h <;> omega
    obtain ⟨t, et, ht, htl⟩ := fit_small (x.f2.extract 0 (mn (x.f2.size : Int) 6).toNat) (by rw [ByteArray.size_extract]; omega) k (by omega)
    have hle : t.length ≤ 6 := by rw [htl, ByteArray.size_extract]; omega
    rw [if_pos rfl, if_pos h0, if_pos m.1, et, Option.bind_some, if_pos ho']
    clear m h0 htl et hkd hnn ex
    obtain ⟨r, h1, h2, h3, h4, h5⟩ := ih (i + 1) k n (out ++ [⟨2, 0, enc t⟩]) (by omega) (by omega) (W_snoc hw (okA_I ht)) (by simp; omega) hn (by omega)
    rw [ats_snoc, at1_I 0 ht] at h3 h4
    rw [ins_app, ins_I] at h3
    rw [List.length_append, List.length_map] at h4
    rw [List.length_append, List.length_singleton] at h5
    exact ⟨r, h1, h2, by omega, by omega, by omega⟩
   ·rw [if_neg c, if_pos ho']
    have m := mn_le q (n : Int)
    have h0 : 0 ≤ mn q (n : Int) := by rcases m.2.2 with h | h <;> omega
    obtain ⟨p, hp⟩ : ∃ p : Nat, mn q (n : Int) = (p : Int) := ⟨(mn q (n : Int)).toNat, by omega⟩
    rw [hp] at m ⊢
    have m1 := m.1
    have m2 := m.2.1
    clear m h0 hp ex
    rw [show wrap64 ((n : Int) - (p : Int)) = ((n - p : Nat) : Int) by rw [w64 (by omega) (by omega)]; omega]
    rcases (show K = 1 ∨ K = 3 by omega) with rfl | rfl
    ·obtain ⟨r, h1, h2, h3, h4, h5⟩ := ih (i + 1) k (n - p) (out ++ [⟨1, (p : Int), ⟨#[]⟩⟩]) (by omega) (by omega) (W_snoc hw (okA_K p)) (by simp; omega) (by omega) (by omega)
     rw [ats_snoc, at1_K, Int.toNat_natCast] at h3 h4
     rw [ins_app, ins_K] at h3
     rw [List.length_append, List.length_replicate] at h4
     rw [List.length_append, List.length_singleton] at h5
     exact ⟨r, h1, h2, by omega, by omega, by omega⟩
    ·obtain ⟨r, h1, h2, h3, h4, h5⟩ := ih (i + 1) k (n - p) (out ++ [⟨3, (p : Int), ⟨#[]⟩⟩]) (by omega) (by omega) (W_snoc hw (okA_D p)) (by simp; omega) (by omega) (by omega)
     rw [ats_snoc, at1_D, Int.toNat_natCast] at h3 h4
     rw [ins_app, ins_D] at h3
     rw [List.length_append, List.length_replicate] at h4
     rw [List.length_append, List.length_singleton] at h5
     exact ⟨r, h1, h2, by omega, by omega, by omega⟩
  ·exact fin
theorem fit_A (l : List S25) (n : Nat) (hn : n ≤ 1000000) (k : Nat) (hk : 400 ≤ k) : ∃ r, epitomeref04_Fit.f k l (n : Int) = some r ∧ W r ∧ ins (ats r) = n ∧ (ats r).length ≤ n + 72 ∧ r.length ≤ 13 := by
 obtain ⟨r, h1, h2, h3, h4, h5⟩ := fit_l l 12 0 k n [] rfl (by decide) W_nil (by simp) hn (by omega)
 rw [ats_nil, ins_nil] at h3
 rw [ats_nil] at h4
 exact ⟨r, h1, h2, by omega, by simpa using h4, by simpa using h5⟩
theorem rd_at (l : List S25) (i : Nat) (h : i < l.length) : rd_T25 l (i : Int) = l[i] := by
 unfold rd_T25; rw [Int.toNat_natCast, List.getD_eq_getElem?_getD, List.getElem?_eq_getElem h]; rfl
theorem rdL_at (l : List (List S25)) (i : Nat) (h : i < l.length) : rd_L3 l (i : Int) = l[i] := by
 unfold rd_L3; rw [Int.toNat_natCast, List.getD_eq_getElem?_getD, List.getElem?_eq_getElem h]; rfl
def ch : Nat → List (List S25) → Prop
 | _, [] => True
 | n, x :: l => W x ∧ ins (ats x) = n ∧ ch (outs (ats x)) l
def tot (l : List (List S25)) : Nat := (l.map fun x => (ats x).length).sum
def sz : Nat → List (List S25) → Nat → Nat
 | n, _, 0 => n
 | n, [], _ + 1 => n
 | _, x :: l, a + 1 => sz (outs (ats x)) l a
theorem ch_snoc {x : List S25} : ∀ {l : List (List S25)} {n : Nat}, ch n l → W x → ins (ats x) = sz n l l.length → ch n (l ++ [x])
 | [], n, _, hx, he => ⟨hx, he, trivial⟩
 | y :: l, n, ⟨h1, h2, h3⟩, hx, he => ⟨h1, h2, ch_snoc h3 hx he⟩
theorem tot_snoc (l : List (List S25)) (x : List S25) : tot (l ++ [x]) = tot l + (ats x).length := by simp [tot]
theorem tot_cons (l : List (List S25)) (x : List S25) : tot (x :: l) = (ats x).length + tot l := by simp [tot]
def hs (n : Nat) (l : List (List S25)) : Prop := ch n l ∧ ∀ x ∈ l, Alt x
theorem ch_mem : ∀ {l : List (List S25)} {n : Nat}, ch n l → ∀ x ∈ l, W x ∧ (ats x).length ≤ tot l
 | [], _, _, _, h => by cases h
 | y :: l, _, ⟨h1, _, h3⟩, x, hx => by
  rw [tot_cons]
  rcases List.mem_cons.1 hx with rfl | hx
  ·exact ⟨h1, by omega⟩
  ·have := ch_mem h3 x hx; exact ⟨this.1, by omega⟩
def revs (m : Nat) : List Int := (List.range (m + 1)).map fun i : Nat => (i : Int)
theorem revs_len (m : Nat) : (revs m).length = m + 1 := by simp [revs]
theorem revs_succ (m : Nat) : revs (m + 1) = revs m ++ [((m + 1 : Nat) : Int)] := by unfold revs; rw [List.range_succ (n := m + 1), List.map_append]; rfl
end Go.Proofs.YtegjegihcebimaaDoor.Pure
end
