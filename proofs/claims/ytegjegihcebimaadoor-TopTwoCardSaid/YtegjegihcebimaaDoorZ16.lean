/- Part 16 of the proof of topTwo_holds: out of the texts that this session's programs wrote, what the theorem reaches. -/
import Derived.Lib.Bytes
import Derived.Test.YtegjegihcebimaaDoorZ0
import Derived.Test.YtegjegihcebimaaDoorZ11
import Derived.Test.YtegjegihcebimaaDoorZ2
import Derived.Test.YtegjegihcebimaaDoorZ3
import Derived.Test.YtegjegihcebimaaDoorZ4
import Derived.Test.YtegjegihcebimaaDoorZ5
import Derived.Test.YtegjegihcebimaaDoorZ6
import Derived.Test.YtegjegihcebimaaDoorZ7
import Derived.Test.YtegjegihcebimaaDoorZ8
import Derived.Test.YtegjegihcebimaaDoorZ9
section
namespace Go.Proofs.YtegjegihcebimaaDoor.P
open Go.RowKit Go.Proofs.YtegjegihcebimaaDoorW.PrintWords Go.Proofs.YtegjegihcebimaaDoorW.PrintLast Go.Proofs.YtegjegihcebimaaDoorW.PrintMore
attribute [local go_sem] max2_int min2_int max_two min_two max_three min_three max_four min_four
set_option linter.unusedVariables false
set_option linter.unusedSimpArgs false
def keep_Floor.l0 : Nat → Int → Int → List Int → Int → Int → Option (Int)
 | 0, _, _, _, _, _ => none
 | k + 1, x1, x5, x8, x9, x10 => if x10 < x9 then (if 0 ≤ x10 then (if x10 < (x8.length : Int) then (if (rd x8 x10) > x1 then (some x5) else (keep_Floor.l0 k x1 x10 x8 x9 (wrap64 (x10 + 1)))) else (none)) else (none)) else (some x5)
def keep_Floor.f (k : Nat) (l0 : List Int) (a1 : Int) : Option (Int) := keep_Floor.l0 k a1 0 l0 (l0.length : Int) 0
def i64ok (x : Int) : Prop := -9223372036854775808 ≤ x ∧ x ≤ 9223372036854775807
instance (x : Int) : Decidable (i64ok x) := inferInstanceAs (Decidable (_ ∧ _))
def SM (w : World) (b n : Nat) (l : List Int) : Prop := ∃ D : DataW Unit, w.ownsMap Tryd.prog 3 (plainElem Tryd.prog 4) b n D ∧ Go.Maps.IsMap D ∧ ∀ x : Int, D.atKey (.int .i64 x) (.lit (.bool false)) = .lit (.bool (decide (x ∈ l)))
theorem SM.lt {w : World} {b n : Nat} {l : List Int} (h : SM w b n l) : b < w.heap.size := by
 obtain ⟨D, h1, _⟩ := h
 exact h1.lt
def keep_Of.p (r l1 : List Int) (x : Int) : Bool := decide (x = rd r 0) || decide (x = rd r ((r.length : Int) - 1)) || decide (x ∈ l1)
def keep_Of.f (k : Nat) (l0 l1 : List Int) (a2 : Int) : Option (List Int) :=
 (keep_Floor.f k l0 a2).bind fun m => if 0 ≤ m ∧ m < (l0.length : Int) ∧ l0.length < 1000000 ∧ l1.length < 1000000 ∧ (∀ x ∈ l0, i64ok x) ∧ (∀ x ∈ l1, i64ok x) then some ((l0.drop m.toNat).filter (keep_Of.p (l0.drop m.toNat) l1)) else none
def compact_Of.to (y : Int) : List Int → Nat → Option Nat
 | [], _ => none
 | x :: l, i => if x = y then some i else compact_Of.to y l (i + 1)
def compact_Of.l (k : Nat) (sz revs : List Int) (segs : List (List S25)) : Nat → List Int → Option (List (List S25))
 | _, [] => some []
 | at_, y :: rest => (compact_Of.to y (revs.drop at_) at_).bind fun t => if t ≤ segs.length ∧ at_ < sz.length then (fuse_Of.f k (rd sz (at_ : Int)) ((segs.take t).drop at_)).bind fun r => (if r.2 = 0 then (compact_Of.l k sz revs segs t rest).bind fun o => some (r.1 :: o) else none) else none
def compact_Of.f (k : Nat) (s : ByteArray) (revs : List Int) (segs : List (List S25)) (set : List Int) (floor : Int) : Option (ByteArray × List Int × List (List S25) × Int) :=
 if segs.length < 1000000 ∧ revs.length < 1000000 then (chain_Sizes.f k s revs segs).bind fun z => (if z.2 = 0 then (keep_Floor.f k revs floor).bind fun a => (chain_At.f k s revs segs a).bind fun b => (if b.2 = 0 then (keep_Of.f k revs set floor).bind fun kept => (if 0 ≤ a ∧ 1 ≤ kept.length ∧ kept.length < 1000000 then (compact_Of.l k z.1 revs segs a.toNat (kept.drop 1)).bind fun o => some (b.1, kept, o, 0) else none) else none) else none) else none
mutual
def epitomeref01_first.j0 : Nat → ByteArray → Int → Int → Int → Bool → Option (Int × Int)
 | 0, _, _, _, _, _ => none
 | k + 1, x0, x4, x5, x6, x21 => if x21 = true then (epitomeref01_first.j3 k x0 3 (wrap64 (x4 - 240))) else (if x4 ≥ 224 then (epitomeref01_first.j1 k x0 x4 x5 x6 (decide (x4 < 240))) else (epitomeref01_first.j1 k x0 x4 x5 x6 false))
def epitomeref01_first.j3 : Nat → ByteArray → Int → Int → Option (Int × Int)
 | 0, _, _, _ => none
 | k + 1, x0, x5, x6 => if (x0.size : Int) < (wrap64 (x5 + 1)) then (some (0, 0)) else (epitomeref01_first.l0 k x0 x5 x6 1)
def epitomeref01_first.l0 : Nat → ByteArray → Int → Int → Int → Option (Int × Int)
 | 0, _, _, _, _ => none
 | k + 1, x0, x5, x6, x7 => if x7 ≤ x5 then (if 0 ≤ x7 then (if x7 < (x0.size : Int) then (if (wrap64 (bt x0 x7)) < 128 then (some (0, 0)) else (if (wrap64 (bt x0 x7)) > 191 then (some (0, 0)) else (epitomeref01_first.l0 k x0 x5 (wrap64 ((wrap64 ((wrap64 (x6 * 64)) + (wrap64 (bt x0 x7)))) - 128)) (wrap64 (x7 + 1))))) else (none)) else (none)) else ((epitomeref01_size.f k x6).bind fun t239 => (if t239 = (wrap64 (x5 + 1)) then (some (x6, wrap64 (x5 + 1))) else (some (0, 0))))
def epitomeref01_first.j1 : Nat → ByteArray → Int → Int → Int → Bool → Option (Int × Int)
 | 0, _, _, _, _, _ => none
 | k + 1, x0, x4, x5, x6, x29 => if x29 = true then (epitomeref01_first.j3 k x0 2 (wrap64 (x4 - 224))) else (if x4 ≥ 192 then (epitomeref01_first.j2 k x0 x4 x5 x6 (decide (x4 < 224))) else (epitomeref01_first.j2 k x0 x4 x5 x6 false))
def epitomeref01_first.j2 : Nat → ByteArray → Int → Int → Int → Bool → Option (Int × Int)
 | 0, _, _, _, _, _ => none
 | k + 1, x0, x4, x5, x6, x37 => if x37 = true then (epitomeref01_first.j3 k x0 1 (wrap64 (x4 - 192))) else (if x4 ≥ 128 then (some (0, 0)) else (epitomeref01_first.j3 k x0 x5 x6))
end
def epitomeref01_first.f (k : Nat) (a0 : ByteArray) : Option (Int × Int) := if (a0.size : Int) = 0 then (some (0, 0)) else (if 0 < (a0.size : Int) then (if (wrap64 (bt a0 0)) ≥ 240 then (epitomeref01_first.j0 k a0 (wrap64 (bt a0 0)) 0 (wrap64 (bt a0 0)) (decide ((wrap64 (bt a0 0)) < 248))) else (epitomeref01_first.j0 k a0 (wrap64 (bt a0 0)) 0 (wrap64 (bt a0 0)) false)) else (none))
def epitomeref01_Starts.l0 : Nat → ByteArray → List Int → Int → Option (List Int × Bool)
 | 0, _, _, _ => none
 | k + 1, x0, x4, x5 => if x5 < (x0.size : Int) then (if 0 ≤ x5 then (if x5 ≤ (x0.size : Int) then ((epitomeref01_first.f k (x0.extract (x5 : Int).toNat x0.size)).bind fun bt243 => (if bt243.2 = 0 then (some (([] : List Int), false)) else (if x4.length < 17592186044416 then (epitomeref01_Starts.l0 k x0 (x4 ++ [wrap64 (x5 + bt243.2)]) (wrap64 (x5 + bt243.2))) else (none)))) else (none)) else (none)) else (some (x4, true))
def epitomeref01_Starts.f (k : Nat) (a0 : ByteArray) : Option (List Int × Bool) := epitomeref01_Starts.l0 k a0 (([0] : List Int)) 0
def epitomeref01_Count.f (k : Nat) (a0 : ByteArray) : Option (Int) := (epitomeref01_Starts.f k a0).bind fun bt248 => (some (wrap64 ((bt248.1.length : Int) - 1)))
def epitomeref03_Out.f (k : Nat) (a0_0 : Int) (a0_1 : Int) (a0_2 : ByteArray) : Option (Int) := if a0_0 = 1 then (some a0_1) else (if a0_0 = 2 then ((epitomeref01_Count.f k a0_2).bind fun t253 => (some (mx t253 0))) else (some 0))
def epitomeref04_Out.l0 : Nat → List (S25) → Int → Int → Option (Int)
 | 0, _, _, _ => none
 | k + 1, x0, x3, x4 => if x4 < (x0.length : Int) then (if 0 ≤ x4 then ((epitomeref03_Out.f k ((rd_T25 x0 x4).f0) ((rd_T25 x0 x4).f1) ((rd_T25 x0 x4).f2)).bind fun t255 => (epitomeref04_Out.l0 k x0 (wrap64 (x3 + t255)) (wrap64 (x4 + 1)))) else (none)) else (some x3)
def epitomeref04_Out.f (k : Nat) (l0 : List (S25)) : Option (Int) := epitomeref04_Out.l0 k l0 0 0
mutual
def epitomeref04_Chain.l0 : Nat → List (List (S25)) → Int → List (List (S25)) → Int → Option ((List (List (S25))))
 | 0, _, _, _, _ => none
 | k + 1, x0, x1, x5, x6 => if x6 < (x0.length : Int) then (epitomeref04_Chain.j1 k x0 x1 x5 x6 (decide (x6 < 20))) else (epitomeref04_Chain.j1 k x0 x1 x5 x6 false)
def epitomeref04_Chain.j1 : Nat → List (List (S25)) → Int → List (List (S25)) → Int → Bool → Option ((List (List (S25))))
 | 0, _, _, _, _, _ => none
 | k + 1, x0, x1, x5, x6, x16 => if x16 = true then (if 0 ≤ x6 then (if x6 < (x0.length : Int) then ((epitomeref04_Fit.f k (rd_L3 x0 x6) x1).bind fun t260 => (if x5.length < 5864062014805 then ((epitomeref04_Out.f k t260).bind fun t266 => (epitomeref04_Chain.l0 k x0 t266 (x5 ++ [t260]) (wrap64 (x6 + 1)))) else (none))) else (none)) else (none)) else (some x5)
end
def epitomeref04_Chain.f (k : Nat) (l0 : List (List (S25))) (a1 : Int) : Option ((List (List (S25)))) := epitomeref04_Chain.l0 k l0 a1 (([] : List (List (S25)))) 0
mutual
def epitomeref05_Of.l0 : Nat → List (S25) → List (S25) → Int → Option ((List (S25)))
 | 0, _, _, _ => none
 | k + 1, x0, x3, x4 => if x4 < (x0.length : Int) then (if 0 ≤ x4 then (if ((rd_T25 x0 x4).f1) = 0 then (epitomeref05_Of.j1 k x0 x3 x4 (((rd_T25 x0 x4).f2).toList == ([] : List UInt8)) ((rd_T25 x0 x4).f0) ((rd_T25 x0 x4).f1) ((rd_T25 x0 x4).f2)) else (epitomeref05_Of.j1 k x0 x3 x4 false ((rd_T25 x0 x4).f0) ((rd_T25 x0 x4).f1) ((rd_T25 x0 x4).f2))) else (none)) else (some x3)
def epitomeref05_Of.j1 : Nat → List (S25) → List (S25) → Int → Bool → Int → Int → ByteArray → Option ((List (S25)))
 | 0, _, _, _, _, _, _, _ => none
 | k + 1, x0, x3, x4, x25, x272000, x272001, x272002 => if x25 = true then (epitomeref05_Of.l0 k x0 x3 (wrap64 (x4 + 1))) else (if (x3.length : Int) > 0 then (if 0 ≤ (wrap64 ((x3.length : Int) - 1)) then (if (wrap64 ((x3.length : Int) - 1)) < (x3.length : Int) then (if ((rd_T25 x3 (wrap64 ((x3.length : Int) - 1))).f0) = x272000 then ((some (x3.set ((wrap64 ((x3.length : Int) - 1)) : Int).toNat (⟨(rd_T25 x3 (wrap64 ((x3.length : Int) - 1))).f0, wrap64 (((rd_T25 x3 (wrap64 ((x3.length : Int) - 1))).f1) + x272001), (rd_T25 x3 (wrap64 ((x3.length : Int) - 1))).f2⟩ : S25) : List (S25))).bind fun y274 => (if ((rd_T25 y274 (wrap64 ((x3.length : Int) - 1))).f2).size + x272002.size ≤ 9223372036854775807 then (epitomeref05_Of.l0 k x0 (y274.set ((wrap64 ((x3.length : Int) - 1)) : Int).toNat (⟨(rd_T25 y274 (wrap64 ((x3.length : Int) - 1))).f0, (rd_T25 y274 (wrap64 ((x3.length : Int) - 1))).f1, ((rd_T25 y274 (wrap64 ((x3.length : Int) - 1))).f2) ++ x272002⟩ : S25)) (wrap64 (x4 + 1))) else (none))) else (if x3.length < 4398046511104 then (epitomeref05_Of.l0 k x0 (x3 ++ [(⟨x272000, x272001, x272002⟩ : S25)]) (wrap64 (x4 + 1))) else (none))) else (none)) else (none)) else (if x3.length < 4398046511104 then (epitomeref05_Of.l0 k x0 (x3 ++ [(⟨x272000, x272001, x272002⟩ : S25)]) (wrap64 (x4 + 1))) else (none)))
end
def epitomeref05_Of.f (k : Nat) (l0 : List (S25)) : Option ((List (S25))) := epitomeref05_Of.l0 k l0 (([] : List (S25))) 0
def epitomeref16_Fit.l0 : Nat → List (List (S25)) → Int → ByteArray → List Int → List (List (S25)) → Option (ByteArray × List Int × (List (List (S25))))
 | 0, _, _, _, _, _ => none
 | k + 1, x6, x7, x289000, x289001, x289002 => if x7 < (x6.length : Int) then (if x289001.length < 17592186044416 then (if 0 ≤ x7 then ((epitomeref05_Of.f k (rd_L3 x6 x7)).bind fun t297 => (if x289002.length < 5864062014805 then (epitomeref16_Fit.l0 k x6 (wrap64 (x7 + 1)) x289000 (x289001 ++ [wrap64 (x7 + 1)]) (x289002 ++ [t297])) else (none))) else (none)) else (none)) else (some (x289000, x289001, x289002))
def epitomeref16_Fit.f (k : Nat) (a0 : ByteArray) (l1 : List (List (S25))) : Option (ByteArray × List Int × (List (List (S25)))) := if 0 ≤ (mn (a0.size : Int) 20) then (if (mn (a0.size : Int) 20) ≤ (a0.size : Int) then ((epitomeref01_Fit.f k (a0.extract 0 ((mn (a0.size : Int) 20) : Int).toNat)).bind fun t284 => ((epitomeref01_Count.f k t284).bind fun t289 => ((epitomeref04_Chain.f k l1 t289).bind fun t290 => (epitomeref16_Fit.l0 k t290 0 t284 (([0] : List Int)) ([] : List (List (S25))))))) else (none)) else (none)
end Go.Proofs.YtegjegihcebimaaDoor.P
end
section
namespace Go.Proofs.YtegjegihcebimaaDoor.Pure
open Go.RowKit Go.Proofs.YtegjegihcebimaaDoor.P Go.Proofs.YtegjegihcebimaaDoorW.PrintWords Go.Proofs.YtegjegihcebimaaDoorW.PrintLast Go.Proofs.YtegjegihcebimaaDoorW.PrintMore
set_option linter.unusedVariables false
set_option linter.unusedSimpArgs false
theorem w64 {x : Int} (h0 : -9223372036854775808 ≤ x) (h1 : x ≤ 9223372036854775807) : wrap64 x = x := by unfold wrap64; omega
def sizeS (n : Int) : Int := if n < 0 ∨ 1114111 < n ∨ (55296 ≤ n ∧ n ≤ 57343) then 0 else if n < 128 then 1 else if n < 2048 then 2 else if n < 65536 then 3 else 4
theorem size_f (k : Nat) (n : Int) : epitomeref01_size.f (k + 1) n = some (sizeS n) := by
 have e : ∀ b, epitomeref01_size.j0 (k + 1) n b = if b = true then some 0 else some (if n < 128 then 1 else if n < 2048 then 2 else if n < 65536 then 3 else 4) := by
  intro b
  simp only [epitomeref01_size.j0]
  cases b
  ·simp only [Bool.false_eq_true, if_false]
   repeat' split
   all_goals rfl
  ·simp only [if_true]
 unfold epitomeref01_size.f sizeS
 by_cases c : n < 0
 ·rw [if_pos c, if_pos (.inl c), e, if_pos rfl]
 ·rw [if_neg c]
  by_cases c1 : n > 1114111
  ·rw [if_pos c1, if_pos (.inr (.inl c1)), e, if_pos rfl]
  ·rw [if_neg c1]
   by_cases c2 : n ≥ 55296
   ·rw [if_pos c2, e]
    by_cases c3 : n ≤ 57343
    ·rw [if_pos (by simpa using c3), if_pos (.inr (.inr ⟨c2, c3⟩))]
    ·rw [if_neg (by simpa using c3), if_neg (show ¬ (n < 0 ∨ 1114111 < n ∨ (55296 ≤ n ∧ n ≤ 57343)) by omega)]
   ·rw [if_neg c2, e, if_neg (by decide), if_neg (show ¬ (n < 0 ∨ 1114111 < n ∨ (55296 ≤ n ∧ n ≤ 57343)) by omega)]
def ofB (l : List Int) : List Int := (l.filter fun c => decide (isRune c)).flatMap Lib.encodeRuneZ
theorem ofB_len : ∀ l : List Int, (ofB l).length ≤ 4 * l.length
 | [] => by simp [ofB]
 | c :: l => by
  have ih := ofB_len l
  have hc := Lib.encodeRuneZ_length c
  unfold ofB at *
  rw [List.filter_cons]
  split
  ·rw [List.flatMap_cons, List.length_append, List.length_cons]; omega
  ·rw [List.length_cons]; omega
theorem ofB_next (l : List Int) (k : Nat) (h : k < l.length) : ofB (l.take (k + 1)) = ofB (l.take k) ++ (if isRune (l.getD k 0) then Lib.encodeRuneZ (l.getD k 0) else []) := by
 have e : l.getD k 0 = l[k] := by rw [List.getD_eq_getElem?_getD, List.getElem?_eq_getElem h]; rfl
 rw [e, List.take_succ_eq_append_getElem h]
 unfold ofB
 rw [List.filter_append, List.flatMap_append]
 congr 1
 by_cases c : isRune l[k]
 ·rw [if_pos c, List.filter_cons, if_pos (by simpa using c)]; simp
 ·rw [if_neg c, List.filter_cons, if_neg (by simpa using c)]; simp
theorem ofB_str (l : List Int) : strOfNums (ofB l) = enc (l.filter fun c => decide (isRune c)) := by
 apply bytes_ext
 rw [strOfNums_data, enc_list, encB, ofB, List.map_flatMap, List.flatMap_def]
 rfl
set_option maxHeartbeats 1000000 in
theorem of_l (l : List Int) (hl : 4 * l.length < 140737488355000) (hw : ∀ x ∈ l, -2147483648 ≤ x ∧ x ≤ 2147483647) :
  ∀ (d i k : Nat), l.length - i = d → i ≤ l.length → d + 3 ≤ k → epitomeref01_Of.l0 k l (ofB (l.take i)) (i : Int) = some (enc (l.filter fun c => decide (isRune c))) := by
 intro d
 induction d with
 | zero =>
  intro i k hd hi hk
  obtain ⟨k, rfl⟩ : ∃ m, k = m + 1 := ⟨k - 1, by omega⟩
  simp only [epitomeref01_Of.l0]
  rw [if_neg (by omega), List.take_of_length_le (by omega), ofB_str]
 | succ d ih =>
  intro i k hd hi hk
  obtain ⟨k, rfl⟩ : ∃ m, k = m + 2 := ⟨k - 2, by omega⟩
  have hb := ofB_len (l.take i)
  rw [List.length_take] at hb
  have hn := ofB_next l i (by omega)
  have hx : -2147483648 ≤ l.getD i 0 ∧ l.getD i 0 ≤ 2147483647 := by
   rw [List.getD_eq_getElem?_getD, List.getElem?_eq_getElem (by omega)]
   exact hw _ (List.getElem_mem _)
  have next := ih (i + 1) (k + 1) (by omega) (by omega) (by omega)
  rw [hn] at next
  simp only [epitomeref01_Of.l0]
  rw [if_pos (by omega), if_pos (by omega), size_f, Option.bind_some, w64 (x := (i : Int) + 1) (by omega) (by omega)]
  rw [show (i : Int) + 1 = ((i + 1 : Nat) : Int) by omega]
  unfold rd
  rw [Int.toNat_natCast]
  generalize l.getD i 0 = x at *
  simp only [w64 (x := x) (by omega) (by omega)]
  by_cases r : isRune x
  ·rw [if_pos r] at next
   unfold isRune at r
   rcases (by omega : (0 ≤ x ∧ x ≤ 127) ∨ (128 ≤ x ∧ x ≤ 2047) ∨ ((2048 ≤ x ∧ x < 55296) ∨ (57343 < x ∧ x ≤ 65535)) ∨ (65536 ≤ x ∧ x ≤ 1114111)) with g | g | g | g
   ·have z : sizeS x = 1 := by unfold sizeS; rw [if_neg (by omega), if_pos (by omega)]
    rw [Lib.encodeRuneZ_one g.1 g.2] at next
    rw [z, if_pos rfl, if_pos (by omega), Int.emod_eq_of_lt (by omega) (by omega)]
    exact next
   ·have z : sizeS x = 2 := by unfold sizeS; rw [if_neg (by omega), if_neg (by omega), if_pos (by omega)]
    rw [Lib.encodeRuneZ_two g.1 g.2] at next
    rw [z, if_neg (by decide), if_pos rfl, Option.bind_some, if_pos (by simp only [List.length_cons, List.length_nil]; omega)]
    rw [Int.tdiv_eq_ediv_of_nonneg (by omega), Int.tmod_eq_emod_of_nonneg (by omega), w64 (x := x / 64) (by omega) (by omega), w64 (x := 192 + x / 64) (by omega) (by omega), w64 (x := 128 + x % 64) (by omega) (by omega), Int.emod_eq_of_lt (a := 192 + x / 64) (by omega) (by omega), Int.emod_eq_of_lt (a := 128 + x % 64) (by omega) (by omega)]
    exact next
   ·have z : sizeS x = 3 := by unfold sizeS; rw [if_neg (by omega), if_neg (by omega), if_neg (by omega), if_pos (by omega)]
    have e : Lib.encodeRuneZ x = [224 + x / 4096, 128 + x / 64 % 64, 128 + x % 64] := by
     unfold Lib.encodeRuneZ; rw [if_neg (by omega), if_neg (by omega), if_pos g]
    rw [e] at next
    rw [z, if_neg (by decide), if_neg (by decide), if_pos rfl, Option.bind_some, if_pos (by simp only [List.length_cons, List.length_nil]; omega)]
    rw [Int.tdiv_eq_ediv_of_nonneg (b := 4096) (by omega), Int.tdiv_eq_ediv_of_nonneg (b := 64) (by omega), w64 (x := x / 64) (by omega) (by omega), Int.tmod_eq_emod_of_nonneg (a := x) (by omega), Int.tmod_eq_emod_of_nonneg (a := x / 64) (by omega), w64 (x := x / 4096) (by omega) (by omega), w64 (x := 224 + x / 4096) (by omega) (by omega), w64 (x := 128 + x / 64 % 64) (by omega) (by omega), w64 (x := 128 + x % 64) (by omega) (by omega),
     Int.emod_eq_of_lt (a := 224 + x / 4096) (by omega) (by omega), Int.emod_eq_of_lt (a := 128 + x / 64 % 64) (by omega) (by omega), Int.emod_eq_of_lt (a := 128 + x % 64) (by omega) (by omega)]
    exact next
   ·have z : sizeS x = 4 := by unfold sizeS; rw [if_neg (by omega), if_neg (by omega), if_neg (by omega), if_neg (by omega)]
    have e : Lib.encodeRuneZ x = [240 + x / 262144, 128 + x / 4096 % 64, 128 + x / 64 % 64, 128 + x % 64] := by
     unfold Lib.encodeRuneZ; rw [if_neg (by omega), if_neg (by omega), if_neg (by omega), if_pos g]
    rw [e] at next
    rw [z, if_neg (by decide), if_neg (by decide), if_neg (by decide), if_pos rfl, Option.bind_some, if_pos (by simp only [List.length_cons, List.length_nil]; omega)]
    rw [Int.tdiv_eq_ediv_of_nonneg (b := 262144) (by omega), Int.tdiv_eq_ediv_of_nonneg (b := 4096) (by omega), Int.tdiv_eq_ediv_of_nonneg (b := 64) (by omega), w64 (x := x / 64) (by omega) (by omega), w64 (x := x / 4096) (by omega) (by omega), Int.tmod_eq_emod_of_nonneg (a := x) (by omega), Int.tmod_eq_emod_of_nonneg (a := x / 64) (by omega), Int.tmod_eq_emod_of_nonneg (a := x / 4096) (by omega), w64 (x := x / 262144) (by omega) (by omega), w64 (x := 240 + x / 262144) (by omega) (by omega), w64 (x := 128 + x / 4096 % 64) (by omega) (by omega), w64 (x := 128 + x / 64 % 64) (by omega) (by omega), w64 (x := 128 + x % 64) (by omega) (by omega),
     Int.emod_eq_of_lt (a := 240 + x / 262144) (by omega) (by omega), Int.emod_eq_of_lt (a := 128 + x / 4096 % 64) (by omega) (by omega), Int.emod_eq_of_lt (a := 128 + x / 64 % 64) (by omega) (by omega), Int.emod_eq_of_lt (a := 128 + x % 64) (by omega) (by omega)]
    exact next
  ·rw [if_neg r, List.append_nil] at next
   have z : sizeS x = 0 := by unfold isRune at r; unfold sizeS; rw [if_pos (by omega)]
   rw [z, if_neg (by decide), if_neg (by decide), if_neg (by decide), if_neg (by decide)]
   exact next
theorem refOf (l : List Int) (hl : 4 * l.length < 140737488355000) (hw : ∀ x ∈ l, -2147483648 ≤ x ∧ x ≤ 2147483647) (k : Nat) (hk : l.length + 3 ≤ k) :
  epitomeref01_Of.f k l = some (enc (l.filter fun c => decide (isRune c))) := by
 unfold epitomeref01_Of.f
 exact of_l l hl hw l.length 0 k rfl (Nat.zero_le _) hk
theorem fit_rune (s : ByteArray) : Runes (epitomeref01_Fit.l s) := by
 intro c hc
 unfold epitomeref01_Fit.l at hc
 obtain ⟨b, _, rfl⟩ := List.mem_map.mp hc
 have h8 : b.toNat % 8 < 8 := Nat.mod_lt _ (by decide)
 generalize b.toNat % 8 = m at *
 rcases (by omega : m = 0 ∨ m = 1 ∨ m = 2 ∨ m = 3 ∨ m = 4 ∨ m = 5 ∨ m = 6 ∨ m = 7) with rfl | rfl | rfl | rfl | rfl | rfl | rfl | rfl <;> decide
theorem filter_runes {l : List Int} (h : Runes l) : (l.filter fun c => decide (isRune c)) = l := List.filter_eq_self.mpr fun c hc => by simpa using h c hc
theorem valid_ok {l : List Int} (h : Runes l) (hs : (enc l).size ≤ 9999) : points_Valid.f (enc l) = some true := by
 unfold points_Valid.f; rw [if_pos (by omega), validT_enc h]
theorem up {α : Type} {f : Nat → Option α} (h : ∀ k, LeO (f k) (f (k + 1))) {k k' : Nat} (hk : k ≤ k') {r : α} (e : f k = some r) : f k' = some r := by
 induction hk with
 | refl => exact e
 | step _ ih => exact h _ _ ih
theorem u8_of {m : Nat} {x : Int} (h : x = (m : Int)) : UInt8.ofNat m = x.toNat.toUInt8 := by subst h; rfl
theorem encode_rune {c : Int} (h : isRune c) : Utf8.encode c = enc [c] := by
 apply bytes_ext
 rw [enc_list, encB_cons, encB_nil, List.append_nil]
 obtain ⟨m, rfl⟩ : ∃ m : Nat, c = (m : Int) := ⟨c.toNat, by unfold isRune at h; omega⟩
 have v : Utf8.valid (m : Int) = true := by unfold isRune at h; simp [Utf8.valid]; omega
 unfold isRune at h
 unfold Lib.encodeRune
 by_cases c1 : m < 128
 ·rw [Lib.encodeRuneZ_one (by omega) (by omega)]
  simp only [Utf8.encode, v, if_true, Int.toNat_natCast, if_pos c1, List.map_cons, List.map_nil]
 by_cases c2 : m < 2048
 ·rw [Lib.encodeRuneZ_two (by omega) (by omega)]
  simp only [Utf8.encode, v, if_true, Int.toNat_natCast, if_neg c1, if_pos c2, List.map_cons, List.map_nil]
  rw [← u8_of (m := 192 + m / 64) (by omega), ← u8_of (m := 128 + m % 64) (by omega)]
 by_cases c3 : m < 65536
 ·rw [Lib.encodeRuneZ_three (by omega)]
  simp only [Utf8.encode, v, if_true, Int.toNat_natCast, if_neg c1, if_neg c2, if_pos c3, List.map_cons, List.map_nil]
  rw [← u8_of (m := 224 + m / 4096) (by omega), ← u8_of (m := 128 + m / 64 % 64) (by omega), ← u8_of (m := 128 + m % 64) (by omega)]
 ·rw [Lib.encodeRuneZ_four (by omega) (by omega)]
  simp only [Utf8.encode, v, if_true, Int.toNat_natCast, if_neg c1, if_neg c2, if_neg c3, List.map_cons, List.map_nil]
  rw [← u8_of (m := 240 + m / 262144) (by omega), ← u8_of (m := 128 + m / 4096 % 64) (by omega), ← u8_of (m := 128 + m / 64 % 64) (by omega), ← u8_of (m := 128 + m % 64) (by omega)]
theorem runesBytes_go : ∀ (l : List Int), Runes l → ∀ (b : List Int), (l.foldl (fun r n => r ++ Utf8.encode n) (enc b)) = enc (b ++ l)
 | [], _, b => by simp
 | c :: l, h, b => by
  rw [List.foldl_cons, encode_rune h.cons.1, enc_append, runesBytes_go l h.cons.2]
  simp
theorem runesBytes_enc {l : List Int} (h : Runes l) : runesBytes l = enc l := runesBytes_go l h []
theorem runesP_enc {l : List Int} (h : Runes l) : ∀ (d k b : Nat), l.length - k = d → k ≤ l.length → (enc l).size ≤ (encB (l.take k)).length + b → runesP (enc l) b (encB (l.take k)).length = l.drop k := by
 intro d
 induction d with
 | zero =>
  intro k b hd hk hb
  rw [List.drop_of_length_le (by omega), List.take_of_length_le (by omega)]
  cases b with
  | zero => rfl
  | succ b => rw [runesP, if_neg (by rw [enc_size]; omega)]
 | succ d ih =>
  intro k b hd hk hb
  have hlt := encB_take_lt (l := l) k (by omega)
  have hs := encB_take_succ (l := l) k (by omega)
  have h1 := (encodeRune_length (l.getD k 0)).1
  rw [enc_size] at hb
  cases b with
  | zero => omega
  | succ b =>
   have e : l.getD k 0 = l[k] := by rw [List.getD_eq_getElem?_getD, List.getElem?_eq_getElem (by omega)]; rfl
   have h0 : 0 ≤ l[k] := by have := h _ (List.getElem_mem (l := l) (n := k) (by omega)); unfold isRune at this; omega
   rw [runesP, if_pos (by rw [enc_size]; exact hlt), decode_enc h k (by omega) _ rfl]
   show ((l.getD k 0).toNat : Int) :: runesP (enc l) b ((encB (l.take k)).length + (Lib.encodeRune (l.getD k 0)).length) = _
   rw [← hs, ih (k + 1) b (by omega) (by omega) (by rw [enc_size]; omega), List.drop_eq_getElem_cons (show k < l.length by omega), e, Int.toNat_of_nonneg h0]
theorem runes_enc {l : List Int} (h : Runes l) : runesS (enc l) = l := by
 have := runesP_enc h l.length 0 (enc l).size rfl (Nat.zero_le _) (by simp [encB])
 simpa [encB, runesS] using this
abbrev sK (n : Int) : S25 := ⟨1, n, ⟨#[]⟩⟩
theorem emp_enc : (⟨#[]⟩ : ByteArray) = enc [] := rfl
theorem enc_toList (l : List Int) : (enc l).toList = encB l := by rw [ByteArray.toList_eq]; rfl
theorem encB_ne {l : List Int} (h : l ≠ []) : encB l ≠ [] := by
 cases l with
 | nil => exact absurd rfl h
 | cons c l => rw [encB_cons]; exact encodeRune_ne _ _
theorem e_num (a n : Int) : normal_Of.e ⟨a, n, ⟨#[]⟩⟩ = decide (n = 0) := by
 unfold normal_Of.e
 rw [emp_enc, enc_toList, encB_nil]; simp
theorem e_text (a n : Int) {l : List Int} (h : l ≠ []) : normal_Of.e ⟨a, n, enc l⟩ = false := by
 unfold normal_Of.e
 rw [enc_toList]; simp [encB_ne h]
theorem normal_ok {l : List S25} (hl : l.length < 1000000000) (ht : normal_Of.t l < 140737488355328) : normal_Of.f l = some (normal_Of.n l) := if_pos ⟨hl, ht⟩
theorem emp_app : (⟨#[]⟩ : ByteArray) ++ ⟨#[]⟩ = ⟨#[]⟩ := rfl
theorem emp_size : (⟨#[]⟩ : ByteArray).size = 0 := rfl
def restN (f a m : Int) (s : ByteArray) (l : List S25) : List S25 := if a = m then l else ⟨f, a - m, s⟩ :: l
theorem mn_le (a b : Int) : mn a b ≤ a ∧ mn a b ≤ b ∧ (mn a b = a ∨ mn a b = b) := by unfold mn; split <;> omega
theorem ol_end (k : Nat) (out : List S25) (ho : out.length < 1000000000) : over_Of.l (k + 1) [] [] out = some out := by rw [over_Of.l, if_pos ho]; rfl
theorem ol_a (k : Nat) (a s : List S25) (n f b : Int) (t u : ByteArray) (out : List S25) (hf : f ≠ 2) (ho : out.length < 1000000000) :
  over_Of.l (k + 1) (⟨2, n, t⟩ :: a) (⟨f, b, u⟩ :: s) out = over_Of.l k a (⟨f, b, u⟩ :: s) (out ++ [⟨2, n, t⟩]) := by
 rw [over_Of.l, if_pos ho, over_Of.st, if_neg hf]
 rfl
theorem ol_a0 (k : Nat) (a : List S25) (n : Int) (t : ByteArray) (out : List S25) (ho : out.length < 1000000000) :
  over_Of.l (k + 1) (⟨2, n, t⟩ :: a) [] out = over_Of.l k a [] (out ++ [⟨2, n, t⟩]) := by
 rw [over_Of.l, if_pos ho, over_Of.st, if_pos rfl]
theorem cut_ok {f a m : Int} {s : ByteArray} {l : List S25} (h0 : 0 ≤ m) (h1 : m ≤ a) (ha : a ≤ 1048576) : over_Of.cut (⟨f, a, s⟩ :: l) m = some (restN f a m s l) := by
 have e : wrap64 (a - m) = a - m := w64 (by omega) (by omega)
 show some (if wrap64 (a - m) = 0 then l else ⟨f, wrap64 (a - m), s⟩ :: l) = _
 rw [e, restN]
 by_cases c : a = m
 ·rw [if_pos c, if_pos (by omega)]
 ·rw [if_neg c, if_neg (by omega)]
theorem ol_K (k : Nat) (xs ys : List S25) (f a b : Int) (s t : ByteArray) (out : List S25) (hf : f ≠ 2) (ha : 0 ≤ a) (ha1 : a ≤ 1048576) (hb : 0 ≤ b) (hb1 : b ≤ 1048576) (ho : out.length < 1000000000) :
  over_Of.l (k + 1) (⟨f, a, s⟩ :: xs) (⟨1, b, t⟩ :: ys) out = over_Of.l k (restN f a (mn a b) s xs) (restN 1 b (mn a b) t ys) (out ++ [⟨f, mn a b, ⟨#[]⟩⟩]) := by
 have m := mn_le a b
 rw [over_Of.l, if_pos ho, over_Of.st, if_neg (show ¬ (1 : Int) = 2 by decide)]
 simp only []
 rw [if_neg hf, cut_ok (by omega) m.1 ha1, Option.bind_some, cut_ok (by omega) m.2.1 hb1, Option.bind_some, if_pos trivial]
theorem ol_D (k : Nat) (xs ys : List S25) (f a b : Int) (s t : ByteArray) (out : List S25) (hf : f ≠ 2) (ha : 0 ≤ a) (ha1 : a ≤ 1048576) (hb : 0 ≤ b) (hb1 : b ≤ 1048576) (ho : out.length < 1000000000) :
  over_Of.l (k + 1) (⟨f, a, s⟩ :: xs) (⟨3, b, t⟩ :: ys) out = over_Of.l k (restN f a (mn a b) s xs) (restN 3 b (mn a b) t ys) out := by
 have m := mn_le a b
 rw [over_Of.l, if_pos ho, over_Of.st, if_neg (show ¬ (3 : Int) = 2 by decide)]
 simp only []
 rw [if_neg hf, cut_ok (by omega) m.1 ha1, Option.bind_some, cut_ok (by omega) m.2.1 hb1, Option.bind_some, if_neg (show ¬ (3 : Int) = 1 by decide)]
inductive At | K | D | I (c : Int) deriving DecidableEq
def At.kd : At → Int | .K => 1 | .D => 3 | .I _ => 2
def At.i : At → Nat | .K => 1 | .D => 1 | .I _ => 0
def At.o : At → Nat | .K => 1 | .D => 0 | .I _ => 1
def ins (l : List At) : Nat := (l.map At.i).sum
def outs (l : List At) : Nat := (l.map At.o).sum
theorem ins_nil : ins [] = 0 := rfl
theorem outs_nil : outs [] = 0 := rfl
theorem ins_cons (a : At) (l : List At) : ins (a :: l) = a.i + ins l := by simp [ins]
theorem outs_cons (a : At) (l : List At) : outs (a :: l) = a.o + outs l := by simp [outs]
theorem ins_app (a b : List At) : ins (a ++ b) = ins a + ins b := by simp [ins]
theorem outs_app (a b : List At) : outs (a ++ b) = outs a + outs b := by simp [outs]
theorem ins_K (n : Nat) : ins (List.replicate n At.K) = n := by induction n with | zero => rfl | succ n ih => rw [List.replicate_succ, ins_cons, ih]; simp [At.i]; omega
theorem ins_D (n : Nat) : ins (List.replicate n At.D) = n := by induction n with | zero => rfl | succ n ih => rw [List.replicate_succ, ins_cons, ih]; simp [At.i]; omega
theorem outs_K (n : Nat) : outs (List.replicate n At.K) = n := by induction n with | zero => rfl | succ n ih => rw [List.replicate_succ, outs_cons, ih]; simp [At.o]; omega
theorem outs_D (n : Nat) : outs (List.replicate n At.D) = 0 := by induction n with | zero => rfl | succ n ih => rw [List.replicate_succ, outs_cons, ih]; simp [At.o]
theorem ins_I (t : List Int) : ins (t.map At.I) = 0 := by induction t with | nil => rfl | cons c t ih => rw [List.map_cons, ins_cons, ih]; simp [At.i]
theorem outs_I (t : List Int) : outs (t.map At.I) = t.length := by induction t with | nil => rfl | cons c t ih => rw [List.map_cons, outs_cons, ih]; simp [At.o]; omega
theorem ins_le (l : List At) : ins l ≤ l.length := by
  induction l with
  | nil => exact Nat.le_refl _
  | cons a l ih => rw [ins_cons, List.length_cons]; have : a.i ≤ 1 := by cases a <;> simp [At.i]
                   omega
theorem outs_le (l : List At) : outs l ≤ l.length := by
  induction l with
  | nil => exact Nat.le_refl _
  | cons a l ih => rw [outs_cons, List.length_cons]; have : a.o ≤ 1 := by cases a <;> simp [At.o]
                   omega
def okA (x : S25) : Prop := ((x.f0 = 1 ∨ x.f0 = 3) ∧ 0 ≤ x.f1 ∧ x.f2 = ⟨#[]⟩) ∨ (x.f0 = 2 ∧ x.f1 = 0 ∧ ∃ l, Runes l ∧ x.f2 = enc l)
def at1 (x : S25) : List At := if x.f0 = 2 then (runesS x.f2).map At.I else List.replicate x.f1.toNat (if x.f0 = 1 then At.K else At.D)
def ats (l : List S25) : List At := l.flatMap at1
theorem ats_nil : ats [] = [] := rfl
theorem ats_cons (x : S25) (l : List S25) : ats (x :: l) = at1 x ++ ats l := by simp [ats]
theorem ats_app (a b : List S25) : ats (a ++ b) = ats a ++ ats b := by simp [ats]
theorem at1_K (n : Int) (s : ByteArray) : at1 ⟨1, n, s⟩ = List.replicate n.toNat At.K := rfl
theorem at1_D (n : Int) (s : ByteArray) : at1 ⟨3, n, s⟩ = List.replicate n.toNat At.D := rfl
theorem at1_I {t : List Int} (n : Int) (h : Runes t) : at1 ⟨2, n, enc t⟩ = t.map At.I := by show (runesS (enc t)).map At.I = _; rw [runes_enc h]
theorem okA_cases {x : S25} (h : okA x) : (∃ n : Nat, x = ⟨1, (n : Int), ⟨#[]⟩⟩) ∨ (∃ n : Nat, x = ⟨3, (n : Int), ⟨#[]⟩⟩) ∨ (∃ t, Runes t ∧ x = ⟨2, 0, enc t⟩) := by
 obtain ⟨a, n, s⟩ := x
 rcases h with ⟨ha | ha, h0, h2⟩ | ⟨ha, h0, t, ht, h2⟩
 ·simp only at ha h0 h2; subst ha h2; exact .inl ⟨n.toNat, by rw [Int.toNat_of_nonneg h0]⟩
 ·simp only at ha h0 h2; subst ha h2; exact .inr (.inl ⟨n.toNat, by rw [Int.toNat_of_nonneg h0]⟩)
 ·simp only at ha h0 h2; subst ha h0 h2; exact .inr (.inr ⟨t, ht, rfl⟩)
theorem okA_K (n : Nat) : okA ⟨1, (n : Int), ⟨#[]⟩⟩ := .inl ⟨.inl rfl, Int.natCast_nonneg n, rfl⟩
theorem okA_D (n : Nat) : okA ⟨3, (n : Int), ⟨#[]⟩⟩ := .inl ⟨.inr rfl, Int.natCast_nonneg n, rfl⟩
theorem okA_I {t : List Int} (h : Runes t) : okA ⟨2, 0, enc t⟩ := .inr ⟨rfl, rfl, t, h, rfl⟩
theorem enc_le4 (t : List Int) : (enc t).size ≤ 4 * t.length := by
 rw [enc_size]
 induction t with
 | nil => simp [encB]
 | cons c t ih => rw [encB_cons, List.length_append, List.length_cons]; have := (encodeRune_length c).2; omega
theorem enc_sz {t : List Int} (h : t.length ≤ 1000000) : (enc t).size ≤ 4000000 := by have := enc_le4 t; omega
theorem count_big {l : List Int} (h : Runes l) (hs : (enc l).size ≤ 1000000000) : points_Count.f (enc l) = some (l.length : Int) := by
 unfold points_Count.f; rw [if_pos (by omega), countT_enc h]
theorem valid_big {l : List Int} (h : Runes l) (hs : (enc l).size ≤ 1000000000) : points_Valid.f (enc l) = some true := by
 unfold points_Valid.f; rw [if_pos (by omega), validT_enc h]
abbrev W (l : List S25) : Prop := ∀ x ∈ l, okA x
theorem W_cons {x : S25} {l : List S25} : W (x :: l) ↔ okA x ∧ W l := List.forall_mem_cons
theorem W_app {a b : List S25} : W (a ++ b) ↔ W a ∧ W b := by
 constructor
 ·exact fun h => ⟨fun x hx => h x (List.mem_append_left _ hx), fun x hx => h x (List.mem_append_right _ hx)⟩
 ·rintro ⟨h1, h2⟩ x hx
  exact (List.mem_append.mp hx).elim (h1 x) (h2 x)
theorem text_le {l : List S25} (h : W l) : normal_Of.t l ≤ 4 * (ats l).length := by
 induction l with
 | nil => simp [normal_Of.t]
 | cons x l ih =>
  obtain ⟨hx, hl⟩ := W_cons.1 h
  have := ih hl
  rw [normal_Of.t, ats_cons, List.length_append]
  rcases okA_cases hx with ⟨n, rfl⟩ | ⟨n, rfl⟩ | ⟨t, ht, rfl⟩
  ·show (⟨#[]⟩ : ByteArray).size + _ ≤ _; rw [emp_size]; omega
  ·show (⟨#[]⟩ : ByteArray).size + _ ≤ _; rw [emp_size]; omega
  ·rw [at1_I 0 ht, List.length_map]
   have := enc_le4 t
   show (enc t).size + _ ≤ _
   omega
theorem in_1 {x : S25} (h : okA x) : span_In.f x.f0 x.f1 x.f2 = some (ins (at1 x) : Int) := by
 rcases okA_cases h with ⟨n, rfl⟩ | ⟨n, rfl⟩ | ⟨t, ht, rfl⟩
 ·rw [at1_K, ins_K]; simp [span_In.f, span_of.f]
 ·rw [at1_D, ins_D]; simp [span_In.f, span_of.f]
 ·rw [at1_I 0 ht, ins_I]; simp [span_In.f, span_of.f]
theorem out_1 {x : S25} (h : okA x) (hb : (at1 x).length ≤ 1000000) : span_Out.f x.f0 x.f1 x.f2 = some (outs (at1 x) : Int) := by
 rcases okA_cases h with ⟨n, rfl⟩ | ⟨n, rfl⟩ | ⟨t, ht, rfl⟩
 ·rw [at1_K, outs_K]; simp [span_Out.f, span_of.f]
 ·rw [at1_D, outs_D]; simp [span_Out.f, span_of.f]
 ·rw [at1_I 0 ht, List.length_map] at hb
  have := enc_sz hb
  rw [at1_I 0 ht, outs_I]
  simp [span_Out.f, span_of.f, count_big ht (by omega), mx]
  intro hn; omega
theorem sum_go {F : S25 → Option Int} {g : List At → Nat} (hg : ∀ a b, g (a ++ b) = g a + g b) (h0 : g [] = 0) : ∀ (l : List S25) (a : Int), (∀ x ∈ l, F x = some (g (at1 x) : Int)) → 0 ≤ a → a + (g (ats l) : Int) ≤ 1000000000000 → op_sum.l F a l = some (a + (g (ats l) : Int)) := by
 intro l
 induction l with
 | nil => intro a _ _ _; rw [ats_nil, h0]; simp [op_sum.l]
 | cons x l ih =>
  intro a hx h0 ha
  obtain ⟨h1, hl⟩ := List.forall_mem_cons.1 hx
  rw [ats_cons, hg] at ha ⊢
  rw [op_sum.l, h1, Option.bind_some, w64 (by omega) (by omega), ih _ hl (by omega) (by omega)]
  congr 1; omega
theorem in_A {l : List S25} (h : W l) (hb : (ats l).length ≤ 1000000) (hl : l.length ≤ 1000000) : op_In.f l = some (ins (ats l) : Int) := by
 unfold op_In.f
 have := ins_le (ats l)
 rw [if_pos (by omega), sum_go ins_app ins_nil l 0 (fun x hx => in_1 (h x hx)) (by omega) (by omega)]
 simp
theorem at1_le {x : S25} {l : List S25} (h : x ∈ l) : (at1 x).length ≤ (ats l).length := by
 induction l with
 | nil => cases h
 | cons y l ih =>
  rw [ats_cons, List.length_append]
  rcases List.mem_cons.1 h with rfl | h
  ·omega
  ·have := ih h; omega
theorem out_A {l : List S25} (h : W l) (hb : (ats l).length ≤ 1000000) (hl : l.length ≤ 1000000) : op_Out.f l = some (outs (ats l) : Int) := by
 unfold op_Out.f
 have := outs_le (ats l)
 rw [if_pos (by omega), sum_go outs_app outs_nil l 0 (fun x hx => out_1 (h x hx) (by have := at1_le hx; omega)) (by omega) (by omega)]
 simp
theorem may_1 {x : S25} (h : okA x) (hb : (at1 x).length ≤ 1000000) : span_May.f 3 x.f0 x.f1 x.f2 = some 0 := by
 have e4 : points_Valid.f ⟨#[]⟩ = some true := by rw [emp_enc]; exact valid_ok (fun _ h => by cases h) (by decide)
 rcases okA_cases h with ⟨n, rfl⟩ | ⟨n, rfl⟩ | ⟨t, ht, rfl⟩
 ·rw [at1_K, List.length_replicate] at hb
  have e1 : ¬ (n : Int) < 0 := by omega
  have e2 : ¬ (n : Int) > 1048576 := by omega
  simp [span_May.f, span_of.f, span_May.j0, span_May.j1, span_May.j2, e1, e2, e4]
 ·rw [at1_D, List.length_replicate] at hb
  have e1 : ¬ (n : Int) < 0 := by omega
  have e2 : ¬ (n : Int) > 1048576 := by omega
  simp [span_May.f, span_of.f, span_May.j0, span_May.j1, span_May.j2, e1, e2, e4]
 ·rw [at1_I 0 ht, List.length_map] at hb
  have := enc_sz hb
  simp [span_May.f, span_of.f, span_May.j0, span_May.j1, span_May.j2, valid_big ht (by omega)]
theorem may_A {l : List S25} (h : W l) (hb : (ats l).length ≤ 1000000) (hl : l.length ≤ 1000000) (k : Nat) (hk : l.length + 4 ≤ k) : op_May.f k l = some 0 := by
 have hi := ins_le (ats l)
 have go : ∀ (d i k : Nat), l.length - i = d → i ≤ l.length → d + 4 ≤ k → op_May.l0 k l l (l.length : Int) (i : Int) = some 0 := by
  intro d
  induction d with
  | zero =>
   intro i k hd hi hk
   obtain ⟨k, rfl⟩ : ∃ j, k = j + 1 := ⟨k - 1, by omega⟩
   rw [op_May.l0, if_neg (by omega), in_A h hb hl, Option.bind_some, if_neg (by omega)]
  | succ d ih =>
   intro i k hd hi hk
   obtain ⟨k, rfl⟩ : ∃ j, k = j + 1 := ⟨k - 1, by omega⟩
   have hm : rd_T25 l (i : Int) ∈ l := by
    unfold rd_T25
    rw [Int.toNat_natCast, List.getD_eq_getElem?_getD, List.getElem?_eq_getElem (by omega)]
    exact List.getElem_mem _
   rw [op_May.l0, if_pos (by omega), if_pos (by omega), if_pos (by omega), up (span_May.mono _ _ _) (by omega : 3 ≤ k) (may_1 (h _ hm) (by have := at1_le hm; omega)), Option.bind_some, if_pos rfl, w64 (by omega) (by omega), show (i : Int) + 1 = ((i + 1 : Nat) : Int) by omega]
   exact ih (i + 1) k (by omega) (by omega) (by omega)
 exact go _ 0 k rfl (Nat.zero_le _) (by omega)
def ne (x : S25) : Prop := at1 x ≠ []
def Alt : List S25 → Prop
 | [] => True
 | x :: l => ne x ∧ (∀ y l', l = y :: l' → x.f0 ≠ y.f0) ∧ Alt l
theorem e_iff {x : S25} (h : okA x) : normal_Of.e x = true ↔ at1 x = [] := by
 rcases okA_cases h with ⟨n, rfl⟩ | ⟨n, rfl⟩ | ⟨t, ht, rfl⟩
 ·rw [e_num, at1_K]; simp
 ·rw [e_num, at1_D]; simp
 ·rw [at1_I 0 ht]
  by_cases c : t = []
  ·subst c; simp [e_num, show enc [] = (⟨#[]⟩ : ByteArray) from rfl]
  ·rw [e_text _ _ c]; simp [c]
theorem keep_ats : ∀ l : List S25, W l → ats (normal_Of.keep l) = ats l
 | [], _ => rfl
 | x :: l, h => by
  obtain ⟨hx, hl⟩ := W_cons.1 h
  have ih := keep_ats l hl
  unfold normal_Of.keep at *
  rw [List.filter_cons, ats_cons]
  by_cases c : normal_Of.e x = true
  ·rw [if_neg (by simp [c]), ih, (e_iff hx).1 c]; rfl
  ·rw [if_pos (by simpa using c), ats_cons, ih]
theorem keep_A {l : List S25} (h : W l) : W (normal_Of.keep l) ∧ (∀ x ∈ normal_Of.keep l, ne x) ∧ ats (normal_Of.keep l) = ats l ∧ (normal_Of.keep l).length ≤ l.length := by
 refine ⟨fun x hx => h x (List.mem_filter.1 hx).1, fun x hx => ?_, ?_, List.length_filter_le _ _⟩
 ·obtain ⟨hm, he⟩ := List.mem_filter.1 hx
  intro c
  rw [← e_iff (h x hm)] at c
  simp [c] at he
 ·exact keep_ats l h
theorem step_last (d : List S25) (y x : S25) : normal_Of.step (d ++ [y]) x = if x.f0 = y.f0 then d ++ [⟨y.f0, wrap64 (y.f1 + x.f1), y.f2 ++ x.f2⟩] else d ++ [y] ++ [x] := by
 have e1 : (d ++ [y]).length - 1 = d.length := by simp
 have e2 : rd_T25 (d ++ [y]) ((d.length : Nat) : Int) = y := by
  unfold rd_T25; rw [Int.toNat_natCast, List.getD_eq_getElem?_getD]; simp
 unfold normal_Of.step
 rw [if_neg (by simp), e1, e2]
 congr 1
 rw [List.set_append_right _ _ (Nat.le_refl _), Nat.sub_self]; rfl
theorem alt_snoc {d : List S25} {x : S25} (h : Alt d) (hx : ne x) (hk : ∀ d' y, d = d' ++ [y] → y.f0 ≠ x.f0) : Alt (d ++ [x]) := by
 induction d with
 | nil => exact ⟨hx, fun y l' e => by simp at e, trivial⟩
 | cons z d ih =>
  obtain ⟨h1, h2, h3⟩ := h
  refine ⟨h1, fun y l' e => ?_, ih h3 (fun d' y e => hk (z :: d') y (by rw [e]; rfl))⟩
  cases d with
  | nil => have e : [x] = y :: l' := e; injection e with e _; subst e; exact hk [] z rfl
  | cons w d => have e : w :: (d ++ [x]) = y :: l' := e; injection e with e _; subst e; exact h2 w d rfl
theorem alt_set {d : List S25} {y z : S25} (h : Alt (d ++ [y])) (hz : ne z) (hk : z.f0 = y.f0) : Alt (d ++ [z]) := by
 induction d with
 | nil => exact ⟨hz, fun y l' e => by simp at e, trivial⟩
 | cons w d ih =>
  obtain ⟨h1, h2, h3⟩ := h
  refine ⟨h1, fun u l' e => ?_, ih h3⟩
  cases d with
  | nil => have e : [z] = u :: l' := e; injection e with e _; subst e; rw [hk]; exact h2 y [] rfl
  | cons v d => have e : v :: (d ++ [z]) = u :: l' := e; injection e with e _; subst e; exact h2 v (d ++ [y]) rfl
theorem merge_A {x y : S25} (hx : okA x) (hy : okA y) (hk : x.f0 = y.f0) (hb : (at1 y).length + (at1 x).length ≤ 1000000) : okA ⟨y.f0, wrap64 (y.f1 + x.f1), y.f2 ++ x.f2⟩ ∧ at1 ⟨y.f0, wrap64 (y.f1 + x.f1), y.f2 ++ x.f2⟩ = at1 y ++ at1 x := by
 rcases okA_cases hy with ⟨n, rfl⟩ | ⟨n, rfl⟩ | ⟨t, ht, rfl⟩ <;> rcases okA_cases hx with ⟨m, rfl⟩ | ⟨m, rfl⟩ | ⟨u, hu, rfl⟩ <;> simp only at hk <;> try (exact absurd hk (by decide))
 ·rw [at1_K, at1_K, List.length_replicate, List.length_replicate] at hb
  simp only [emp_app]
  rw [w64 (by omega) (by omega), show (n : Int) + m = ((n + m : Nat) : Int) by omega]
  exact ⟨okA_K _, by rw [at1_K, at1_K, at1_K, Int.toNat_natCast, Int.toNat_natCast, Int.toNat_natCast, List.replicate_append_replicate]⟩
 ·rw [at1_D, at1_D, List.length_replicate, List.length_replicate] at hb
  simp only [emp_app]
  rw [w64 (by omega) (by omega), show (n : Int) + m = ((n + m : Nat) : Int) by omega]
  exact ⟨okA_D _, by rw [at1_D, at1_D, at1_D, Int.toNat_natCast, Int.toNat_natCast, Int.toNat_natCast, List.replicate_append_replicate]⟩
 ·have e0 : wrap64 ((0 : Int) + 0) = 0 := by simp [wrap64]
  simp only [enc_append, e0]
  exact ⟨okA_I (ht.append hu), by rw [at1_I 0 (ht.append hu), at1_I 0 ht, at1_I 0 hu, List.map_append]⟩
theorem step_A {d : List S25} {x : S25} (hd : W d) (ha : Alt d) (hx : okA x) (hn : ne x) (hb : (ats d).length + (at1 x).length ≤ 1000000) : W (normal_Of.step d x) ∧ Alt (normal_Of.step d x) ∧ ats (normal_Of.step d x) = ats d ++ at1 x ∧ (normal_Of.step d x).length ≤ d.length + 1 := by
 refine ⟨?_, ?_, ?_, (normal_Of.step_len d x).2⟩
 all_goals
  rcases List.eq_nil_or_concat d with rfl | ⟨d, y, rfl⟩
 ·rw [show normal_Of.step [] x = [x] from rfl]; exact W_cons.2 ⟨hx, fun _ h => by cases h⟩
 ·rw [List.concat_eq_append] at *
  rw [step_last]
  obtain ⟨h1, h2⟩ := W_app.1 hd
  have hy : okA y := h2 y (by simp)
  split
  ·rename_i c
   rw [ats_app, ats_cons, ats_nil, List.append_nil, List.length_append] at hb
   exact W_app.2 ⟨h1, W_cons.2 ⟨(merge_A hx hy c (by omega)).1, fun _ h => by cases h⟩⟩
  ·exact W_app.2 ⟨hd, W_cons.2 ⟨hx, fun _ h => by cases h⟩⟩
 ·rw [show normal_Of.step [] x = [x] from rfl]; exact ⟨hn, fun y l' e => by simp at e, trivial⟩
 ·rw [List.concat_eq_append] at *
  rw [step_last]
  obtain ⟨h1, h2⟩ := W_app.1 hd
  have hy : okA y := h2 y (by simp)
  split
  ·rename_i c
   rw [ats_app, ats_cons, ats_nil, List.append_nil, List.length_append] at hb
   refine alt_set ha ?_ rfl
   unfold ne
   rw [(merge_A hx hy c (by omega)).2]
   intro e
   exact hn (List.append_eq_nil_iff.1 e).2
  ·rename_i c
   refine alt_snoc ha hn (fun d' z e => ?_)
   obtain ⟨_, e2⟩ := List.append_inj' e rfl
   injection e2 with e2 _
   subst e2
   exact fun e => c e.symm
 ·rw [show normal_Of.step [] x = [x] from rfl]; simp [ats]
 ·rw [List.concat_eq_append] at *
  rw [step_last]
  obtain ⟨h1, h2⟩ := W_app.1 hd
  have hy : okA y := h2 y (by simp)
  rw [ats_app, ats_cons, ats_nil, List.append_nil] at hb ⊢
  rw [List.length_append] at hb
  split
  ·rename_i c
   rw [ats_app, ats_cons, ats_nil, List.append_nil, (merge_A hx hy c (by omega)).2, List.append_assoc]
  ·rw [ats_app, ats_app, ats_cons, ats_cons, ats_nil, List.append_nil, List.append_nil]
theorem fold_A : ∀ (l d : List S25), W d → Alt d → W l → (∀ x ∈ l, ne x) → (ats d).length + (ats l).length ≤ 1000000 → W (l.foldl normal_Of.step d) ∧ Alt (l.foldl normal_Of.step d) ∧ ats (l.foldl normal_Of.step d) = ats d ++ ats l ∧ (l.foldl normal_Of.step d).length ≤ d.length + l.length
 | [], d, hd, ha, _, _, _ => ⟨hd, ha, by simp [ats], by simp⟩
 | x :: l, d, hd, ha, hl, hn, hb => by
  obtain ⟨h1, h2⟩ := W_cons.1 hl
  obtain ⟨n1, n2⟩ := List.forall_mem_cons.1 hn
  rw [ats_cons, List.length_append] at hb
  obtain ⟨s1, s2, s3, s4⟩ := step_A hd ha h1 n1 (by omega)
  obtain ⟨r1, r2, r3, r4⟩ := fold_A l _ s1 s2 h2 n2 (by rw [s3, List.length_append]; omega)
  refine ⟨r1, r2, ?_, ?_⟩
  ·rw [List.foldl_cons, r3, s3, ats_cons, List.append_assoc]
  ·rw [List.foldl_cons, List.length_cons]; omega
theorem norm_A {l : List S25} (h : W l) (hb : (ats l).length ≤ 1000000) : W (normal_Of.n l) ∧ Alt (normal_Of.n l) ∧ ats (normal_Of.n l) = ats l ∧ (normal_Of.n l).length ≤ l.length := by
 obtain ⟨h1, h2, h3, h4⟩ := keep_A h
 obtain ⟨r1, r2, r3, r4⟩ := fold_A (normal_Of.keep l) [] (fun _ h => by cases h) trivial h1 h2 (by rw [h3, ats_nil]; simpa using hb)
 unfold normal_Of.n
 refine ⟨r1, r2, by rw [r3, h3]; rfl, by simp only [List.length_nil] at r4; omega⟩
theorem normal_A {l : List S25} (h : W l) (hb : (ats l).length ≤ 1000000) (hl : l.length ≤ 1000000) : normal_Of.f l = some (normal_Of.n l) := by
 have := text_le h
 exact normal_ok (by omega) (by omega)
theorem alt_ne : ∀ {l : List S25}, Alt l → ∀ x ∈ l, ne x
 | [], _, _, h => by cases h
 | y :: l, ⟨h1, _, h3⟩, x, hx => by
  rcases List.mem_cons.1 hx with rfl | hx
  ·exact h1
  ·exact alt_ne h3 x hx
theorem alt_len {l : List S25} (h : Alt l) : l.length ≤ (ats l).length := by
 induction l with
 | nil => simp
 | cons x l ih =>
  obtain ⟨h1, _, h3⟩ := h
  have := ih h3
  have : 1 ≤ (at1 x).length := by unfold ne at h1; cases hh : at1 x with | nil => exact absurd hh h1 | cons => simp
  rw [ats_cons, List.length_cons, List.length_append]; omega
theorem kd_at1 {x : S25} (h : okA x) : ∀ a ∈ at1 x, a.kd = x.f0 := by
 rcases okA_cases h with ⟨n, rfl⟩ | ⟨n, rfl⟩ | ⟨t, ht, rfl⟩
 ·intro a ha; rw [at1_K] at ha; rw [List.eq_of_mem_replicate ha]; rfl
 ·intro a ha; rw [at1_D] at ha; rw [List.eq_of_mem_replicate ha]; rfl
 ·intro a ha; rw [at1_I 0 ht] at ha; obtain ⟨c, _, rfl⟩ := List.mem_map.1 ha; rfl
theorem blocks {z : Int} : ∀ {a b c d : List At}, (∀ x ∈ a, x.kd = z) → (∀ x ∈ b, x.kd = z) → (∀ x l, c = x :: l → x.kd ≠ z) → (∀ x l, d = x :: l → x.kd ≠ z) → a ++ c = b ++ d → a = b ∧ c = d
 | [], [], c, d, _, _, _, _, e => ⟨rfl, e⟩
 | x :: a, [], c, d, ha, _, _, hd, e => absurd (ha x (by simp)) (hd x (a ++ c) (by simpa using e.symm))
 | [], y :: b, c, d, _, hb, hc, _, e => absurd (hb y (by simp)) (hc y (b ++ d) (by simpa using e))
 | x :: a, y :: b, c, d, ha, hb, hc, hd, e => by
  rw [List.cons_append, List.cons_append] at e
  injection e with e1 e2
  subst e1
  obtain ⟨r1, r2⟩ := blocks (a := a) (b := b) (fun x hx => ha x (by simp [hx])) (fun x hx => hb x (by simp [hx])) hc hd e2
  exact ⟨by rw [r1], r2⟩
theorem at1_inj {x y : S25} (hx : okA x) (hy : okA y) (hk : x.f0 = y.f0) (h : at1 x = at1 y) : x = y := by
 rcases okA_cases hx with ⟨n, rfl⟩ | ⟨n, rfl⟩ | ⟨t, ht, rfl⟩ <;> rcases okA_cases hy with ⟨m, rfl⟩ | ⟨m, rfl⟩ | ⟨u, hu, rfl⟩ <;> simp only at hk <;> try (exact absurd hk (by decide))
 ·rw [at1_K, at1_K] at h
  have := congrArg List.length h
  simp only [List.length_replicate] at this
  rw [show n = m by omega]
 ·rw [at1_D, at1_D] at h
  have := congrArg List.length h
  simp only [List.length_replicate] at this
  rw [show n = m by omega]
 ·rw [at1_I 0 ht, at1_I 0 hu] at h
  have : t = u := List.map_inj_right (fun a b e => by injection e) |>.1 h
  rw [this]
theorem alt_head {x : S25} {l : List S25} (ha : Alt (x :: l)) (hw : W l) : ∀ a m, ats l = a :: m → a.kd ≠ x.f0 := by
 intro a m e
 obtain ⟨_, h2, h3⟩ := ha
 cases l with
 | nil => rw [ats_nil] at e; cases e
 | cons y l =>
  have hy := (W_cons.1 hw).1
  have hn := h3.1
  rw [ats_cons] at e
  cases hh : at1 y with
  | nil => exact absurd hh hn
  | cons b u =>
   rw [hh, List.cons_append] at e
   injection e with e _
   have := kd_at1 hy b (by rw [hh]; simp)
   rw [← e, this]
   exact fun e => h2 y l rfl e.symm
theorem alt_uniq : ∀ {a b : List S25}, W a → W b → Alt a → Alt b → ats a = ats b → a = b
 | [], [], _, _, _, _, _ => rfl
 | x :: a, [], _, _, ha, _, e => absurd (List.append_eq_nil_iff.1 (by rw [← ats_cons]; exact e)).1 ha.1
 | [], y :: b, _, _, _, hb, e => absurd (List.append_eq_nil_iff.1 (by rw [← ats_cons]; exact e.symm)).1 hb.1
 | x :: a, y :: b, wa, wb, ha, hb, e => by
  obtain ⟨x1, a1⟩ := W_cons.1 wa
  obtain ⟨y1, b1⟩ := W_cons.1 wb
  rw [ats_cons, ats_cons] at e
  have hk : x.f0 = y.f0 := by
   cases hh : at1 x with
   | nil => exact absurd hh ha.1
   | cons u m =>
    cases hg : at1 y with
    | nil => exact absurd hg hb.1
    | cons v n =>
     rw [hh, hg, List.cons_append, List.cons_append] at e
     injection e with e _
     rw [← kd_at1 x1 u (by rw [hh]; simp), ← kd_at1 y1 v (by rw [hg]; simp), e]
  obtain ⟨e1, e2⟩ := blocks (z := x.f0) (kd_at1 x1) (fun c hc => by rw [hk]; exact kd_at1 y1 c hc) (alt_head ha a1) (fun c l hc => by rw [hk]; exact alt_head hb b1 c l hc) e
  rw [at1_inj x1 y1 hk e1, alt_uniq a1 b1 ha.2.2 hb.2.2 e2]
def noI (l : List At) : Prop := ∀ c l', l ≠ At.I c :: l'
theorem restN_ne' {f a m : Int} {s : ByteArray} {l : List S25} (h : a ≠ m) : restN f a m s l = ⟨f, a - m, s⟩ :: l := if_neg h
theorem restN_eq' {f a : Int} {s : ByteArray} {l : List S25} : restN f a a s l = l := if_pos rfl
def atk (f : Int) : At := if f = 1 then At.K else At.D
theorem noI_rep {a : At} (h : ∀ c, a ≠ At.I c) {n : Nat} (hn : 0 < n) (l : List At) : noI (List.replicate n a ++ l) := by
 intro c l' e
 cases n with
 | zero => omega
 | succ n => rw [List.replicate_succ, List.cons_append] at e; injection e with e _; exact h c e
theorem mn_nat (a b : Nat) : mn (a : Int) (b : Int) = ((min a b : Nat) : Int) := by
 unfold mn; split <;> omega
theorem rep_split (a : At) {m n : Nat} (h : m ≤ n) : List.replicate n a = List.replicate m a ++ List.replicate (n - m) a := by
 rw [List.replicate_append_replicate]; congr 1; omega
theorem W_nil : W [] := fun _ h => by cases h
theorem tm3 (x : Int) : -3 < Int.tmod x 3 ∧ Int.tmod x 3 < 3 := ⟨Int.lt_tmod_of_pos x (by decide), Int.tmod_lt_of_pos x (by decide)⟩
theorem tm7 (x : Int) : -7 < Int.tmod x 7 ∧ Int.tmod x 7 < 7 := ⟨Int.lt_tmod_of_pos x (by decide), Int.tmod_lt_of_pos x (by decide)⟩
theorem kd_cases (x : Int) : wrap64 (1 + Int.tmod (wrap64 (Int.tmod x 3 + 3)) 3) = 1 ∨ wrap64 (1 + Int.tmod (wrap64 (Int.tmod x 3 + 3)) 3) = 2 ∨ wrap64 (1 + Int.tmod (wrap64 (Int.tmod x 3 + 3)) 3) = 3 := by
 have h := tm3 x
 rw [w64 (x := Int.tmod x 3 + 3) (by omega) (by omega), Int.tmod_eq_emod_of_nonneg (a := Int.tmod x 3 + 3) (by omega), w64 (by omega) (by omega)]
 omega
theorem nn_range (x : Int) : 0 ≤ Int.tmod (wrap64 (Int.tmod x 7 + 7)) 7 ∧ Int.tmod (wrap64 (Int.tmod x 7 + 7)) 7 ≤ 6 := by
 have h := tm7 x
 rw [w64 (x := Int.tmod x 7 + 7) (by omega) (by omega), Int.tmod_eq_emod_of_nonneg (a := Int.tmod x 7 + 7) (by omega)]
 omega
theorem fit_small (s : ByteArray) (h : s.size ≤ 20) (k : Nat) (hk : 200 ≤ k) : ∃ l, epitomeref01_Fit.f k s = some (enc l) ∧ Runes l ∧ l.length = s.size := by
 have hl := epitomeref01_Fit.len s
 refine ⟨epitomeref01_Fit.l s, ?_, fit_rune s, by omega⟩
 unfold epitomeref01_Fit.f
 rw [if_pos (by omega), refOf _ (by omega) _ _ (by omega), filter_runes (fit_rune s)]
 intro x hx
 have := fit_rune s x hx
 unfold isRune at this; omega
theorem W_snoc {d : List S25} {x : S25} (hd : W d) (hx : okA x) : W (d ++ [x]) := W_app.2 ⟨hd, W_cons.2 ⟨hx, W_nil⟩⟩
theorem ats_snoc (d : List S25) (x : S25) : ats (d ++ [x]) = ats d ++ at1 x := by rw [ats_app, ats_cons, ats_nil, List.append_nil]
theorem fit_l (l : List S25) : ∀ (d i k n : Nat) (out : List S25), 12 - i = d → i ≤ 12 → W out → out.length ≤ 100 + i → n ≤ 1000000 → 300 + 2 * d ≤ k →
  ∃ r, epitomeref04_Fit.l0 k l (n : Int) out (i : Int) = some r ∧ W r ∧ ins (ats r) = ins (ats out) + n ∧ (ats r).length ≤ (ats out).length + n + 6 * d ∧ r.length ≤ out.length + d + 1 := by
 intro d
 induction d with
 | zero =>
  intro i k n out hd hi hw ho hn hk
  have ho' : out.length < 4398046511104 := by omega
  obtain ⟨k, rfl⟩ : ∃ j, k = j + 2 := ⟨k - 2, by omega⟩
  have fin : ∃ r, epitomeref04_Fit.j1 (k + 1) l (n : Int) out (i : Int) false = some r ∧ W r ∧ ins (ats r) = ins (ats out) + n ∧ (ats r).length ≤ (ats out).length + n + 6 * 0 ∧ r.length ≤ out.length + 0 + 1 := by
   rw [epitomeref04_Fit.j1, if_neg (by decide)]
   by_cases c : (n : Int) > 0
   ·rw [if_pos c, if_pos ho']
    refine ⟨_, rfl, W_snoc hw (okA_K n), ?_, ?_, by simp⟩
    ·rw [ats_snoc, ins_app, at1_K, ins_K]; simp
    ·rw [ats_snoc, List.length_append, at1_K, List.length_replicate, Int.toNat_natCast]; omega
   ·rw [if_neg c]
    exact ⟨_, rfl, hw, by omega, by omega, by omega⟩
  rw [epitomeref04_Fit.l0]
  split
  ·rw [show decide ((i : Int) < 12) = false from decide_eq_false (by omega)]; exact fin
  ·exact fin
 | succ d ih =>
  intro i k n out hd hi hw ho hn hk
  have ho' : out.length < 4398046511104 := by omega
  obtain ⟨k, rfl⟩ : ∃ j, k = j + 2 := ⟨k - 2, by omega⟩
  have fin : ∃ r, epitomeref04_Fit.j1 (k + 1) l (n : Int) out (i : Int) false = some r ∧ W r ∧ ins (ats r) = ins (ats out) + n ∧ (ats r).length ≤ (ats out).length + n + 6 * (d + 1) ∧ r.length ≤ out.length + (d + 1) + 1 := by
   rw [epitomeref04_Fit.j1, if_neg (by decide)]
   by_cases c : (n : Int) > 0
   ·rw [if_pos c, if_pos ho']
    refine ⟨_, rfl, W_snoc hw (okA_K n), ?_, ?_, by simp⟩
    ·rw [ats_snoc, ins_app, at1_K, ins_K]; simp
    ·rw [ats_snoc, List.length_append, at1_K, List.length_replicate, Int.toNat_natCast]; omega
   ·rw [if_neg c]
    exact ⟨_, rfl, hw, by omega, by omega, by omega⟩
  rw [epitomeref04_Fit.l0]
  split
  ·rename_i hlt
   rw [show decide ((i : Int) < 12) = true from decide_eq_true (by omega), epitomeref04_Fit.j1, if_pos rfl, if_pos (by omega), if_pos hlt]
   have hkd := kd_cases (rd_T25 l (i : Int)).f0
   have hnn := nn_range (rd_T25 l (i : Int)).f1
   obtain ⟨x, ex⟩ : ∃ x, x = rd_T25 l (i : Int) := ⟨_, rfl⟩
   rw [← ex] at hkd hnn ⊢
   obtain ⟨K, eK⟩ : ∃ K, K = wrap64 (1 + Int.tmod (wrap64 (Int.tmod x.f0 3 + 3)) 3) := ⟨_, rfl⟩
   obtain ⟨q, eq⟩ : ∃ q, q = Int.tmod (wrap64 (Int.tmod x.f1 7 + 7)) 7 := ⟨_, rfl⟩
   simp only [← eK, ← eq] at hkd hnn ⊢
   clear eK eq
   have ew : wrap64 ((i : Int) + 1) = ((i + 1 : Nat) : Int) := w64 (by omega) (by omega)
   rw [ew]
   clear ew
   by_cases c : K = 2
   ·subst c
    have m := mn_le (x.f2.size : Int) 6
    have h0 : 0 ≤ mn (x.f2.size : Int) 6 := by rcases m.2.2 with h | h <;> omega
    obtain ⟨t, et, ht, htl⟩ := fit_small (x.f2.extract 0 (mn (x.f2.size : Int) 6).toNat) (by rw [ByteArray.size_extract]; omega) k (by omega)
    have hle : t.length ≤ 6 := by rw [htl, ByteArray.size_extract]; omega
    rw [if_pos rfl, if_pos h0, if_pos m.1, et, Option.bind_some, if_pos ho']
    clear m h0 htl et hkd hnn ex
    obtain ⟨r, h1, h2, h3, h4, h5⟩ := ih (i + 1) k n (out ++ [⟨2, 0, enc t⟩]) (by omega) (by omega) (W_snoc hw (okA_I ht)) (by simp; omega) hn (by omega)
    rw [ats_snoc, at1_I 0 ht] at h3 h4
    rw [ins_app, ins_I] at h3
    rw [List.length_append, List.length_map] at h4
    rw [List.length_append, List.length_singleton] at h5
    exact ⟨r, h1, h2, by omega, by omega, by omega⟩
   ·rw [if_neg c, if_pos ho']
    have m := mn_le q (n : Int)
    have h0 : 0 ≤ mn q (n : Int) := by rcases m.2.2 with h | h <;> omega
    obtain ⟨p, hp⟩ : ∃ p : Nat, mn q (n : Int) = (p : Int) := ⟨(mn q (n : Int)).toNat, by omega⟩
    rw [hp] at m ⊢
    have m1 := m.1
    have m2 := m.2.1
    clear m h0 hp ex
    rw [show wrap64 ((n : Int) - (p : Int)) = ((n - p : Nat) : Int) by rw [w64 (by omega) (by omega)]; omega]
    rcases (show K = 1 ∨ K = 3 by omega) with rfl | rfl
    ·obtain ⟨r, h1, h2, h3, h4, h5⟩ := ih (i + 1) k (n - p) (out ++ [⟨1, (p : Int), ⟨#[]⟩⟩]) (by omega) (by omega) (W_snoc hw (okA_K p)) (by simp; omega) (by omega) (by omega)
     rw [ats_snoc, at1_K, Int.toNat_natCast] at h3 h4
     rw [ins_app, ins_K] at h3
     rw [List.length_append, List.length_replicate] at h4
     rw [List.length_append, List.length_singleton] at h5
     exact ⟨r, h1, h2, by omega, by omega, by omega⟩
    ·obtain ⟨r, h1, h2, h3, h4, h5⟩ := ih (i + 1) k (n - p) (out ++ [⟨3, (p : Int), ⟨#[]⟩⟩]) (by omega) (by omega) (W_snoc hw (okA_D p)) (by simp; omega) (by omega) (by omega)
     rw [ats_snoc, at1_D, Int.toNat_natCast] at h3 h4
     rw [ins_app, ins_D] at h3
     rw [List.length_append, List.length_replicate] at h4
     rw [List.length_append, List.length_singleton] at h5
     exact ⟨r, h1, h2, by omega, by omega, by omega⟩
  ·exact fin
theorem fit_A (l : List S25) (n : Nat) (hn : n ≤ 1000000) (k : Nat) (hk : 400 ≤ k) : ∃ r, epitomeref04_Fit.f k l (n : Int) = some r ∧ W r ∧ ins (ats r) = n ∧ (ats r).length ≤ n + 72 ∧ r.length ≤ 13 := by
 obtain ⟨r, h1, h2, h3, h4, h5⟩ := fit_l l 12 0 k n [] rfl (by decide) W_nil (by simp) hn (by omega)
 rw [ats_nil, ins_nil] at h3
 rw [ats_nil] at h4
 exact ⟨r, h1, h2, by omega, by simpa using h4, by simpa using h5⟩
theorem rd_at (l : List S25) (i : Nat) (h : i < l.length) : rd_T25 l (i : Int) = l[i] := by
 unfold rd_T25; rw [Int.toNat_natCast, List.getD_eq_getElem?_getD, List.getElem?_eq_getElem h]; rfl
theorem rdL_at (l : List (List S25)) (i : Nat) (h : i < l.length) : rd_L3 l (i : Int) = l[i] := by
 unfold rd_L3; rw [Int.toNat_natCast, List.getD_eq_getElem?_getD, List.getElem?_eq_getElem h]; rfl
def ch : Nat → List (List S25) → Prop
 | _, [] => True
 | n, x :: l => W x ∧ ins (ats x) = n ∧ ch (outs (ats x)) l
def tot (l : List (List S25)) : Nat := (l.map fun x => (ats x).length).sum
def sz : Nat → List (List S25) → Nat → Nat
 | n, _, 0 => n
 | n, [], _ + 1 => n
 | _, x :: l, a + 1 => sz (outs (ats x)) l a
theorem ch_snoc {x : List S25} : ∀ {l : List (List S25)} {n : Nat}, ch n l → W x → ins (ats x) = sz n l l.length → ch n (l ++ [x])
 | [], n, _, hx, he => ⟨hx, he, trivial⟩
 | y :: l, n, ⟨h1, h2, h3⟩, hx, he => ⟨h1, h2, ch_snoc h3 hx he⟩
theorem tot_snoc (l : List (List S25)) (x : List S25) : tot (l ++ [x]) = tot l + (ats x).length := by simp [tot]
theorem tot_cons (l : List (List S25)) (x : List S25) : tot (x :: l) = (ats x).length + tot l := by simp [tot]
def hs (n : Nat) (l : List (List S25)) : Prop := ch n l ∧ ∀ x ∈ l, Alt x
theorem keep_op (n : Nat) (hn : n ≤ 1000000) : ∃ r, (∀ k, 2 ≤ k → op_Keep.f k (n : Int) = some (r, 0)) ∧ W r ∧ Alt r ∧ ats r = List.replicate n At.K ∧ r.length ≤ 1 := by
 have e : ∀ k, op_Keep.f (k + 1) (n : Int) = if (n : Int) = 0 then some ([], 0) else some ([⟨1, (n : Int), ⟨#[]⟩⟩], 0) := by
  intro k
  unfold op_Keep.f
  rw [if_neg (by omega), decide_eq_false (by omega), op_Keep.j0, if_neg (by decide)]
 cases n with
 | zero => exact ⟨[], fun k hk => by obtain ⟨k, rfl⟩ : ∃ j, k = j + 1 := ⟨k - 1, by omega⟩; rw [e, if_pos (show ((0 : Nat) : Int) = 0 from rfl)], W_nil, trivial, rfl, by simp⟩
 | succ n =>
  refine ⟨[⟨1, ((n + 1 : Nat) : Int), ⟨#[]⟩⟩], fun k hk => by obtain ⟨k, rfl⟩ : ∃ j, k = j + 1 := ⟨k - 1, by omega⟩; rw [e, if_neg (by omega)], W_cons.2 ⟨okA_K _, W_nil⟩, ⟨?_, fun y l' h => (by cases h), trivial⟩, ?_, by simp⟩
  ·unfold ne; rw [at1_K, Int.toNat_natCast, List.replicate_succ]; exact fun h => by cases h
  ·rw [ats_cons, at1_K, Int.toNat_natCast, ats_nil, List.append_nil]
theorem ch_drop : ∀ {l : List (List S25)} {n : Nat}, ch n l → ∀ a, a ≤ l.length → ch (sz n l a) (l.drop a)
 | [], n, _, a, ha => by
  obtain rfl : a = 0 := by simpa using ha
  exact trivial
 | x :: l, n, h, 0, _ => h
 | x :: l, n, ⟨_, _, h⟩, a + 1, ha => ch_drop h a (by simpa using ha)
theorem ch_take : ∀ {l : List (List S25)} {n : Nat}, ch n l → ∀ a, ch n (l.take a)
 | [], n, _, a => by rw [List.take_nil]; trivial
 | x :: l, n, h, 0 => trivial
 | x :: l, n, ⟨h1, h2, h⟩, a + 1 => ⟨h1, h2, ch_take h a⟩
theorem tot_take : ∀ (l : List (List S25)) (a : Nat), tot (l.take a) ≤ tot l
 | [], a => by rw [List.take_nil]; exact Nat.le_refl _
 | x :: l, 0 => Nat.zero_le _
 | x :: l, a + 1 => by have := tot_take l a; rw [List.take_succ_cons, tot_cons, tot_cons]; omega
theorem sz_take : ∀ (l : List (List S25)) (n a t : Nat), a ≤ t → t ≤ l.length → sz n (l.take t) a = sz n l a
 | _, _, 0, _, _, _ => by unfold sz; rfl
 | [], n, a + 1, t, h1, h2 => by simp at h2; omega
 | x :: l, n, a + 1, 0, h1, _ => by omega
 | x :: l, n, a + 1, t + 1, h1, h2 => sz_take l _ a t (by omega) (by simpa using h2)
theorem alt_get : ∀ {l : List S25}, Alt l → ∀ (i : Nat) (h : i + 1 < l.length), (l[i]'(by omega)).f0 ≠ l[i + 1].f0
 | [], _, _, h => by simp at h
 | [x], _, i, h => by simp at h
 | x :: y :: l, ⟨_, h2, _⟩, 0, _ => h2 y l rfl
 | x :: y :: l, ⟨_, _, h3⟩, i + 1, h => by
  have := alt_get h3 i (by simpa using h)
  simpa using this
theorem is_A {l : List S25} (hw : W l) (ha : Alt l) (hl : l.length ≤ 1000000) (k : Nat) (hk : l.length + 1 ≤ k) : normal_Is.f k l = some true := by
 have go : ∀ (d i k : Nat), l.length - i = d → i ≤ l.length → d + 1 ≤ k → normal_Is.l0 k l l (l.length : Int) (i : Int) = some true := by
  intro d
  induction d with
  | zero =>
   intro i k hd hi hk
   obtain ⟨k, rfl⟩ : ∃ j, k = j + 1 := ⟨k - 1, by omega⟩
   rw [normal_Is.l0, if_neg (by omega)]
  | succ d ih =>
   intro i k hd hi hk
   obtain ⟨k, rfl⟩ : ∃ j, k = j + 1 := ⟨k - 1, by omega⟩
   have hm : l[i] ∈ l := List.getElem_mem _
   have hne := alt_ne ha _ hm
   have he : normal_empty.f l[i].f0 l[i].f1 l[i].f2 = some false := by
    have : normal_Of.e l[i] = false := by
     cases c : normal_Of.e l[i] with
     | false => rfl
     | true => exact absurd ((e_iff (hw _ hm)).1 c) hne
    unfold normal_Of.e at this
    unfold normal_empty.f
    by_cases c : l[i].f1 = 0
    ·rw [if_pos c]; rw [decide_eq_true c, Bool.true_and] at this; rw [this]
    ·rw [if_neg c]
   have next := ih (i + 1) k (by omega) (by omega) (by omega)
   rw [normal_Is.l0, if_pos (by omega), if_pos (by omega), if_pos (by omega), rd_at l i (by omega), he, Option.bind_some, if_neg (by decide), w64 (x := (i : Int) + 1) (by omega) (by omega), show (i : Int) + 1 = ((i + 1 : Nat) : Int) by omega]
   by_cases c : 0 < i
   ·have e1 : Aside0 (wrap64 ((i : Int) - 1) = ((i - 1 : Nat) : Int)) := ⟨by rw [w64 (by omega) (by omega)]; omega⟩
    have hg := alt_get ha (i - 1) (by omega)
    have e2 : l[i - 1 + 1]'(by omega) = l[i] := by congr 1; omega
    rw [e2] at hg
    rw [if_pos (by omega), e1.out, if_pos (by omega), if_pos (by omega), rd_at l (i - 1) (by omega), if_neg (fun e => hg e.symm)]
    exact next
   ·rw [if_neg (by omega)]
    exact next
 exact go l.length 0 k rfl (Nat.zero_le _) hk
def szs (l : List (List S25)) : List Int := l.map fun x => (outs (ats x) : Int)
theorem rd_cons (x : Int) (l : List Int) (i : Nat) : rd (x :: l) ((i + 1 : Nat) : Int) = rd l (i : Int) := by unfold rd; rw [Int.toNat_natCast, Int.toNat_natCast]; rfl
theorem rd_sz : ∀ (l : List (List S25)) (n a : Nat), a ≤ l.length → rd ((n : Int) :: szs l) (a : Int) = (sz n l a : Int)
 | l, n, 0, _ => by unfold sz; rfl
 | [], n, a + 1, h => by simp at h
 | x :: l, n, a + 1, h => by
  rw [rd_cons]
  exact rd_sz l _ a (by simpa using h)
theorem sizes_l (k : Nat) (hk : 1000005 ≤ k) : ∀ (l : List (List S25)) (n : Nat) (out : List Int), ch n l → (∀ x ∈ l, Alt x) → tot l ≤ 400000 → chain_sizes.l k (n : Int) l out = some (out ++ szs l)
 | [], n, out, _, _, _ => by rw [chain_sizes.l]; simp [szs]
 | x :: l, n, out, ⟨h1, h2, h3⟩, hn, ht => by
  rw [tot_cons] at ht
  have hx := hn x (by simp)
  have lx := alt_len hx
  have ol := outs_le (ats x)
  rw [chain_sizes.l, may_A h1 (by omega) (by omega) k (by omega), Option.bind_some, if_pos rfl, in_A h1 (by omega) (by omega), Option.bind_some, if_pos (by omega), out_A h1 (by omega) (by omega), Option.bind_some, if_pos (by omega), is_A h1 hx (by omega) k (by omega), Option.bind_some, if_pos rfl,
   sizes_l k hk l _ _ h3 (fun y hy => hn y (by simp [hy])) (by omega), List.append_assoc]
  rfl
def rise (R : List Int) : Prop := R.Pairwise (· < ·) ∧ ∀ x ∈ R, 0 ≤ x ∧ x ≤ 268435455
theorem putRow_l : ∀ (l : List Int) (was : Int) (out : List Int), l.Pairwise (· < ·) → (∀ x ∈ l, was < x ∧ x ≤ 268435455) → (snap_PutRow.l was out l).2 = 0
 | [], _, _, _, _ => rfl
 | x :: l, was, out, hp, h => by
  obtain ⟨p1, p2⟩ := List.pairwise_cons.1 hp
  have hx := h x (by simp)
  rw [snap_PutRow.l, if_neg (by omega)]
  exact putRow_l l x _ p2 fun y hy => ⟨p1 y hy, (h y (by simp [hy])).2⟩
theorem putRow_A {R : List Int} (h : rise R) (h0 : R ≠ []) (hl : R.length ≤ 65536) : ∃ r, snap_PutRow.f R = some (r, 0) := by
 have e : R.length ≠ 0 := fun e => h0 (List.length_eq_zero_iff.1 e)
 refine ⟨(snap_PutRow.l (-1) (number_Put.l 3 R.length []) R).1, ?_⟩
 unfold snap_PutRow.f
 rw [if_neg (by omega)]
 have := putRow_l R (-1) (number_Put.l 3 R.length []) h.1 fun x hx => by have := h.2 x hx; omega
 rw [← this]
structure LogOk (b : List Int) (R : List Int) (segs : List (List S25)) : Prop where
 rb : Runes b
 hs : hs b.length segs
 ri : rise R
 ln : R.length = segs.length + 1
 tt : b.length + tot segs ≤ 400000
 sl : segs.length ≤ 60000
theorem sizes_A {b R : List Int} {segs : List (List S25)} (h : LogOk b R segs) (k : Nat) (hk : 1000005 ≤ k) : chain_sizes.f k (enc b) R segs = some ((b.length : Int) :: szs segs, 0) := by
 have := h.tt
 have := h.sl
 have := h.ln
 have := enc_sz (t := b) (by omega)
 obtain ⟨r, hr⟩ := putRow_A h.ri (fun e => by have := h.ln; rw [e] at this; simp at this) (by omega)
 unfold chain_sizes.f
 rw [if_pos (by omega), count_big h.rb (by omega), Option.bind_some, if_pos (by omega), hr, Option.bind_some, if_pos ⟨rfl, h.ln⟩, sizes_l k hk segs _ _ h.hs.1 h.hs.2 (by omega)]
 rfl
def app : List At → List Int → List Int
 | .I c :: l, t => c :: app l t
 | .K :: l, c :: t => c :: app l t
 | .D :: l, _ :: t => app l t
 | _, _ => []
theorem app_I (t s : List Int) (l : List At) : app (t.map At.I ++ l) s = t ++ app l s := by
 induction t with
 | nil => rfl
 | cons c t ih => rw [List.map_cons, List.cons_append, app, ih]; rfl
theorem app_K (l : List At) : ∀ (n : Nat) (s : List Int), n ≤ s.length → app (List.replicate n At.K ++ l) s = s.take n ++ app l (s.drop n)
 | 0, s, _ => by simp
 | n + 1, [], h => by simp at h
 | n + 1, c :: s, h => by rw [List.replicate_succ, List.cons_append, app, app_K l n s (by simpa using h)]; rfl
theorem app_D (l : List At) : ∀ (n : Nat) (s : List Int), n ≤ s.length → app (List.replicate n At.D ++ l) s = app l (s.drop n)
 | 0, s, _ => by simp
 | n + 1, [], h => by simp at h
 | n + 1, c :: s, h => by rw [List.replicate_succ, List.cons_append, app, app_D l n s (by simpa using h)]; rfl
theorem app_len : ∀ (l : List At) (s : List Int), ins l = s.length → (app l s).length = outs l
 | [], s, _ => by rw [app]; rfl; all_goals (intros; simp_all)
 | .I c :: l, s, h => by rw [app, List.length_cons, outs_cons, app_len l s (by rw [ins_cons] at h; simpa [At.i] using h)]; simp [At.o]; omega
 | .K :: l, [], h => by rw [ins_cons] at h; simp [At.i] at h
 | .K :: l, c :: s, h => by rw [app, List.length_cons, outs_cons, app_len l s (by rw [ins_cons, List.length_cons] at h; simp only [At.i] at h; omega)]; simp [At.o]; omega
 | .D :: l, [], h => by rw [ins_cons] at h; simp [At.i] at h
 | .D :: l, c :: s, h => by rw [app, outs_cons, app_len l s (by rw [ins_cons, List.length_cons] at h; simp only [At.i] at h; omega)]; simp [At.o]
theorem to_l : ∀ (a : List S25) (rest out : List Int), W a → ins (ats a) = rest.length → Runes rest → Runes out → out.length + rest.length + (ats a).length ≤ 900000 → apply_To.l a rest out = some (out ++ app (ats a) rest) ∧ Runes (out ++ app (ats a) rest)
 | [], rest, out, _, h, _, ho, _ => by
  obtain rfl : rest = [] := List.length_eq_zero_iff.1 h.symm
  rw [apply_To.l, ats_nil, show app [] [] = [] from by rw [app]; all_goals (intros; simp_all)]
  simpa using ho
 | x :: a, rest, out, hw, h, hr, ho, hb => by
  obtain ⟨w1, w2⟩ := W_cons.1 hw
  rw [ats_cons, ins_app] at h
  rw [ats_cons, List.length_append] at hb
  rcases okA_cases w1 with ⟨n, rfl⟩ | ⟨n, rfl⟩ | ⟨t, ht, rfl⟩
  ·rw [at1_K, Int.toNat_natCast, List.length_replicate] at hb
   rw [at1_K, Int.toNat_natCast, ins_K] at h
   obtain ⟨i1, i2⟩ := to_l a (rest.drop n) (out ++ rest.take n) w2 (by rw [List.length_drop]; omega) (hr.drop n) (ho.append (hr.take n)) (by rw [List.length_append, List.length_take, List.length_drop]; omega)
   rw [apply_To.l, ats_cons, at1_K, Int.toNat_natCast, app_K _ n rest (by omega), ← List.append_assoc]
   simp only [emp_size, Int.toNat_natCast]
   rw [if_pos (by omega), if_neg (by decide), if_pos trivial]
   exact ⟨i1, i2⟩
  ·rw [at1_D, Int.toNat_natCast, List.length_replicate] at hb
   rw [at1_D, Int.toNat_natCast, ins_D] at h
   obtain ⟨i1, i2⟩ := to_l a (rest.drop n) out w2 (by rw [List.length_drop]; omega) (hr.drop n) ho (by rw [List.length_drop]; omega)
   rw [apply_To.l, ats_cons, at1_D, Int.toNat_natCast, app_D _ n rest (by omega)]
   simp only [emp_size, Int.toNat_natCast]
   rw [if_pos (by omega), if_neg (by decide), if_neg (by decide)]
   exact ⟨i1, i2⟩
  ·rw [at1_I 0 ht, List.length_map] at hb
   rw [at1_I 0 ht, ins_I] at h
   have hz := enc_sz (t := t) (by omega)
   obtain ⟨i1, i2⟩ := to_l a rest (out ++ t) w2 (by omega) hr (ho.append ht) (by rw [List.length_append]; omega)
   rw [apply_To.l, ats_cons, at1_I 0 ht, app_I, ← List.append_assoc]
   simp only [Int.toNat_zero, List.drop_zero]
   rw [if_pos (by omega), if_pos trivial, runes_enc ht]
   exact ⟨i1, i2⟩
theorem to_A {a : List S25} {s : List Int} (hw : W a) (hl : a.length ≤ 400000) (hi : ins (ats a) = s.length) (hr : Runes s) (hb : s.length + (ats a).length ≤ 900000) (k : Nat) (hk : 1000005 ≤ k) : apply_To.f k a (enc s) = some (enc (app (ats a) s), 0) ∧ Runes (app (ats a) s) := by
 obtain ⟨h1, h2⟩ := to_l a s [] hw hi hr (fun _ h => by cases h) (by simpa using hb)
 rw [List.nil_append] at h1 h2
 have hz := enc_sz (t := s) (by omega)
 refine ⟨?_, h2⟩
 unfold apply_To.f
 rw [may_A hw (by omega) (by omega) k (by omega), Option.bind_some, if_pos rfl, count_big hr (by omega), Option.bind_some, if_neg (by omega), in_A hw (by omega) (by omega), Option.bind_some, if_pos (by omega), if_pos (by omega), runes_enc hr, h1, Option.bind_some, runesBytes_enc h2]
def txs (s : List Int) (l : List (List S25)) : List Int := l.foldl (fun t x => app (ats x) t) s
theorem all_A {s : List Int} {l : List (List S25)} (h : hs s.length l) (hr : Runes s) (ht : s.length + tot l ≤ 400000) (hl : l.length ≤ 60000) (k : Nat) (hk : 1100010 ≤ k) : apply_All.f k (enc s) l = some (enc (txs s l), 0) ∧ Runes (txs s l) := by
 have go : ∀ (d i k : Nat) (t : List Int), l.length - i = d → i ≤ l.length → 1000005 + d ≤ k → ch t.length (l.drop i) → Runes t → t.length + tot (l.drop i) ≤ 400000 → apply_All.l0 k (enc t) l (l.length : Int) (i : Int) = some (enc (txs t (l.drop i)), 0) ∧ Runes (txs t (l.drop i)) := by
  intro d
  induction d with
  | zero =>
   intro i k t hd hi hk hc hrt ht
   obtain ⟨k, rfl⟩ : ∃ j, k = j + 1 := ⟨k - 1, by omega⟩
   rw [apply_All.l0, if_neg (by omega), List.drop_of_length_le (by omega)]
   exact ⟨rfl, hrt⟩
  | succ d ih =>
   intro i k t hd hi hk hc hrt ht
   obtain ⟨k, rfl⟩ : ∃ j, k = j + 1 := ⟨k - 1, by omega⟩
   have hm : l[i] ∈ l := List.getElem_mem _
   rw [List.drop_eq_getElem_cons (show i < l.length by omega)] at hc ht ⊢
   obtain ⟨c1, c2, c3⟩ := hc
   rw [tot_cons] at ht
   have la := alt_len (h.2 _ hm)
   obtain ⟨a1, a2⟩ := to_A c1 (by omega) c2 hrt (by omega) k (by omega)
   have al := app_len (ats l[i]) t c2
   have ol := outs_le (ats l[i])
   obtain ⟨i1, i2⟩ := ih (i + 1) k (app (ats l[i]) t) (by omega) (by omega) (by omega) (by rw [al]; exact c3) a2 (by omega)
   rw [apply_All.l0, if_pos (by omega), if_pos (by omega), if_pos (by omega), rdL_at l i (by omega), a1, Option.bind_some, if_pos rfl, w64 (by omega) (by omega), show (i : Int) + 1 = ((i + 1 : Nat) : Int) by omega]
   exact ⟨i1, i2⟩
 obtain ⟨k, rfl⟩ : ∃ j, k = j + 1 := ⟨k - 1, by omega⟩
 obtain ⟨g1, g2⟩ := go l.length 0 k s rfl (Nat.zero_le _) (by omega) h.1 hr ht
 have hz := enc_sz (t := s) (by omega)
 rw [List.drop_zero] at g1 g2
 refine ⟨?_, g2⟩
 have e : apply_All.j0 (k + 1) (enc s) l false = some (enc (txs s l), 0) := by rw [apply_All.j0, if_neg (by decide)]; exact g1
 unfold apply_All.f
 split
 ·rw [valid_big hr (by omega), Option.bind_some]; exact e
 ·exact e
theorem at_A {b R : List Int} {segs : List (List S25)} (h : LogOk b R segs) (i : Nat) (hi : i ≤ segs.length) (k : Nat) (hk : 1100010 ≤ k) : chain_At.f k (enc b) R segs (i : Int) = some (enc (txs b (segs.take i)), 0) ∧ Runes (txs b (segs.take i)) := by
 have := h.tt
 have := h.sl
 have := tot_take segs i
 obtain ⟨a1, a2⟩ := all_A (s := b) (l := segs.take i) ⟨ch_take h.hs.1 i, fun x hx => h.hs.2 x (List.mem_of_mem_take hx)⟩ h.rb (by omega) (by rw [List.length_take]; omega) k hk
 refine ⟨?_, a2⟩
 unfold chain_At.f chain_May.f
 rw [sizes_A h k (by omega), Option.bind_some, Option.bind_some, if_pos rfl, if_neg (by omega), if_neg (by omega), if_pos (by omega), if_pos (by omega), Int.toNat_natCast, a1]
 rfl
theorem rdI_at (l : List Int) (i : Nat) (h : i < l.length) : rd l (i : Int) = l[i] := by
 unfold rd; rw [Int.toNat_natCast, List.getD_eq_getElem?_getD, List.getElem?_eq_getElem h]; rfl
theorem rise_lt {R : List Int} (h : rise R) {i j : Nat} (hi : i < R.length) (hj : j < R.length) : R[i] < R[j] ↔ i < j := by
 constructor
 ·intro hlt
  by_cases c : i < j
  ·exact c
  ·rcases (by omega : i = j ∨ j < i) with rfl | c
   ·omega
   ·have := List.pairwise_iff_getElem.1 h.1 j i hj hi c; omega
 ·exact fun hlt => List.pairwise_iff_getElem.1 h.1 i j hi hj hlt
theorem same_A (l : List S25) (hl : l.length ≤ 1000000) (k : Nat) (hk : l.length + 1 ≤ k) : epitomeref04_Same.f k l l = some true := by
 have go : ∀ (d i k : Nat), l.length - i = d → i ≤ l.length → d + 1 ≤ k → epitomeref04_Same.l0 k l l (i : Int) = some true := by
  intro d
  induction d with
  | zero =>
   intro i k hd hi hk
   obtain ⟨k, rfl⟩ : ∃ j, k = j + 1 := ⟨k - 1, by omega⟩
   rw [epitomeref04_Same.l0, if_neg (by omega)]
  | succ d ih =>
   intro i k hd hi hk
   obtain ⟨k, rfl⟩ : ∃ j, k = j + 1 := ⟨k - 1, by omega⟩
   rw [epitomeref04_Same.l0, if_pos (by omega), if_pos (by omega), if_pos (by omega), if_neg (by simp), w64 (by omega) (by omega), show (i : Int) + 1 = ((i + 1 : Nat) : Int) by omega]
   exact ih (i + 1) k (by omega) (by omega) (by omega)
 unfold epitomeref04_Same.f
 rw [if_pos rfl]
 exact go l.length 0 k rfl (Nat.zero_le _) hk
def ovr (a s : List At) : List At :=
 match a, s with
 | a, .I c :: s => .K :: ovr a s
 | .I c :: a, s => .I c :: ovr a s
 | .K :: a, .K :: s => .K :: ovr a s
 | .D :: a, .K :: s => .D :: ovr a s
 | .K :: a, .D :: s => ovr a s
 | .D :: a, .D :: s => ovr a s
 | _, _ => []
termination_by a.length + s.length
theorem ovr_I (a s : List At) (c : Int) : ovr a (.I c :: s) = .K :: ovr a s := by rw [ovr]
theorem ovr_aI (a s : List At) (c : Int) (h : noI s) : ovr (.I c :: a) s = .I c :: ovr a s := by rw [ovr]; exact fun c l e => h c l e
theorem ovr_KK (a s : List At) : ovr (.K :: a) (.K :: s) = .K :: ovr a s := by rw [ovr]
theorem ovr_DK (a s : List At) : ovr (.D :: a) (.K :: s) = .D :: ovr a s := by rw [ovr]
theorem ovr_KD (a s : List At) : ovr (.K :: a) (.D :: s) = ovr a s := by rw [ovr]
theorem ovr_DD (a s : List At) : ovr (.D :: a) (.D :: s) = ovr a s := by rw [ovr]
theorem ovr_nil : ovr [] [] = [] := by rw [ovr] <;> (intros; simp_all)
theorem ovr_rI (a s : List At) : ∀ t : List Int, ovr a (t.map At.I ++ s) = List.replicate t.length At.K ++ ovr a s
 | [] => rfl
 | c :: t => by rw [List.map_cons, List.cons_append, ovr_I, ovr_rI a s t, List.length_cons, List.replicate_succ]; rfl
theorem ovr_ra (a s : List At) (h : noI s) : ∀ t : List Int, ovr (t.map At.I ++ a) s = t.map At.I ++ ovr a s
 | [] => rfl
 | c :: t => by rw [List.map_cons, List.cons_append, ovr_aI _ _ _ h, ovr_ra a s h t]; rfl
theorem ovr_rKK (a s : List At) : ∀ n : Nat, ovr (List.replicate n At.K ++ a) (List.replicate n At.K ++ s) = List.replicate n At.K ++ ovr a s
 | 0 => rfl
 | n + 1 => by rw [List.replicate_succ, List.cons_append, List.cons_append, ovr_KK, ovr_rKK a s n]; rfl
theorem ovr_rDK (a s : List At) : ∀ n : Nat, ovr (List.replicate n At.D ++ a) (List.replicate n At.K ++ s) = List.replicate n At.D ++ ovr a s
 | 0 => rfl
 | n + 1 => by rw [List.replicate_succ, List.replicate_succ, List.cons_append, List.cons_append, ovr_DK, ovr_rDK a s n]; rfl
theorem ovr_rKD (a s : List At) : ∀ n : Nat, ovr (List.replicate n At.K ++ a) (List.replicate n At.D ++ s) = ovr a s
 | 0 => rfl
 | n + 1 => by rw [List.replicate_succ, List.replicate_succ, List.cons_append, List.cons_append, ovr_KD, ovr_rKD a s n]
theorem ovr_rDD (a s : List At) : ∀ n : Nat, ovr (List.replicate n At.D ++ a) (List.replicate n At.D ++ s) = ovr a s
 | 0 => rfl
 | n + 1 => by rw [List.replicate_succ, List.cons_append, List.cons_append, ovr_DD, ovr_rDD a s n]
theorem noI_or (l : List At) : noI l ∨ ∃ c l', l = .I c :: l' := by
 cases l with
 | nil => exact .inl fun c l' e => by cases e
 | cons x l =>
  cases x with
  | K => exact .inl fun c l' e => by cases e
  | D => exact .inl fun c l' e => by cases e
  | I c => exact .inr ⟨c, l, rfl⟩
theorem ovr_len : ∀ (n : Nat) (a s : List At), a.length + s.length ≤ n → ins a = ins s → ins (ovr a s) = outs s ∧ (ovr a s).length ≤ a.length + s.length ∧ outs (ovr a s) ≤ outs a + outs s
 | 0, a, s, h, _ => by
  obtain rfl : a = [] := List.length_eq_zero_iff.1 (by omega)
  obtain rfl : s = [] := List.length_eq_zero_iff.1 (by omega)
  rw [ovr_nil]; simp [ins, outs]
 | n + 1, a, s, h, hio => by
  rcases noI_or s with c | ⟨c, s', rfl⟩
  ·cases a with
   | nil =>
    cases s with
    | nil => rw [ovr_nil]; simp [ins, outs]
    | cons y s =>
     exfalso
     rw [ins_nil, ins_cons] at hio
     cases y with
     | K => simp only [At.i] at hio; omega
     | D => simp only [At.i] at hio; omega
     | I c' => exact c c' s rfl
   | cons x a =>
    rw [List.length_cons] at h
    cases x with
    | I c' =>
     obtain ⟨h1, h2, h3⟩ := ovr_len n a s (by omega) (by rw [ins_cons] at hio; simpa [At.i] using hio)
     rw [ovr_aI _ _ _ c, ins_cons, outs_cons, outs_cons, h1, List.length_cons, List.length_cons]
     simp only [At.i, At.o, true_and]; omega
    | K =>
     cases s with
     | nil => exfalso; rw [ins_cons, ins_nil] at hio; simp only [At.i] at hio; omega
     | cons y s =>
      rw [List.length_cons] at h
      rw [ins_cons, ins_cons] at hio
      cases y with
      | K =>
       obtain ⟨h1, h2, h3⟩ := ovr_len n a s (by omega) (by simpa [At.i] using hio)
       rw [ovr_KK, ins_cons, outs_cons, outs_cons, outs_cons, h1, List.length_cons, List.length_cons, List.length_cons]
       simp only [At.i, At.o, true_and]; omega
      | D =>
       obtain ⟨h1, h2, h3⟩ := ovr_len n a s (by omega) (by simpa [At.i] using hio)
       rw [ovr_KD, outs_cons, outs_cons, h1, List.length_cons, List.length_cons]
       simp only [At.o]; omega
      | I c' => exact absurd rfl (c c' s)
    | D =>
     cases s with
     | nil => exfalso; rw [ins_cons, ins_nil] at hio; simp only [At.i] at hio; omega
     | cons y s =>
      rw [List.length_cons] at h
      rw [ins_cons, ins_cons] at hio
      cases y with
      | K =>
       obtain ⟨h1, h2, h3⟩ := ovr_len n a s (by omega) (by simpa [At.i] using hio)
       rw [ovr_DK, ins_cons, outs_cons, outs_cons, outs_cons, h1, List.length_cons, List.length_cons, List.length_cons]
       simp only [At.i, At.o, true_and]; omega
      | D =>
       obtain ⟨h1, h2, h3⟩ := ovr_len n a s (by omega) (by simpa [At.i] using hio)
       rw [ovr_DD, outs_cons, outs_cons, h1, List.length_cons, List.length_cons]
       simp only [At.o]; omega
      | I c' => exact absurd rfl (c c' s)
  ·rw [List.length_cons] at h
   rw [ins_cons] at hio
   obtain ⟨h1, h2, h3⟩ := ovr_len n a s' (by omega) (by simpa [At.i] using hio)
   rw [ovr_I, ins_cons, outs_cons, outs_cons, h1, List.length_cons, List.length_cons]
   simp only [At.i, At.o, true_and]; omega
theorem restN_A {f : Int} {n m : Nat} {l : List S25} (hf : f = 1 ∨ f = 3) (hm : m ≤ n) (h : W l) (hn : ∀ y ∈ l, ne y) : W (restN f (n : Int) (m : Int) ⟨#[]⟩ l) ∧ (∀ y ∈ restN f (n : Int) (m : Int) ⟨#[]⟩ l, ne y) ∧ ats (restN f (n : Int) (m : Int) ⟨#[]⟩ l) = List.replicate (n - m) (atk f) ++ ats l ∧ (restN f (n : Int) (m : Int) ⟨#[]⟩ l).length ≤ l.length + 1 ∧ (n = m → (restN f (n : Int) (m : Int) ⟨#[]⟩ l).length = l.length) := by
 by_cases c : n = m
 ·subst c
  rw [restN_eq']
  exact ⟨h, hn, by rw [Nat.sub_self]; rfl, by omega, fun _ => rfl⟩
 ·rw [restN_ne' (by omega)]
  have e : (n : Int) - (m : Int) = ((n - m : Nat) : Int) := by omega
  rw [e]
  have ok : okA ⟨f, ((n - m : Nat) : Int), ⟨#[]⟩⟩ := by rcases hf with rfl | rfl; exact okA_K _; exact okA_D _
  have ea : at1 ⟨f, ((n - m : Nat) : Int), ⟨#[]⟩⟩ = List.replicate (n - m) (atk f) := by rcases hf with rfl | rfl <;> rfl
  refine ⟨W_cons.2 ⟨ok, h⟩, fun y hy => ?_, by rw [ats_cons, ea], by simp, fun e => absurd e c⟩
  rcases List.mem_cons.1 hy with rfl | hy
  ·unfold ne
   rw [ea]
   intro e
   have := congrArg List.length e
   simp at this
   omega
  ·exact hn y hy
theorem ol_put' (k : Nat) (a s : List S25) (t : List Int) (out : List S25) (ht : Runes t) (hs : t.length ≤ 1000000) (ho : out.length < 1000000000) :
  over_Of.l (k + 1) a (⟨2, 0, enc t⟩ :: s) out = over_Of.l k a s (out ++ [sK t.length]) := by
 have e : span_Out.f 2 0 (enc t) = some (t.length : Int) := by
  have := out_1 (x := ⟨2, 0, enc t⟩) (okA_I ht) (by rw [at1_I 0 ht, List.length_map]; exact hs)
  rw [at1_I 0 ht, outs_I] at this
  exact this
 rw [over_Of.l, if_pos ho]
 cases a with
 | nil => rw [over_Of.st, if_pos rfl, e, Option.bind_some]
 | cons x a => rw [over_Of.st, if_pos rfl, e, Option.bind_some]
theorem over_l : ∀ (m : Nat) (a s out : List S25), W a → (∀ y ∈ a, ne y) → W s → (∀ y ∈ s, ne y) → a.length + s.length ≤ m → (ats a).length ≤ 1000000 → (ats s).length ≤ 1000000 → out.length + m ≤ 100000000 → ins (ats a) = ins (ats s) →
  ∃ r, (∀ k, m + 1 ≤ k → over_Of.l k a s out = some (out ++ r)) ∧ W r ∧ ats r = ovr (ats a) (ats s) ∧ r.length ≤ a.length + s.length := by
 intro m
 induction m with
 | zero =>
  intro a s out _ _ _ _ hm _ _ ho _
  obtain rfl : a = [] := List.length_eq_zero_iff.1 (by omega)
  obtain rfl : s = [] := List.length_eq_zero_iff.1 (by omega)
  refine ⟨[], fun k hk => ?_, W_nil, ovr_nil.symm, by simp⟩
  obtain ⟨k, rfl⟩ : ∃ j, k = j + 1 := ⟨k - 1, by omega⟩
  rw [ol_end k out (by omega), List.append_nil]
 | succ m ih =>
  intro a s out wa na ws ns hm ba bs ho hio
  have aput : ∀ (t : List Int) (a' : List S25) (_ : a = ⟨2, 0, enc t⟩ :: a') (_ : Runes t) (_ : noI (ats s)) (_ : ∀ k, over_Of.l (k + 1) a s out = over_Of.l k a' s (out ++ [⟨2, 0, enc t⟩])),
    ∃ r, (∀ k, m + 1 + 1 ≤ k → over_Of.l k a s out = some (out ++ r)) ∧ W r ∧ ats r = ovr (ats a) (ats s) ∧ r.length ≤ a.length + s.length := by
   rintro t a' rfl ht hno step
   obtain ⟨w1, w2⟩ := W_cons.1 wa
   rw [ats_cons, at1_I 0 ht] at hio ba ⊢
   rw [ins_app, ins_I] at hio
   rw [List.length_append] at ba
   rw [List.length_cons] at hm
   obtain ⟨r, h1, h2, h3, h4⟩ := ih a' s (out ++ [⟨2, 0, enc t⟩]) w2 (fun y hy => na y (by simp [hy])) ws ns (by omega) (by omega) bs (by rw [List.length_append, List.length_singleton]; omega) (by omega)
   refine ⟨⟨2, 0, enc t⟩ :: r, fun k hk => ?_, W_cons.2 ⟨okA_I ht, h2⟩, ?_, by rw [List.length_cons, List.length_cons]; omega⟩
   ·obtain ⟨k, rfl⟩ : ∃ j, k = j + 1 := ⟨k - 1, by omega⟩
    rw [step k, h1 k (by omega), List.append_assoc]; rfl
   ·rw [ats_cons, at1_I 0 ht, h3, ovr_ra _ _ hno]
  cases s with
  | nil =>
   cases a with
   | nil =>
    refine ⟨[], fun k hk => ?_, W_nil, ovr_nil.symm, by simp⟩
    obtain ⟨k, rfl⟩ : ∃ j, k = j + 1 := ⟨k - 1, by omega⟩
    rw [ol_end k out (by omega), List.append_nil]
   | cons x a =>
    have hx := na x (by simp)
    rcases okA_cases (W_cons.1 wa).1 with ⟨n, rfl⟩ | ⟨n, rfl⟩ | ⟨t, ht, rfl⟩
    ·exfalso
     rw [ats_cons, at1_K, ins_app, ins_K, ats_nil, ins_nil, Int.toNat_natCast] at hio
     unfold ne at hx; rw [at1_K, show ((n : Int)).toNat = 0 by omega] at hx; exact hx rfl
    ·exfalso
     rw [ats_cons, at1_D, ins_app, ins_D, ats_nil, ins_nil, Int.toNat_natCast] at hio
     unfold ne at hx; rw [at1_D, show ((n : Int)).toNat = 0 by omega] at hx; exact hx rfl
    ·exact aput t a rfl ht (fun c l' e => by cases e) fun k => ol_a0 k a 0 _ out (by omega)
  | cons y s =>
   obtain ⟨y1, y2⟩ := W_cons.1 ws
   have hy := ns y (by simp)
   have ns' : ∀ z ∈ s, ne z := fun z hz => ns z (by simp [hz])
   have both : ∀ (g : Int) (p : Nat), (g = 1 ∨ g = 3) → y = ⟨g, (p : Int), ⟨#[]⟩⟩ → 0 < p → ∃ r, (∀ k, m + 1 + 1 ≤ k → over_Of.l k a (y :: s) out = some (out ++ r)) ∧ W r ∧ ats r = ovr (ats a) (ats (y :: s)) ∧ r.length ≤ a.length + (y :: s).length := by
    rintro g p hg rfl hp
    have g2 : g ≠ 2 := by rcases hg with rfl | rfl <;> decide
    have eg : at1 (⟨g, (p : Int), ⟨#[]⟩⟩ : S25) = List.replicate p (atk g) := by rcases hg with rfl | rfl <;> rfl
    have ig : ins (List.replicate p (atk g)) = p := by rcases hg with rfl | rfl; exact ins_K p; exact ins_D p
    have nog : noI (List.replicate p (atk g) ++ ats s) := noI_rep (by rcases hg with rfl | rfl <;> (intro c e; cases e)) hp _
    cases a with
    | nil => exfalso; rw [ats_nil, ins_nil, ats_cons, eg, ins_app, ig] at hio; omega
    | cons x a =>
     obtain ⟨x1, x2⟩ := W_cons.1 wa
     have hx := na x (by simp)
     have na' : ∀ z ∈ a, ne z := fun z hz => na z (by simp [hz])
     have num : ∀ (f : Int) (n : Nat), (f = 1 ∨ f = 3) → x = ⟨f, (n : Int), ⟨#[]⟩⟩ → 0 < n → ∃ r, (∀ k, m + 1 + 1 ≤ k → over_Of.l k (x :: a) (⟨g, (p : Int), ⟨#[]⟩⟩ :: s) out = some (out ++ r)) ∧ W r ∧ ats r = ovr (ats (x :: a)) (ats (⟨g, (p : Int), ⟨#[]⟩⟩ :: s)) ∧ r.length ≤ (x :: a).length + ((⟨g, (p : Int), ⟨#[]⟩⟩ : S25) :: s).length := by
      rintro f n hf rfl hn
      have f2 : f ≠ 2 := by rcases hf with rfl | rfl <;> decide
      have ef : at1 (⟨f, (n : Int), ⟨#[]⟩⟩ : S25) = List.replicate n (atk f) := by rcases hf with rfl | rfl <;> rfl
      have jf : ins (List.replicate n (atk f)) = n := by rcases hf with rfl | rfl; exact ins_K n; exact ins_D n
      rw [ats_cons, ef] at hio ba ⊢
      rw [ats_cons, eg] at hio bs ⊢
      rw [ins_app, ins_app, jf, ig] at hio
      rw [List.length_append, List.length_replicate] at ba bs
      rw [List.length_cons, List.length_cons] at hm
      obtain ⟨a1, a2, a3, a4, a5⟩ := restN_A hf (Nat.min_le_left n p) x2 na'
      obtain ⟨b1, b2, b3, b4, b5⟩ := restN_A hg (Nat.min_le_right n p) y2 ns'
      have jf' : ins (List.replicate (n - min n p) (atk f)) = n - min n p := by rcases hf with rfl | rfl; exact ins_K _; exact ins_D _
      have ig' : ins (List.replicate (p - min n p) (atk g)) = p - min n p := by rcases hg with rfl | rfl; exact ins_K _; exact ins_D _
      have hl : (restN f (n : Int) ((min n p : Nat) : Int) ⟨#[]⟩ a).length + (restN g (p : Int) ((min n p : Nat) : Int) ⟨#[]⟩ s).length ≤ a.length + s.length + 1 := by
       rcases (by omega : n = min n p ∨ p = min n p) with e | e
       ·have := a5 e; omega
       ·have := b5 e; omega
      have go := fun o ho => ih (restN f (n : Int) ((min n p : Nat) : Int) ⟨#[]⟩ a) (restN g (p : Int) ((min n p : Nat) : Int) ⟨#[]⟩ s) o a1 a2 b1 b2 (by omega) (by rw [a3, List.length_append, List.length_replicate]; omega) (by rw [b3, List.length_append, List.length_replicate]; omega) ho (by rw [a3, b3, ins_app, ins_app, jf', ig']; omega)
      rcases hg with rfl | rfl
      ·obtain ⟨r, h1, h2, h3, h4⟩ := go (out ++ [⟨f, ((min n p : Nat) : Int), ⟨#[]⟩⟩]) (by rw [List.length_append, List.length_singleton]; omega)
       refine ⟨⟨f, ((min n p : Nat) : Int), ⟨#[]⟩⟩ :: r, fun k hk => ?_, W_cons.2 ⟨by rcases hf with rfl | rfl; exact okA_K _; exact okA_D _, h2⟩, ?_, by simp only [List.length_cons]; omega⟩
       ·obtain ⟨k, rfl⟩ : ∃ j, k = j + 1 := ⟨k - 1, by omega⟩
        rw [ol_K k a s f n p ⟨#[]⟩ ⟨#[]⟩ out f2 (by omega) (by omega) (by omega) (by omega) (by omega), mn_nat, h1 k (by omega), List.append_assoc]; rfl
       ·have e1 : at1 (⟨f, ((min n p : Nat) : Int), ⟨#[]⟩⟩ : S25) = List.replicate (min n p) (atk f) := by rcases hf with rfl | rfl <;> rfl
        rw [ats_cons, e1, h3, a3, b3, rep_split (atk f) (Nat.min_le_left n p), rep_split (n := p) (atk 1) (Nat.min_le_right n p), List.append_assoc, List.append_assoc]
        rcases hf with rfl | rfl
        ·exact (ovr_rKK _ _ _).symm
        ·exact (ovr_rDK _ _ _).symm
      ·obtain ⟨r, h1, h2, h3, h4⟩ := go out (by omega)
       refine ⟨r, fun k hk => ?_, h2, ?_, by simp only [List.length_cons]; omega⟩
       ·obtain ⟨k, rfl⟩ : ∃ j, k = j + 1 := ⟨k - 1, by omega⟩
        rw [ol_D k a s f n p ⟨#[]⟩ ⟨#[]⟩ out f2 (by omega) (by omega) (by omega) (by omega) (by omega), mn_nat, h1 k (by omega)]
       ·rw [h3, a3, b3, rep_split (atk f) (Nat.min_le_left n p), rep_split (n := p) (atk 3) (Nat.min_le_right n p), List.append_assoc, List.append_assoc]
        rcases hf with rfl | rfl
        ·exact (ovr_rKD _ _ _).symm
        ·exact (ovr_rDD _ _ _).symm
     rcases okA_cases x1 with ⟨n, rfl⟩ | ⟨n, rfl⟩ | ⟨t, ht, rfl⟩
     ·exact num 1 n (.inl rfl) rfl (by unfold ne at hx; rw [at1_K] at hx; cases n with | zero => exact absurd rfl hx | succ n => omega)
     ·exact num 3 n (.inr rfl) rfl (by unfold ne at hx; rw [at1_D] at hx; cases n with | zero => exact absurd rfl hx | succ n => omega)
     ·exact aput t a rfl ht (by rw [ats_cons, eg]; exact nog) fun k => ol_a k a s 0 g (p : Int) _ _ out g2 (by omega)
   rcases okA_cases y1 with ⟨p, rfl⟩ | ⟨p, rfl⟩ | ⟨t, ht, rfl⟩
   ·exact both 1 p (.inl rfl) rfl (by unfold ne at hy; rw [at1_K] at hy; cases p with | zero => exact absurd rfl hy | succ n => omega)
   ·exact both 3 p (.inr rfl) rfl (by unfold ne at hy; rw [at1_D] at hy; cases p with | zero => exact absurd rfl hy | succ n => omega)
   ·rw [ats_cons, at1_I 0 ht] at hio bs ⊢
    rw [ins_app, ins_I] at hio
    rw [List.length_append, List.length_map] at bs
    rw [List.length_cons] at hm
    obtain ⟨r, h1, h2, h3, h4⟩ := ih a s (out ++ [sK t.length]) wa na y2 ns' (by omega) ba (by omega) (by rw [List.length_append, List.length_singleton]; omega) (by omega)
    refine ⟨sK t.length :: r, fun k hk => ?_, W_cons.2 ⟨okA_K _, h2⟩, ?_, by rw [List.length_cons, List.length_cons]; omega⟩
    ·obtain ⟨k, rfl⟩ : ∃ j, k = j + 1 := ⟨k - 1, by omega⟩
     rw [ol_put' k a s t out ht (by omega) (by omega), h1 k (by omega), List.append_assoc]; rfl
    ·rw [ats_cons, at1_K, Int.toNat_natCast, h3, ovr_rI]
theorem over_A {a s : List S25} (wa : W a) (ws : W s) (hab : (ats a).length + (ats s).length ≤ 1000000) (ll : a.length + s.length ≤ 1000000) (hio : ins (ats a) = ins (ats s)) :
  ∃ r, (∀ k, a.length + s.length + 4 ≤ k → over_Of.f k a s = some (r, 0)) ∧ W r ∧ Alt r ∧ ats r = ovr (ats a) (ats s) := by
 obtain ⟨w1, n1, e1, l1⟩ := norm_A wa (by omega)
 obtain ⟨w2, n2, e2, l2⟩ := norm_A ws (by omega)
 have ol := ovr_len _ (ats a) (ats s) (Nat.le_refl _) hio
 obtain ⟨r, h1, h2, h3, h4⟩ := over_l ((normal_Of.n a).length + (normal_Of.n s).length) _ _ [] w1 (alt_ne n1) w2 (alt_ne n2) (Nat.le_refl _) (by rw [e1]; omega) (by rw [e2]; omega) (by simp only [List.length_nil]; omega) (by rw [e1, e2]; exact hio)
 rw [e1, e2] at h3
 obtain ⟨w3, n3, e3, l3⟩ := norm_A h2 (by rw [h3]; omega)
 refine ⟨normal_Of.n r, fun k hk => ?_, w3, n3, by rw [e3, h3]⟩
 unfold over_Of.f
 rw [may_A wa (by omega) (by omega) k (by omega), Option.bind_some, if_pos rfl, may_A ws (by omega) (by omega) k (by omega), Option.bind_some, if_pos rfl, in_A wa (by omega) (by omega), Option.bind_some, in_A ws (by omega) (by omega), Option.bind_some, if_pos (by omega), normal_A wa (by omega) (by omega), Option.bind_some, normal_A ws (by omega) (by omega), Option.bind_some,
  h1 k (by omega), Option.bind_some, List.nil_append, normal_A h2 (by rw [h3]; omega) (by omega)]
 rfl
def ovrs (a : List At) (l : List (List S25)) : List At := l.foldl (fun a x => ovr a (ats x)) a
theorem chain_l' (k : Nat) (hk : 1000005 ≤ k) : ∀ (l : List (List S25)) (n : Nat), ch n l → (∀ x ∈ l, Alt x) → tot l ≤ 400000 → ∃ q : Int, fuse_Chain.l k (n : Int) l = some (q, 0)
 | [], n, _, _, _ => ⟨n, rfl⟩
 | x :: l, n, ⟨h1, h2, h3⟩, hn, ht => by
  rw [tot_cons] at ht
  have lx := alt_len (hn x (by simp))
  obtain ⟨q, hq⟩ := chain_l' k hk l _ h3 (fun y hy => hn y (by simp [hy])) (by omega)
  refine ⟨q, ?_⟩
  rw [fuse_Chain.l]
  unfold fuse_next.f
  rw [may_A h1 (by omega) (by omega) k (by omega), Option.bind_some, if_pos rfl, in_A h1 (by omega) (by omega), Option.bind_some, if_pos (by omega), out_A h1 (by omega) (by omega), Option.bind_some, Option.bind_some, if_pos rfl, hq]
theorem thr_l : ∀ (l : List (List S25)) (a : List S25), W a → Alt a → ch (ins (ats a)) l → (∀ x ∈ l, Alt x) → (ats a).length + tot l ≤ 1000000 → ∃ r, (∀ k, 1000004 ≤ k → through_Of.l k a l = some r) ∧ W r ∧ Alt r ∧ ats r = ovrs (ats a) l
 | [], a, wa, na, _, _, _ => ⟨a, fun k _ => rfl, wa, na, rfl⟩
 | x :: l, a, wa, na, ⟨h1, h2, h3⟩, hn, ht => by
  rw [tot_cons] at ht
  have la := alt_len na
  have lx := alt_len (hn x (by simp))
  obtain ⟨r, c1, c2, c3, c4⟩ := over_A wa h1 (by omega) (by omega) h2.symm
  have ol := ovr_len _ (ats a) (ats x) (Nat.le_refl _) h2.symm
  obtain ⟨q, d1, d2, d3, d4⟩ := thr_l l r c2 c3 (by rw [c4, ol.1]; exact h3) (fun y hy => hn y (by simp [hy])) (by rw [c4]; omega)
  refine ⟨q, fun k hk => ?_, d2, d3, by rw [d4, c4]; rfl⟩
  rw [through_Of.l, c1 k (by omega), Option.bind_some, d1 k hk]
theorem thr_A {n : Nat} {l : List (List S25)} {a : List S25} (wa : W a) (h : hs n l) (hi : ins (ats a) = n) (hl : l.length ≤ 60000) (la : a.length ≤ 100000) (ht : (ats a).length + tot l ≤ 400000) : ∃ r, (∀ k, 1000005 ≤ k → through_Of.f k a l = some (r, 0)) ∧ W r ∧ Alt r ∧ ats r = ovrs (ats a) l := by
 obtain ⟨w1, n1, e1, l1⟩ := norm_A wa (by omega)
 have := ins_le (ats a)
 obtain ⟨r, h1, h2, h3, h4⟩ := thr_l l (normal_Of.n a) w1 n1 (by rw [e1, hi]; exact h.1) h.2 (by rw [e1]; omega)
 refine ⟨r, fun k hk => ?_, h2, h3, by rw [h4, e1]⟩
 obtain ⟨q, hq⟩ := chain_l' k hk l n h.1 h.2 (by omega)
 obtain ⟨kp, p1, _⟩ := keep_op n (by omega)
 unfold through_Of.f through_may.f fuse_Chain.f
 rw [if_pos (by omega), may_A wa (by omega) (by omega) k (by omega), Option.bind_some, if_pos rfl, in_A wa (by omega) (by omega), Option.bind_some, hi, if_pos (by omega), p1 k (by omega), Option.bind_some, if_pos rfl, hq, Option.bind_some, Option.bind_some, if_pos rfl, normal_A wa (by omega) (by omega), Option.bind_some, h1 k (by omega), Option.bind_some]
theorem ovrs_ins : ∀ (l : List (List S25)) (n : Nat) (x : List At), ch n l → ins x = n → ins (ovrs x l) = sz n l l.length
 | [], n, x, _, h => h
 | y :: l, n, x, ⟨h1, h2, h3⟩, hx => by
  have ol := ovr_len _ x (ats y) (Nat.le_refl _) (by rw [hx, h2])
  exact ovrs_ins l _ (ovr x (ats y)) h3 ol.1
theorem sz_app : ∀ (l r : List (List S25)) (n i : Nat), sz n (l ++ r) (l.length + i) = sz (sz n l l.length) r i
 | [], r, n, i => by rw [List.length_nil, Nat.zero_add]; rfl
 | x :: l, r, n, i => by
  have := sz_app l r (outs (ats x)) i
  rw [show (x :: l).length + i = (l.length + i) + 1 by rw [List.length_cons]; omega]
  exact this
theorem idx_mem {R : List Int} (h : rise R) (t : Nat) (ht : t < R.length) : seek_Find.idx R[t] R 0 = if t + 1 = R.length then -1 else ((t + 1 : Nat) : Int) := by
 rcases seek_Find.idx_spec R[t] R 0 with ⟨e, hall⟩ | ⟨q, hq, e, hgt, hle⟩
 ·have hl := hall R[R.length - 1] (List.getElem_mem _)
  have := (rise_lt h ht (show R.length - 1 < R.length by omega))
  rw [if_pos (by omega)]; exact e
 ·rw [List.getD_eq_getElem?_getD, List.getElem?_eq_getElem hq] at hgt
  have h1 := (rise_lt h ht hq).1 hgt
  have h2 : ¬ t + 1 < q := by
   intro c
   have := hle (R[t + 1]'(by omega)) (by rw [List.mem_take_iff_getElem]; exact ⟨t + 1, by omega, rfl⟩)
   have := (rise_lt h ht (show t + 1 < R.length by omega)).2 (by omega)
   omega
  rw [if_neg (by omega)]
  have : q = t + 1 := by omega
  subst this
  simpa using e
theorem seek_at {R : List Int} (h : rise R) (hl : R.length ≤ 100000) (t : Nat) (ht : t < R.length) : seek_Find.f R R[t] = some ((t : Int), R[t], 0) := by
 have hi := idx_mem h t ht
 have hab : seek_Find.ab R R[t] = ((t + 1 : Nat) : Int) := by
  unfold seek_Find.ab
  rw [hi]
  by_cases c : t + 1 = R.length
  ·rw [if_pos c, if_pos (by decide)]; omega
  ·rw [if_neg c, if_neg (by omega)]
 unfold seek_Find.f
 rw [hab, if_pos (by omega), if_neg (by omega)]
 have e1 : ((t + 1 : Nat) : Int) - 1 = (t : Int) := by omega
 rw [if_neg, if_neg (by omega), e1, rdI_at R t ht, if_pos rfl]
 rintro ⟨c1, c2⟩
 apply c2
 have : (R.length : Int) - 1 = (t : Int) := by omega
 rw [this, rdI_at R t ht]
theorem ovrs_len' : ∀ (l : List (List S25)) (n : Nat) (x : List At), ch n l → ins x = n → (ovrs x l).length ≤ x.length + tot l
 | [], n, x, _, h => Nat.le_add_right _ _
 | y :: l, n, x, ⟨h1, h2, h3⟩, hx => by
  have ol := ovr_len _ x (ats y) (Nat.le_refl _) (by rw [hx, h2])
  have := ovrs_len' l _ (ovr x (ats y)) h3 ol.1
  rw [tot_cons]
  show (ovrs (ovr x (ats y)) l).length ≤ _
  omega
theorem rise_snoc {R : List Int} {v : Int} (h : rise R) (hv : ∀ x ∈ R, x < v) (h0 : 0 ≤ v) (h1 : v ≤ 268435455) : rise (R ++ [v]) := by
 refine ⟨List.pairwise_append.2 ⟨h.1, List.pairwise_singleton _ _, fun a ha b hb => ?_⟩, fun x hx => ?_⟩
 ·rw [List.mem_singleton.1 hb]; exact hv a ha
 ·rcases List.mem_append.1 hx with hx | hx
  ·exact h.2 x hx
  ·rw [List.mem_singleton.1 hx]; exact ⟨h0, h1⟩
theorem log_snoc {b R : List Int} {S : List (List S25)} (L : LogOk b R S) {y : List S25} {v : Int} (wy : W y) (ay : Alt y) (hy : ins (ats y) = sz b.length S S.length) (hv : ∀ x ∈ R, x < v) (h0 : 0 ≤ v) (h1 : v ≤ 268435455) (ht : b.length + tot S + (ats y).length ≤ 400000) (hs : S.length < 60000) : LogOk b (R ++ [v]) (S ++ [y]) := by
 refine ⟨L.rb, ⟨ch_snoc L.hs.1 wy hy, fun x hx => ?_⟩, rise_snoc L.ri hv h0 h1, ?_, by rw [tot_snoc]; omega, by rw [List.length_append, List.length_singleton]; omega⟩
 ·rcases List.mem_append.1 hx with hx | hx
  ·exact L.hs.2 x hx
  ·rw [List.mem_singleton.1 hx]; exact ay
 ·have := L.ln
  rw [List.length_append, List.length_append, List.length_singleton, List.length_singleton]; omega
theorem after_ok {h : Int} (h0 : 0 ≤ h) (h1 : h < 268435455) : server_after.f h = some (h + 1, 0) := by
 unfold server_after.f
 rw [if_neg (by omega), w64 (by omega) (by omega)]
theorem sub_A {b R : List Int} {S : List (List S25)} (L : LogOk b R S) {x : List S25} (wx : W x) {i : Nat} (hi : i ≤ S.length) (hx : ins (ats x) = sz b.length S i) (lx : x.length ≤ 1000) (hb : (ats x).length + tot (S.drop i) ≤ 390000) (hd : Int) (hh : ∃ h : S.length < R.length, R[S.length] = hd) (h1 : hd < 268435455) (rq near : Int) (hf : seek_Find.f R rq = some ((i : Int), near, 0)) :
  ∃ y, SubOk 7000000 R S ((b.length : Int) :: szs S) rq x i near (sz b.length S i : Int) hd (hd + 1) y (outs (ats y) : Int) ∧ W y ∧ Alt y ∧ ats y = ovrs (ats x) (S.drop i) ∧ ins (ats y) = sz b.length S S.length ∧ (ats y).length ≤ (ats x).length + tot (S.drop i) := by
 have hln := L.ln; have hsl := L.sl; have htt := L.tt
 have hd' := ch_drop L.hs.1 i hi
 have ht := tot_take S i
 obtain ⟨y, y1, y2, y3, y4⟩ := thr_A (n := sz b.length S i) (l := S.drop i) wx ⟨hd', fun z hz => L.hs.2 z (List.mem_of_mem_drop hz)⟩ hx (by rw [List.length_drop]; omega) (by omega) (by omega)
 have yl := ovrs_len' (S.drop i) _ (ats x) hd' hx
 have yi := ovrs_ins (S.drop i) _ (ats x) hd' hx
 rw [← y4] at yl yi
 have e := sz_app (S.take i) (S.drop i) b.length (S.drop i).length
 have lt : (S.take i).length = i := by rw [List.length_take]; omega
 rw [List.take_append_drop, lt, sz_take S _ i i (Nat.le_refl _) hi, List.length_drop, show i + (S.length - i) = S.length by omega] at e
 rw [List.length_drop, ← e] at yi
 have al := alt_len y3
 have ol := outs_le (ats y)
 obtain ⟨hr, eh⟩ := hh
 have h0 : 0 ≤ hd := by rw [← eh]; exact (L.ri.2 _ (List.getElem_mem _)).1
 refine ⟨y, ⟨may_A wx (by omega) (by omega) _ (by omega), hf, hi, by rw [in_A wx (by omega) (by omega), hx], rd_sz S b.length i hi, by rw [rdI_at _ _ hr, eh], after_ok h0 h1, y1 _ (by decide), out_A y2 (by omega) (by omega), by omega, hln, by rw [List.length_cons, szs, List.length_map], by omega, by omega⟩, y2, y3, y4, yi, yl⟩
end Go.Proofs.YtegjegihcebimaaDoor.Pure
end
