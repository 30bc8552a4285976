/- Part 0 of the proof of topLogs_holds: out of the texts that this session's programs wrote, what the theorem reaches. -/
import Derived.ChangeArms
import Derived.Lib.LaidU8
import Derived.Lib.LaidU8T
import Derived.Lib.MapLaws
import Derived.Lib.QuoteLoop
import Derived.Lib.RuneCount
import Derived.Lib.ValidLaws
import Derived.Lib.ValidU
import Derived.Shelf.Unicode.ValidAny
import Derived.Test.YtegjegihcebimaaDoorProg
import Derived.Test.YtegjegihcebimaaDoorRows
section
namespace Go.Proofs
open Go.Shelf
def Tryd.laysValid_ren : Go.Shelf.Ren := ⟨fun | 196 => 78 | 259 => 91 | n => n, fun | 9 => 9 | 4 => 4 | 3 => 3 | 5 => 5 | 12 => 12 | 119 => 148 | 0 => 0 | 46 => 152 | 139 => 151 | 138 => 150 | 53 => 166 | n => n, fun | 3 => 0 | 4 => 1 | n => n⟩
theorem Tryd.laysValid : Go.Proofs.Lays.n196 Tryd.prog Tryd.laysValid_ren := {
 mixed := by kernel_rfl
 f196 := Tryd.func78.trans (congrArg some (by kernel_rfl))
 f259 := Tryd.func91.trans (congrArg some (by kernel_rfl))
 t0 := Tryd.underlying0
 a0 := Tryd.isAgg0
 z0 := Tryd.sizeOf0
 v0 := Tryd.zeroValue0
 t3 := Tryd.underlying3
 a3 := Tryd.isAgg3
 z3 := Tryd.sizeOf3
 v3 := Tryd.zeroValue3
 t4 := Tryd.underlying4
 a4 := Tryd.isAgg4
 z4 := Tryd.sizeOf4
 v4 := Tryd.zeroValue4
 t5 := Tryd.underlying5
 a5 := Tryd.isAgg5
 z5 := Tryd.sizeOf5
 v5 := Tryd.zeroValue5
 t9 := Tryd.underlying9
 a9 := Tryd.isAgg9
 z9 := Tryd.sizeOf9
 v9 := Tryd.zeroValue9
 t12 := Tryd.underlying12
 a12 := Tryd.isAgg12
 z12 := Tryd.sizeOf12
 v12 := Tryd.zeroValue12
 t46 := Tryd.underlying152
 a46 := Tryd.isAgg152
 z46 := Tryd.sizeOf152
 v46 := Tryd.zeroValue152
 t53 := Tryd.underlying166
 a53 := Tryd.isAgg166
 z53 := Tryd.sizeOf166
 v53 := Tryd.zeroValue166
 t119 := Tryd.underlying148
 a119 := Tryd.isAgg148
 z119 := Tryd.sizeOf148
 t138 := Tryd.underlying150
 a138 := Tryd.isAgg150
 z138 := Tryd.sizeOf150
 v138 := Tryd.zeroValue150
 t139 := Tryd.underlying151
 a139 := Tryd.isAgg151
 z139 := Tryd.sizeOf151
 v139 := Tryd.zeroValue151
 g3 := by kernel_rfl
 g4 := by kernel_rfl }
end Go.Proofs
namespace Go.Proofs.YtegjegihcebimaaDoor
open Go.Shelf Go.RowKit
def kindsTab : List Bool := [false, false, true, true, false, false, true, false]
def KindsAt (w : World) : Prop := ∀ i, i < 8 → w.cell? { block := 2, off := i } = some (.bool (kindsTab.getD i false))
theorem KindsAt.below {w w1 : World} (h : KindsAt w) (hb : Below w.heap.size w w1) : KindsAt w1 := fun i hi => by
 have hc := h i hi
 refine (hb.cell ?_).trans hc
 rcases Nat.lt_or_ge 2 w.heap.size with h' | h'
 ·exact h'
 ·simp [World.cell?, Array.getElem?_eq_none h'] at hc
def Tabs (w : World) : Prop := Lib.Utf8Tabs (Tryd.laysValid_ren.g 3) (Tryd.laysValid_ren.g 4) w ∧ KindsAt w
theorem Tabs.below {w w1 : World} (h : Tabs w) (hb : Below w.heap.size w w1) : Tabs w1 := ⟨Utf8Tabs_below h.1 hb, h.2.below hb⟩
theorem valid_calls (s : ByteArray) (w : World) (hs : s.size ≤ 9223372036854775807) (hT : Tabs w) :
  Calls Tryd.prog 78 #[.string s] w fun e w' => e = .returned (.bool (Lib.validD s.data.toList)) ∧ Below w.heap.size w w' := Any.utf8_ValidString Tryd.laysValid s w hs hT.1
end Go.Proofs.YtegjegihcebimaaDoor
end
section
namespace Go.Proofs.YtegjegihcebimaaDoor
open Go.Lib
def kindsCells : Array Value := (kindsTab.map Value.bool).toArray
theorem kind_cells {H : Type} {enc : TypeId × Value → H} {w : World} {base : Nat} {sp : Nat → Bool} {held : Bool} {fuel : Nat} {cs : List Value} {b0 b1 : Bool} {p : List MemPlace}
  (h : DataW.trod enc Tryd.prog w base sp held fuel 138 cs = some (.agg [.lit (.bool b0), .lit (.bool b1)], p)) : cs[0]? = some (.bool b0) ∧ cs[1]? = some (.bool b1) := by
 obtain ⟨xs, n, rfl, hx, hl, hxl, hall⟩ := DataW.trod_struct Tryd.underlying138 h
 have h0 : DataW.trod enc Tryd.prog w base sp held n 4 ((cs.drop 0).take (Tryd.prog.cellsOf 4)) = xs[0]? := hall 0 _ rfl
 have h1 : DataW.trod enc Tryd.prog w base sp held n 4 ((cs.drop 1).take (Tryd.prog.cellsOf 4)) = xs[1]? := hall 1 _ rfl
 have hc : Tryd.prog.cellsOf 4 = 1 := by kernel_rfl
 rw [hc] at h0 h1
 have hxs : xs.map (·.1) = [.lit (.bool b0), .lit (.bool b1)] := by
  have := congrArg Prod.fst hx
  simpa using this.symm
 match xs, hxs with
 | [x0, x1], hxs =>
  simp only [List.map_cons, List.map_nil, List.cons.injEq, and_true] at hxs
  obtain ⟨e0, e1⟩ := hxs
  obtain ⟨c0, k0, hx0⟩ := DataW.trod_bool Tryd.underlying4 (h0.trans (by rfl : ([x0, x1] : List _)[0]? = some x0))
  obtain ⟨c1, k1, hx1⟩ := DataW.trod_bool Tryd.underlying4 (h1.trans (by rfl : ([x0, x1] : List _)[1]? = some x1))
  subst hx0 hx1
  simp only [DataW.lit.injEq, Lit.bool.injEq] at e0 e1
  subst e0 e1
  constructor
  ·have := congrArg (·[0]?) k0
   simpa [List.getElem?_take, List.getElem?_drop] using this
  ·have := congrArg (·[0]?) k1
   simpa [List.getElem?_take, List.getElem?_drop] using this
theorem kinds_of_reads {w : World} (h : VarReads Tryd.prog w "epitome/span.kinds" (Rows.laid_epitome_span_kinds : DataW Unit)) : KindsAt w := by
 obtain ⟨g, t, cs, fuel, p, hg, hty, hvar, hd⟩ := h
 obtain rfl : 2 = g := Option.some.inj ((show Tryd.prog.globalNamed "epitome/span.kinds" = some 2 by kernel_rfl).symm.trans hg)
 obtain rfl : 157 = t := Option.some.inj ((show (Tryd.prog.globals[2]?).map (·.type) = some 157 by kernel_rfl).symm.trans hty)
 have hc : Tryd.prog.cellsOf 138 = 2 := by kernel_rfl
 intro i hi
 obtain ⟨fuel', d, q, hdi, he⟩ := array_elem Tryd.underlying157 hd (i / 2) (by omega)
 rw [hc] at he
 rw [World.var?_cell hg hvar i, ← Array.getElem?_toList]
 have key : ∀ (b0 b1 : Bool), d = .agg [.lit (.bool b0), .lit (.bool b1)] → (cs.toList[i / 2 * 2]? = some (.bool b0) ∧ cs.toList[i / 2 * 2 + 1]? = some (.bool b1)) := by
  intro b0 b1 e
  subst e
  obtain ⟨e0, e1⟩ := kind_cells he
  simp only [List.getElem?_take, List.getElem?_drop] at e0 e1
  exact ⟨by simpa using e0, by simpa using e1⟩
 rcases (by omega : i = 0 ∨ i = 1 ∨ i = 2 ∨ i = 3 ∨ i = 4 ∨ i = 5 ∨ i = 6 ∨ i = 7) with rfl | rfl | rfl | rfl | rfl | rfl | rfl | rfl
 ·exact (key false false (Option.some.inj hdi).symm).1
 ·exact (key false false (Option.some.inj hdi).symm).2
 ·exact (key true true (Option.some.inj hdi).symm).1
 ·exact (key true true (Option.some.inj hdi).symm).2
 ·exact (key false false (Option.some.inj hdi).symm).1
 ·exact (key false false (Option.some.inj hdi).symm).2
 ·exact (key true false (Option.some.inj hdi).symm).1
 ·exact (key true false (Option.some.inj hdi).symm).2
end Go.Proofs.YtegjegihcebimaaDoor
end
section
namespace Go.Proofs.YtegjegihcebimaaDoor
def validT (s : ByteArray) : Bool := Lib.validD s.data.toList
def countT (s : ByteArray) : Int := if validT s then (Lib.runeCount s : Int) else -1
def posT (s : ByteArray) : Nat → Nat
 | 0 => 0
 | k + 1 => if posT s k < s.size then posT s k + (Utf8.decode s (posT s k)).2 else posT s k
theorem runeCount_from (s : ByteArray) : ∀ (k b : Nat), k + Lib.runeCountFrom s b (posT s k) = Lib.runeCount s → s.size ≤ posT s k + b → posT s k < s.size →
  k + 1 + Lib.runeCountFrom s (b - 1) (posT s (k + 1)) = Lib.runeCount s ∧ s.size ≤ posT s (k + 1) + (b - 1) := by
 intro k b h hb hp
 cases b with
 | zero => omega
 | succ b =>
  have hw := Lib.decode_width_pos s _ hp
  have e : posT s (k + 1) = posT s k + (Utf8.decode s (posT s k)).2 := by rw [posT, if_pos hp]
  simp only [Lib.runeCountFrom, if_pos hp] at h
  rw [e]
  exact ⟨by simp only [Nat.add_sub_cancel]; omega, by omega⟩
theorem runeCount_lt (s : ByteArray) : Lib.runeCount s ≤ s.size := Lib.runeCount_le s
def isRune (c : Int) : Prop := (0 ≤ c ∧ c < 55296) ∨ (57343 < c ∧ c ≤ 1114111)
instance (c : Int) : Decidable (isRune c) := inferInstanceAs (Decidable (_ ∨ _))
def Runes (l : List Int) : Prop := ∀ c ∈ l, isRune c
def encB (l : List Int) : List UInt8 := (l.map Lib.encodeRune).flatten
def enc (l : List Int) : ByteArray := ⟨(encB l).toArray⟩
theorem enc_list (l : List Int) : (enc l).data.toList = encB l := rfl
theorem enc_size (l : List Int) : (enc l).size = (encB l).length := by simp [enc, ByteArray.size]
theorem encB_nil : encB [] = [] := rfl
theorem encB_cons (c : Int) (l : List Int) : encB (c :: l) = Lib.encodeRune c ++ encB l := by simp [encB]
theorem encB_append (a b : List Int) : encB (a ++ b) = encB a ++ encB b := by simp [encB]
theorem Runes.cons {c : Int} {l : List Int} (h : Runes (c :: l)) : isRune c ∧ Runes l := ⟨h c (by simp), fun x hx => h x (by simp [hx])⟩
theorem Runes.take {l : List Int} (h : Runes l) (k : Nat) : Runes (l.take k) := fun c hc => h c (List.mem_of_mem_take hc)
theorem Runes.drop {l : List Int} (h : Runes l) (k : Nat) : Runes (l.drop k) := fun c hc => h c (List.mem_of_mem_drop hc)
theorem Runes.append {a b : List Int} (ha : Runes a) (hb : Runes b) : Runes (a ++ b) := fun c hc => by
 rcases List.mem_append.mp hc with h | h
 ·exact ha c h
 ·exact hb c h
theorem byte_nat {x : Int} (h0 : 0 ≤ x) (h1 : x < 256) : (x.toNat.toUInt8).toNat = x.toNat := by
 simp only [Nat.toUInt8, UInt8.toNat_ofNat']; omega
theorem encodeRune_length (c : Int) : 1 ≤ (Lib.encodeRune c).length ∧ (Lib.encodeRune c).length ≤ 4 := by
 unfold Lib.encodeRune; rw [List.length_map]; exact Lib.encodeRuneZ_length c
set_option maxHeartbeats 1000000 in
theorem decodeL_enc {c : Int} (h : isRune c) (r : List UInt8) : Lib.decodeL (Lib.encodeRune c ++ r) = (c.toNat, (Lib.encodeRune c).length) := by
 rw [Lib.decodeL_N]
 unfold isRune at h
 rcases (by omega : (0 ≤ c ∧ c ≤ 127) ∨ (128 ≤ c ∧ c ≤ 2047) ∨ ((2048 ≤ c ∧ c < 55296) ∨ (57343 < c ∧ c ≤ 65535)) ∨ (65536 ≤ c ∧ c ≤ 1114111)) with g | g | g | g
 ·have e : Lib.encodeRune c = [c.toNat.toUInt8] := by unfold Lib.encodeRune; rw [Lib.encodeRuneZ_one g.1 g.2]; rfl
  rw [e]
  simp only [List.cons_append, List.nil_append, List.getD_cons_zero, List.length_cons, List.length_nil]
  rw [byte_nat (by omega) (by omega), Lib.decodeN_ascii _ _ _ _ _ (by omega)]
 ·have e : Lib.encodeRune c = [(192 + c / 64).toNat.toUInt8, (128 + c % 64).toNat.toUInt8] := by unfold Lib.encodeRune; rw [Lib.encodeRuneZ_two g.1 g.2]; rfl
  rw [e]
  simp only [List.cons_append, List.nil_append, List.getD_cons_zero, List.getD_cons_succ, List.length_cons, List.length_nil]
  rw [byte_nat (by omega) (by omega), byte_nat (by omega) (by omega)]
  unfold Lib.decodeN
  rw [if_neg (by omega), if_pos (by omega), if_pos (by omega)]
  refine Prod.ext ?_ rfl
  simp only []
  omega
 ·have e : Lib.encodeRune c = [(224 + c / 4096).toNat.toUInt8, (128 + c / 64 % 64).toNat.toUInt8, (128 + c % 64).toNat.toUInt8] := by unfold Lib.encodeRune; rw [Lib.encodeRuneZ_three g]; rfl
  rw [e]
  simp only [List.cons_append, List.nil_append, List.getD_cons_zero, List.getD_cons_succ, List.length_cons, List.length_nil]
  rw [byte_nat (by omega) (by omega), byte_nat (by omega) (by omega), byte_nat (by omega) (by omega)]
  unfold Lib.decodeN
  rw [if_neg (by omega), if_neg (by omega), if_pos (by omega), if_pos (by omega)]
  refine Prod.ext ?_ rfl
  simp only []
  omega
 ·have e : Lib.encodeRune c = [(240 + c / 262144).toNat.toUInt8, (128 + c / 4096 % 64).toNat.toUInt8, (128 + c / 64 % 64).toNat.toUInt8, (128 + c % 64).toNat.toUInt8] := by unfold Lib.encodeRune; rw [Lib.encodeRuneZ_four g.1 g.2]; rfl
  rw [e]
  simp only [List.cons_append, List.nil_append, List.getD_cons_zero, List.getD_cons_succ, List.length_cons, List.length_nil]
  rw [byte_nat (by omega) (by omega), byte_nat (by omega) (by omega), byte_nat (by omega) (by omega), byte_nat (by omega) (by omega)]
  unfold Lib.decodeN
  rw [if_neg (by omega), if_neg (by omega), if_neg (by omega), if_pos (by omega), if_pos (by omega)]
  refine Prod.ext ?_ rfl
  simp only []
  omega
theorem enc_good {c : Int} (h : isRune c) (r : List UInt8) : ¬ ((Lib.decodeL (Lib.encodeRune c ++ r)).1 = 65533 ∧ (Lib.decodeL (Lib.encodeRune c ++ r)).2 = 1) := by
 rw [decodeL_enc h]
 rintro ⟨h1, h2⟩
 simp only at h1 h2
 have e : c = 65533 := by unfold isRune at h; omega
 rw [e] at h2
 have : (Lib.encodeRune 65533).length = 3 := by unfold Lib.encodeRune; rw [Lib.encodeRuneZ_three (by omega)]; rfl
 omega
theorem encodeRune_ne (c : Int) (r : List UInt8) : Lib.encodeRune c ++ r ≠ [] := by
 intro h
 have h1 := congrArg List.length h
 rw [List.length_append, List.length_nil] at h1
 have := encodeRune_length c
 omega
theorem validD_enc : ∀ (l : List Int), Runes l → ∀ r, Lib.validD (encB l ++ r) = Lib.validD r
 | [], _, _ => rfl
 | c :: l, h, r => by
  obtain ⟨hc, hl⟩ := h.cons
  rw [encB_cons, List.append_assoc, Lib.validD_step _ (encodeRune_ne _ _), if_neg (enc_good hc _), decodeL_enc hc]
  simp only [List.drop_left]
  exact validD_enc l hl r
theorem bytes_ext {a b : ByteArray} (h : a.data.toList = b.data.toList) : a = b := by
 cases a; cases b; simp at h; simp [h]
theorem validT_enc {l : List Int} (h : Runes l) : validT (enc l) = true := by
 unfold validT
 rw [enc_list]
 have := validD_enc l h []
 rw [List.append_nil] at this
 rw [this]; rfl
theorem decode_enc {l : List Int} (h : Runes l) (k : Nat) (hk : k < l.length) (p : Nat) (hp : p = (encB (l.take k)).length) :
  Utf8.decode (enc l) p = ((l.getD k 0).toNat, (Lib.encodeRune (l.getD k 0)).length) := by
 subst hp
 rw [← Lib.decodeL_drop, enc_list]
 have e : l = l.take k ++ (l.getD k 0 :: l.drop (k + 1)) := by
  rw [List.getD_eq_getElem?_getD, List.getElem?_eq_getElem hk, Option.getD_some, ← List.drop_eq_getElem_cons hk, List.take_append_drop]
 have e2 : encB l = encB (l.take k) ++ (Lib.encodeRune (l.getD k 0) ++ encB (l.drop (k + 1))) := by
  conv => lhs; rw [e]
  rw [encB_append, encB_cons]
 rw [e2, List.drop_left]
 exact decodeL_enc (h _ (by rw [List.getD_eq_getElem?_getD, List.getElem?_eq_getElem hk]; exact List.getElem_mem _)) _
theorem encB_take_succ {l : List Int} (k : Nat) (hk : k < l.length) : (encB (l.take (k + 1))).length = (encB (l.take k)).length + (Lib.encodeRune (l.getD k 0)).length := by
 rw [List.take_succ_eq_append_getElem hk, encB_append, List.length_append, List.getD_eq_getElem?_getD, List.getElem?_eq_getElem hk]
 simp [encB]
theorem encB_take_le (l : List Int) (k : Nat) : (encB (l.take k)).length ≤ (encB l).length := by
 conv => rhs; rw [← List.take_append_drop k l, encB_append, List.length_append]
 omega
theorem encB_take_lt {l : List Int} (k : Nat) (hk : k < l.length) : (encB (l.take k)).length < (encB l).length := by
 have h1 := encB_take_succ k hk
 have h2 := encB_take_le l (k + 1)
 have := encodeRune_length (l.getD k 0)
 omega
theorem posT_enc {l : List Int} (h : Runes l) : ∀ k, k ≤ l.length → posT (enc l) k = (encB (l.take k)).length
 | 0, _ => rfl
 | k + 1, hk => by
  have ih := posT_enc h k (by omega)
  have hlt := encB_take_lt (l := l) k (by omega)
  rw [posT, ih, if_pos (by rw [enc_size]; exact hlt), decode_enc h k (by omega) _ rfl, encB_take_succ k (by omega)]
theorem runeFrom_enc {l : List Int} (h : Runes l) (d : Nat) : ∀ k b, k ≤ l.length → l.length - k = d → (enc l).size ≤ posT (enc l) k + b → Lib.runeCountFrom (enc l) b (posT (enc l) k) = d := by
 induction d with
 | zero =>
  intro k b hk hd _
  obtain rfl : k = l.length := by omega
  have e := posT_enc h l.length (Nat.le_refl _)
  rw [List.take_length] at e
  exact Lib.runeCountFrom_end _ _ _ (by rw [e, enc_size]; omega)
 | succ d ih =>
  intro k b hk hd hb
  have e := posT_enc h k hk
  have hlt := encB_take_lt (l := l) k (by omega)
  have hw := encodeRune_length (l.getD k 0)
  cases b with
  | zero => rw [enc_size] at hb; omega
  | succ b =>
   have e1 := posT_enc h (k + 1) (by omega)
   rw [encB_take_succ k (by omega)] at e1
   unfold Lib.runeCountFrom
   rw [if_pos (by rw [e, enc_size]; exact hlt), decode_enc h k (by omega) _ e]
   simp only []
   rw [show posT (enc l) k + (Lib.encodeRune (l.getD k 0)).length = posT (enc l) (k + 1) from by omega, ih (k + 1) b (by omega) (by omega) (by omega)]
   omega
theorem runeCount_enc {l : List Int} (h : Runes l) : Lib.runeCount (enc l) = l.length :=
 runeFrom_enc h l.length 0 _ (Nat.zero_le _) rfl (by simp [posT])
theorem countT_enc {l : List Int} (h : Runes l) : countT (enc l) = (l.length : Int) := by
 unfold countT; rw [if_pos (validT_enc h), runeCount_enc h]
theorem enc_append (a b : List Int) : enc a ++ enc b = enc (a ++ b) := by
 apply bytes_ext
 rw [enc_list, encB_append]
 simp [enc]
end Go.Proofs.YtegjegihcebimaaDoor
end
