/- Texts as lists of code points: each text is the encoding of just one list; what is counted and cut of it. Plain laws, no program. -/
import Derived.Test.YtegjegihcebimaaDoorText
import Derived.Lib.QuoteLoop
namespace Go.Proofs.YtegjegihcebimaaDoor

/-- Is the number a code point? -/
def isRune (c : Int) : Prop := (0 ≤ c ∧ c < 55296) ∨ (57343 < c ∧ c ≤ 1114111)
instance (c : Int) : Decidable (isRune c) := inferInstanceAs (Decidable (_ ∨ _))
def Runes (l : List Int) : Prop := ∀ c ∈ l, isRune c
/-- The bytes of code points, one behind the other. -/
def encB (l : List Int) : List UInt8 := (l.map Lib.encodeRune).flatten
def enc (l : List Int) : ByteArray := ⟨(encB l).toArray⟩
theorem enc_list (l : List Int) : (enc l).data.toList = encB l := rfl
theorem enc_size (l : List Int) : (enc l).size = (encB l).length := by simp [enc, ByteArray.size]
theorem encB_nil : encB [] = [] := rfl
theorem encB_cons (c : Int) (l : List Int) : encB (c :: l) = Lib.encodeRune c ++ encB l := by simp [encB]
theorem encB_append (a b : List Int) : encB (a ++ b) = encB a ++ encB b := by simp [encB]
theorem Runes.cons {c : Int} {l : List Int} (h : Runes (c :: l)) : isRune c ∧ Runes l := ⟨h c (by simp), fun x hx => h x (by simp [hx])⟩
theorem Runes.take {l : List Int} (h : Runes l) (k : Nat) : Runes (l.take k) := fun c hc => h c (List.mem_of_mem_take hc)
theorem Runes.drop {l : List Int} (h : Runes l) (k : Nat) : Runes (l.drop k) := fun c hc => h c (List.mem_of_mem_drop hc)
theorem Runes.append {a b : List Int} (ha : Runes a) (hb : Runes b) : Runes (a ++ b) := fun c hc => by
  rcases List.mem_append.mp hc with h | h
  · exact ha c h
  · exact hb c h
theorem byte_nat {x : Int} (h0 : 0 ≤ x) (h1 : x < 256) : (x.toNat.toUInt8).toNat = x.toNat := by
  simp only [Nat.toUInt8, UInt8.toNat_ofNat']; omega
theorem encodeRune_length (c : Int) : 1 ≤ (Lib.encodeRune c).length ∧ (Lib.encodeRune c).length ≤ 4 := by
  unfold Lib.encodeRune; rw [List.length_map]; exact Lib.encodeRuneZ_length c

set_option maxHeartbeats 1000000 in
/-- A code point's bytes, with whatever behind, are decoded to it. -/
theorem decodeL_enc {c : Int} (h : isRune c) (r : List UInt8) : Lib.decodeL (Lib.encodeRune c ++ r) = (c.toNat, (Lib.encodeRune c).length) := by
  rw [Lib.decodeL_N]
  unfold isRune at h
  rcases (by omega : (0 ≤ c ∧ c ≤ 127) ∨ (128 ≤ c ∧ c ≤ 2047) ∨ ((2048 ≤ c ∧ c < 55296) ∨ (57343 < c ∧ c ≤ 65535)) ∨ (65536 ≤ c ∧ c ≤ 1114111)) with g | g | g | g
  · have e : Lib.encodeRune c = [c.toNat.toUInt8] := by unfold Lib.encodeRune; rw [Lib.encodeRuneZ_one g.1 g.2]; rfl
    rw [e]
    simp only [List.cons_append, List.nil_append, List.getD_cons_zero, List.length_cons, List.length_nil]
    rw [byte_nat (by omega) (by omega), Lib.decodeN_ascii _ _ _ _ _ (by omega)]
  · have e : Lib.encodeRune c = [(192 + c / 64).toNat.toUInt8, (128 + c % 64).toNat.toUInt8] := by unfold Lib.encodeRune; rw [Lib.encodeRuneZ_two g.1 g.2]; rfl
    rw [e]
    simp only [List.cons_append, List.nil_append, List.getD_cons_zero, List.getD_cons_succ, List.length_cons, List.length_nil]
    rw [byte_nat (by omega) (by omega), byte_nat (by omega) (by omega)]
    unfold Lib.decodeN
    rw [if_neg (by omega), if_pos (by omega), if_pos (by omega)]
    refine Prod.ext ?_ rfl
    simp only []
    omega
  · have e : Lib.encodeRune c = [(224 + c / 4096).toNat.toUInt8, (128 + c / 64 % 64).toNat.toUInt8, (128 + c % 64).toNat.toUInt8] := by unfold Lib.encodeRune; rw [Lib.encodeRuneZ_three g]; rfl
    rw [e]
    simp only [List.cons_append, List.nil_append, List.getD_cons_zero, List.getD_cons_succ, List.length_cons, List.length_nil]
    rw [byte_nat (by omega) (by omega), byte_nat (by omega) (by omega), byte_nat (by omega) (by omega)]
    unfold Lib.decodeN
    rw [if_neg (by omega), if_neg (by omega), if_pos (by omega), if_pos (by omega)]
    refine Prod.ext ?_ rfl
    simp only []
    omega
  · have e : Lib.encodeRune c = [(240 + c / 262144).toNat.toUInt8, (128 + c / 4096 % 64).toNat.toUInt8, (128 + c / 64 % 64).toNat.toUInt8, (128 + c % 64).toNat.toUInt8] := by unfold Lib.encodeRune; rw [Lib.encodeRuneZ_four g.1 g.2]; rfl
    rw [e]
    simp only [List.cons_append, List.nil_append, List.getD_cons_zero, List.getD_cons_succ, List.length_cons, List.length_nil]
    rw [byte_nat (by omega) (by omega), byte_nat (by omega) (by omega), byte_nat (by omega) (by omega), byte_nat (by omega) (by omega)]
    unfold Lib.decodeN
    rw [if_neg (by omega), if_neg (by omega), if_neg (by omega), if_pos (by omega), if_pos (by omega)]
    refine Prod.ext ?_ rfl
    simp only []
    omega
theorem enc_good {c : Int} (h : isRune c) (r : List UInt8) : ¬ ((Lib.decodeL (Lib.encodeRune c ++ r)).1 = 65533 ∧ (Lib.decodeL (Lib.encodeRune c ++ r)).2 = 1) := by
  rw [decodeL_enc h]
  rintro ⟨h1, h2⟩
  simp only at h1 h2
  have e : c = 65533 := by unfold isRune at h; omega
  rw [e] at h2
  have : (Lib.encodeRune 65533).length = 3 := by unfold Lib.encodeRune; rw [Lib.encodeRuneZ_three (by omega)]; rfl
  omega
theorem encodeRune_ne (c : Int) (r : List UInt8) : Lib.encodeRune c ++ r ≠ [] := by
  intro h
  have h1 := congrArg List.length h
  rw [List.length_append, List.length_nil] at h1
  have := encodeRune_length c
  omega
/-- What stands behind the bytes of code points settles whether all is a text. -/
theorem validD_enc : ∀ (l : List Int), Runes l → ∀ r, Lib.validD (encB l ++ r) = Lib.validD r
  | [], _, _ => rfl
  | c :: l, h, r => by
    obtain ⟨hc, hl⟩ := h.cons
    rw [encB_cons, List.append_assoc, Lib.validD_step _ (encodeRune_ne _ _), if_neg (enc_good hc _), decodeL_enc hc]
    simp only [List.drop_left]
    exact validD_enc l hl r
/-- Each text is the encoding of some code points. -/
theorem valid_runes : ∀ (n : Nat) (b : List UInt8), b.length ≤ n → Lib.validD b = true → ∃ l, Runes l ∧ b = encB l
  | 0, b, hn, _ => ⟨[], by intro c hc; simp at hc, by rw [encB_nil]; exact List.eq_nil_of_length_eq_zero (by omega)⟩
  | n + 1, b, hn, hv => by
    by_cases hne : b = []
    · exact ⟨[], by intro c hc; simp at hc, by rw [hne]; rfl⟩
    · rw [Lib.validD_step b hne] at hv
      by_cases g : (Lib.decodeL b).1 = 65533 ∧ (Lib.decodeL b).2 = 1
      · rw [if_pos g] at hv; cases hv
      · rw [if_neg g] at hv
        have hw := Lib.decodeL_width b
        obtain ⟨l, hl, e⟩ := valid_runes n (b.drop (Lib.decodeL b).2) (by rw [List.length_drop]; omega) hv
        refine ⟨((Lib.decodeL b).1 : Int) :: l, ?_, ?_⟩
        · intro c hc
          rcases List.mem_cons.mp hc with rfl | hc
          · have hz : (b.getD 0 0).toNat < 256 := (b.getD 0 0).toNat_lt
            have := Lib.decodeN_valid b.length (b.getD 0 0).toNat (b.getD 1 0).toNat (b.getD 2 0).toNat (b.getD 3 0).toNat hz
            rw [← Lib.decodeL_N] at this
            unfold isRune; omega
          · exact hl c hc
        · rw [encB_cons, Lib.encode_decode b hne g, ← e, List.take_append_drop]
theorem bytes_ext {a b : ByteArray} (h : a.data.toList = b.data.toList) : a = b := by
  cases a; cases b; simp at h; simp [h]
theorem text_runes {s : ByteArray} (h : validT s = true) : ∃ l, Runes l ∧ s = enc l := by
  obtain ⟨l, hl, e⟩ := valid_runes _ s.data.toList (Nat.le_refl _) h
  exact ⟨l, hl, bytes_ext (by rw [enc_list]; exact e)⟩
theorem validT_enc {l : List Int} (h : Runes l) : validT (enc l) = true := by
  unfold validT
  rw [enc_list]
  have := validD_enc l h []
  rw [List.append_nil] at this
  rw [this]; rfl
theorem decode_enc {l : List Int} (h : Runes l) (k : Nat) (hk : k < l.length) (p : Nat) (hp : p = (encB (l.take k)).length) :
    Utf8.decode (enc l) p = ((l.getD k 0).toNat, (Lib.encodeRune (l.getD k 0)).length) := by
  subst hp
  rw [← Lib.decodeL_drop, enc_list]
  have e : l = l.take k ++ (l.getD k 0 :: l.drop (k + 1)) := by
    rw [List.getD_eq_getElem?_getD, List.getElem?_eq_getElem hk, Option.getD_some, ← List.drop_eq_getElem_cons hk, List.take_append_drop]
  have e2 : encB l = encB (l.take k) ++ (Lib.encodeRune (l.getD k 0) ++ encB (l.drop (k + 1))) := by
    conv => lhs; rw [e]
    rw [encB_append, encB_cons]
  rw [e2, List.drop_left]
  exact decodeL_enc (h _ (by rw [List.getD_eq_getElem?_getD, List.getElem?_eq_getElem hk]; exact List.getElem_mem _)) _
theorem encB_take_succ {l : List Int} (k : Nat) (hk : k < l.length) : (encB (l.take (k + 1))).length = (encB (l.take k)).length + (Lib.encodeRune (l.getD k 0)).length := by
  rw [List.take_succ_eq_append_getElem hk, encB_append, List.length_append, List.getD_eq_getElem?_getD, List.getElem?_eq_getElem hk]
  simp [encB]
theorem encB_take_le (l : List Int) (k : Nat) : (encB (l.take k)).length ≤ (encB l).length := by
  conv => rhs; rw [← List.take_append_drop k l, encB_append, List.length_append]
  omega
theorem encB_take_lt {l : List Int} (k : Nat) (hk : k < l.length) : (encB (l.take k)).length < (encB l).length := by
  have h1 := encB_take_succ k hk
  have h2 := encB_take_le l (k + 1)
  have := encodeRune_length (l.getD k 0)
  omega
theorem posT_enc {l : List Int} (h : Runes l) : ∀ k, k ≤ l.length → posT (enc l) k = (encB (l.take k)).length
  | 0, _ => rfl
  | k + 1, hk => by
    have ih := posT_enc h k (by omega)
    have hlt := encB_take_lt (l := l) k (by omega)
    rw [posT, ih, if_pos (by rw [enc_size]; exact hlt), decode_enc h k (by omega) _ rfl, encB_take_succ k (by omega)]
theorem runeFrom_enc {l : List Int} (h : Runes l) (d : Nat) : ∀ k b, k ≤ l.length → l.length - k = d → (enc l).size ≤ posT (enc l) k + b → Lib.runeCountFrom (enc l) b (posT (enc l) k) = d := by
  induction d with
  | zero =>
    intro k b hk hd _
    obtain rfl : k = l.length := by omega
    have e := posT_enc h l.length (Nat.le_refl _)
    rw [List.take_length] at e
    exact Lib.runeCountFrom_end _ _ _ (by rw [e, enc_size]; omega)
  | succ d ih =>
    intro k b hk hd hb
    have e := posT_enc h k hk
    have hlt := encB_take_lt (l := l) k (by omega)
    have hw := encodeRune_length (l.getD k 0)
    cases b with
    | zero => rw [enc_size] at hb; omega
    | succ b =>
      have e1 := posT_enc h (k + 1) (by omega)
      rw [encB_take_succ k (by omega)] at e1
      unfold Lib.runeCountFrom
      rw [if_pos (by rw [e, enc_size]; exact hlt), decode_enc h k (by omega) _ e]
      simp only []
      rw [show posT (enc l) k + (Lib.encodeRune (l.getD k 0)).length = posT (enc l) (k + 1) from by omega, ih (k + 1) b (by omega) (by omega) (by omega)]
      omega
theorem runeCount_enc {l : List Int} (h : Runes l) : Lib.runeCount (enc l) = l.length :=
  runeFrom_enc h l.length 0 _ (Nat.zero_le _) rfl (by simp [posT])
theorem countT_enc {l : List Int} (h : Runes l) : countT (enc l) = (l.length : Int) := by
  unfold countT; rw [if_pos (validT_enc h), runeCount_enc h]
theorem extract_list (s : ByteArray) (a b : Nat) : (s.extract a b).data.toList = (s.data.toList.take b).drop a := by
  rw [ByteArray.data_extract, Array.toList_extract, List.extract_eq_take_drop, List.drop_take]
theorem cutT_enc {l : List Int} (h : Runes l) {i j : Int} (h0 : 0 ≤ i) (h1 : i ≤ j) (h2 : j ≤ l.length) : cutT (enc l) i j = enc ((l.take j.toNat).drop i.toNat) := by
  apply bytes_ext
  unfold cutT
  rw [extract_list, enc_list, enc_list, posT_enc h _ (by omega), posT_enc h _ (by omega)]
  have e1 : (encB l).take (encB (l.take j.toNat)).length = encB (l.take j.toNat) := by
    conv => lhs; rw [← List.take_append_drop j.toNat l, encB_append]
    rw [List.take_append_drop]
    exact List.take_left' rfl
  rw [e1]
  conv => lhs; rw [← List.take_append_drop i.toNat (l.take j.toNat), encB_append]
  rw [List.take_take, Nat.min_eq_left (by omega)]
  exact List.drop_left' rfl
theorem cutF_enc {l : List Int} (h : Runes l) {i j : Int} (h0 : 0 ≤ i) (h1 : i ≤ j) (h2 : j ≤ l.length) : cutF (enc l) i j = (enc ((l.take j.toNat).drop i.toNat), 0) := by
  unfold cutF
  rw [countT_enc h, if_neg (by omega), if_neg (by omega), cutT_enc h h0 h1 h2]
theorem cutF_range {l : List Int} (h : Runes l) {i j : Int} (h0 : i < 0 ∨ j < i ∨ (l.length : Int) < j) : cutF (enc l) i j = (⟨#[]⟩, 6) := by
  unfold cutF
  rw [countT_enc h, if_neg (by omega), if_pos h0]
theorem enc_append (a b : List Int) : enc a ++ enc b = enc (a ++ b) := by
  apply bytes_ext
  rw [enc_list, encB_append]
  simp [enc]
theorem enc_inj {a b : List Int} (ha : Runes a) (hb : Runes b) (h : enc a = enc b) : a = b := by
  have h2 : encB a = encB b := by rw [← enc_list, h, enc_list]
  clear h
  induction a generalizing b with
  | nil =>
    cases b with
    | nil => rfl
    | cons c b => rw [encB_cons, encB_nil] at h2; exact absurd h2.symm (encodeRune_ne _ _)
  | cons c a ih =>
    cases b with
    | nil => rw [encB_cons, encB_nil] at h2; exact absurd h2 (encodeRune_ne _ _)
    | cons d b =>
      obtain ⟨hc, ha2⟩ := ha.cons
      obtain ⟨hd, hb2⟩ := hb.cons
      rw [encB_cons, encB_cons] at h2
      have k1 := decodeL_enc hc (encB a)
      have k2 := decodeL_enc hd (encB b)
      rw [h2, k2] at k1
      have e : d = c := by
        have := (Prod.ext_iff.mp k1).1
        simp only at this
        unfold isRune at hc hd; omega
      subst e
      rw [ih ha2 hb2 (List.append_cancel_left h2)]
end Go.Proofs.YtegjegihcebimaaDoor
