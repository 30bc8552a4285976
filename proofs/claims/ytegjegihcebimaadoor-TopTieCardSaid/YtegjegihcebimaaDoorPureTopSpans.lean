/- What the functions of spans compute on spans that may be. -/
import Derived.Test.YtegjegihcebimaaDoorPx7
import Derived.Test.YtegjegihcebimaaDoorPx8
import Derived.Test.YtegjegihcebimaaDoorPx2
import Derived.Test.YtegjegihcebimaaDoorPx9
import Derived.Test.YtegjegihcebimaaDoorPx11
import Derived.Test.YtegjegihcebimaaDoorPx19
import Derived.Test.YtegjegihcebimaaDoorPureTopFit
namespace Go.Proofs.YtegjegihcebimaaDoor.Pure
open Go.RowKit Go.Proofs.YtegjegihcebimaaDoor.P Go.Proofs.YtegjegihcebimaaDoorW.PrintWords Go.Proofs.YtegjegihcebimaaDoorW.PrintLast Go.Proofs.YtegjegihcebimaaDoorW.PrintMore

theorem up {α : Type} {f : Nat → Option α} (h : ∀ k, LeO (f k) (f (k + 1))) {k k' : Nat} (hk : k ≤ k') {r : α} (e : f k = some r) : f k' = some r := by
  induction hk with
  | refl => exact e
  | step _ ih => exact h _ _ ih
theorem fit_top (s : ByteArray) (h0 : 1 ≤ s.size) (h : s.size ≤ 9) (k : Nat) (hk : 20 ≤ k) : ∃ l, epitomeref01_Fit.f k s = some (enc l) ∧ Runes l ∧ l ≠ [] ∧ l.length ≤ 9 ∧ (enc l).size ≤ 36 := by
  have hl := epitomeref01_Fit.len s
  refine ⟨epitomeref01_Fit.l s, ?_, fit_rune s, fun e => by rw [e] at hl; simp at hl; omega, by omega, ?_⟩
  · unfold epitomeref01_Fit.f
    rw [if_pos (by omega), refOf _ (by omega) _ _ (by omega), filter_runes (fit_rune s)]
    intro x hx
    have := fit_rune s x hx
    unfold isRune at this; omega
  · have := ofB_len (epitomeref01_Fit.l s)
    rw [← filter_runes (fit_rune s), ← ofB_str, strOfNums_size]
    omega
/-! ### Code points, there and back -/
theorem u8_of {m : Nat} {x : Int} (h : x = (m : Int)) : UInt8.ofNat m = x.toNat.toUInt8 := by subst h; rfl
theorem encode_rune {c : Int} (h : isRune c) : Utf8.encode c = enc [c] := by
  apply bytes_ext
  rw [enc_list, encB_cons, encB_nil, List.append_nil]
  obtain ⟨m, rfl⟩ : ∃ m : Nat, c = (m : Int) := ⟨c.toNat, by unfold isRune at h; omega⟩
  have v : Utf8.valid (m : Int) = true := by unfold isRune at h; simp [Utf8.valid]; omega
  unfold isRune at h
  unfold Lib.encodeRune
  by_cases c1 : m < 128
  · rw [Lib.encodeRuneZ_one (by omega) (by omega)]
    simp only [Utf8.encode, v, if_true, Int.toNat_natCast, if_pos c1, List.map_cons, List.map_nil]
  by_cases c2 : m < 2048
  · rw [Lib.encodeRuneZ_two (by omega) (by omega)]
    simp only [Utf8.encode, v, if_true, Int.toNat_natCast, if_neg c1, if_pos c2, List.map_cons, List.map_nil]
    rw [← u8_of (m := 192 + m / 64) (by omega), ← u8_of (m := 128 + m % 64) (by omega)]
  by_cases c3 : m < 65536
  · rw [Lib.encodeRuneZ_three (by omega)]
    simp only [Utf8.encode, v, if_true, Int.toNat_natCast, if_neg c1, if_neg c2, if_pos c3, List.map_cons, List.map_nil]
    rw [← u8_of (m := 224 + m / 4096) (by omega), ← u8_of (m := 128 + m / 64 % 64) (by omega), ← u8_of (m := 128 + m % 64) (by omega)]
  · rw [Lib.encodeRuneZ_four (by omega) (by omega)]
    simp only [Utf8.encode, v, if_true, Int.toNat_natCast, if_neg c1, if_neg c2, if_neg c3, List.map_cons, List.map_nil]
    rw [← u8_of (m := 240 + m / 262144) (by omega), ← u8_of (m := 128 + m / 4096 % 64) (by omega), ← u8_of (m := 128 + m / 64 % 64) (by omega), ← u8_of (m := 128 + m % 64) (by omega)]
theorem runesBytes_go : ∀ (l : List Int), Runes l → ∀ (b : List Int), (l.foldl (fun r n => r ++ Utf8.encode n) (enc b)) = enc (b ++ l)
  | [], _, b => by simp
  | c :: l, h, b => by
    rw [List.foldl_cons, encode_rune h.cons.1, enc_append, runesBytes_go l h.cons.2]
    simp
theorem runesBytes_enc {l : List Int} (h : Runes l) : runesBytes l = enc l := runesBytes_go l h []
theorem runesP_enc {l : List Int} (h : Runes l) : ∀ (d k b : Nat), l.length - k = d → k ≤ l.length → (enc l).size ≤ (encB (l.take k)).length + b → runesP (enc l) b (encB (l.take k)).length = l.drop k := by
  intro d
  induction d with
  | zero =>
    intro k b hd hk hb
    rw [List.drop_of_length_le (by omega), List.take_of_length_le (by omega)]
    cases b with
    | zero => rfl
    | succ b => rw [runesP, if_neg (by rw [enc_size]; omega)]
  | succ d ih =>
    intro k b hd hk hb
    have hlt := encB_take_lt (l := l) k (by omega)
    have hs := encB_take_succ (l := l) k (by omega)
    have h1 := (encodeRune_length (l.getD k 0)).1
    rw [enc_size] at hb
    cases b with
    | zero => omega
    | succ b =>
      have e : l.getD k 0 = l[k] := by rw [List.getD_eq_getElem?_getD, List.getElem?_eq_getElem (by omega)]; rfl
      have h0 : 0 ≤ l[k] := by have := h _ (List.getElem_mem (l := l) (n := k) (by omega)); unfold isRune at this; omega
      rw [runesP, if_pos (by rw [enc_size]; exact hlt), decode_enc h k (by omega) _ rfl]
      show ((l.getD k 0).toNat : Int) :: runesP (enc l) b ((encB (l.take k)).length + (Lib.encodeRune (l.getD k 0)).length) = _
      rw [← hs, ih (k + 1) b (by omega) (by omega) (by rw [enc_size]; omega), List.drop_eq_getElem_cons (show k < l.length by omega), e, Int.toNat_of_nonneg h0]
theorem runes_enc {l : List Int} (h : Runes l) : runesS (enc l) = l := by
  have := runesP_enc h l.length 0 (enc l).size rfl (Nat.zero_le _) (by simp [encB])
  simpa [encB, runesS] using this
/-! ### Spans -/
abbrev sK (n : Int) : S25 := ⟨1, n, ⟨#[]⟩⟩
abbrev sD (n : Int) : S25 := ⟨3, n, ⟨#[]⟩⟩
abbrev sI (l : List Int) : S25 := ⟨2, 0, enc l⟩
theorem emp_enc : (⟨#[]⟩ : ByteArray) = enc [] := rfl
theorem runes_emp : runesS ⟨#[]⟩ = [] := rfl
theorem enc_toList (l : List Int) : (enc l).toList = encB l := by rw [ByteArray.toList_eq]; rfl
theorem encB_ne {l : List Int} (h : l ≠ []) : encB l ≠ [] := by
  cases l with
  | nil => exact absurd rfl h
  | cons c l => rw [encB_cons]; exact encodeRune_ne _ _
theorem e_num (a n : Int) : normal_Of.e ⟨a, n, ⟨#[]⟩⟩ = decide (n = 0) := by
  unfold normal_Of.e
  rw [emp_enc, enc_toList, encB_nil]; simp
theorem e_text (a n : Int) {l : List Int} (h : l ≠ []) : normal_Of.e ⟨a, n, enc l⟩ = false := by
  unfold normal_Of.e
  rw [enc_toList]; simp [encB_ne h]
/-- A span that may be. -/
def okS (x : S25) : Prop := ((x.f0 = 1 ∨ x.f0 = 3) ∧ 0 ≤ x.f1 ∧ x.f1 ≤ 1048576 ∧ x.f2 = ⟨#[]⟩) ∨ (x.f0 = 2 ∧ x.f1 = 0 ∧ ∃ l, Runes l ∧ x.f2 = enc l ∧ (enc l).size ≤ 9999)
theorem okK {n : Int} (h0 : 0 ≤ n) (h1 : n ≤ 1048576) : okS (sK n) := .inl ⟨.inl rfl, h0, h1, rfl⟩
theorem okD {n : Int} (h0 : 0 ≤ n) (h1 : n ≤ 1048576) : okS (sD n) := .inl ⟨.inr rfl, h0, h1, rfl⟩
theorem okI {l : List Int} (h : Runes l) (h1 : (enc l).size ≤ 9999) : okS (sI l) := .inr ⟨rfl, rfl, l, h, rfl, h1⟩
theorem may_s {x : S25} (h : okS x) : span_May.f 3 x.f0 x.f1 x.f2 = some 0 := by
  obtain ⟨a, n, t⟩ := x
  rcases h with ⟨ha, h0, h1, ht⟩ | ⟨ha, h0, l, hl, ht, hs⟩
  · simp only at ha h0 h1 ht
    subst ht
    have e1 : ¬ n < 0 := by omega
    have e2 : ¬ n > 1048576 := by omega
    have e4 : points_Valid.f ⟨#[]⟩ = some true := by rw [emp_enc]; exact valid_ok (fun _ h => by cases h) (by decide)
    rcases ha with rfl | rfl <;> simp [span_May.f, span_of.f, span_May.j0, span_May.j1, span_May.j2, e1, e2, e4]
  · simp only at ha h0 ht
    subst ha h0 ht
    simp [span_May.f, span_of.f, span_May.j0, span_May.j1, span_May.j2, valid_ok hl hs]
theorem may_l {l : List S25} (h : ∀ x ∈ l, okS x) {m : Int} (hm : op_In.f l = some m) (hb : m ≤ 1048576) (hl : l.length ≤ 1000) (k : Nat) (hk : l.length + 4 ≤ k) : op_May.f k l = some 0 := by
  have go : ∀ (d i k : Nat), l.length - i = d → i ≤ l.length → d + 4 ≤ k → op_May.l0 k l l (l.length : Int) (i : Int) = some 0 := by
    intro d
    induction d with
    | zero =>
      intro i k hd hi hk
      obtain ⟨k, rfl⟩ : ∃ j, k = j + 1 := ⟨k - 1, by omega⟩
      rw [op_May.l0, if_neg (by omega), hm, Option.bind_some, if_neg (by omega)]
    | succ d ih =>
      intro i k hd hi hk
      obtain ⟨k, rfl⟩ : ∃ j, k = j + 1 := ⟨k - 1, by omega⟩
      have hx : okS (rd_T25 l (i : Int)) := by
        unfold rd_T25
        rw [Int.toNat_natCast, List.getD_eq_getElem?_getD, List.getElem?_eq_getElem (by omega)]
        exact h _ (List.getElem_mem _)
      rw [op_May.l0, if_pos (by omega), if_pos (by omega), if_pos (by omega), up (span_May.mono _ _ _) (by omega : 3 ≤ k) (may_s hx), Option.bind_some, if_pos rfl, w64 (by omega) (by omega), show (i : Int) + 1 = ((i + 1 : Nat) : Int) by omega]
      exact ih (i + 1) k (by omega) (by omega) (by omega)
  exact go _ 0 k rfl (Nat.zero_le _) (by omega)
theorem normal_ok {l : List S25} (hl : l.length < 1000000000) (ht : normal_Of.t l < 140737488355328) : normal_Of.f l = some (normal_Of.n l) := if_pos ⟨hl, ht⟩
theorem span_out {x : S25} (h : okS x) : span_Out.f x.f0 x.f1 x.f2 = some (if x.f0 = 1 then x.f1 else if x.f0 = 2 then ((runesS x.f2).length : Int) else 0) := by
  obtain ⟨a, n, t⟩ := x
  rcases h with ⟨ha, h0, h1, ht⟩ | ⟨ha, h0, l, hl, ht, hs⟩
  · simp only at ha h0 h1 ht
    rcases ha with rfl | rfl <;> simp [span_Out.f, span_of.f]
  · simp only at ha h0 ht
    subst ha h0 ht
    simp [span_Out.f, span_of.f, count_ok hl hs, runes_enc hl, mx]
    intro hn; omega
theorem out_I {l : List Int} (hl : Runes l) (hs : (enc l).size ≤ 9999) : span_Out.f 2 0 (enc l) = some (l.length : Int) := by
  have := span_out (okI hl hs)
  simpa [runes_enc hl] using this
theorem okK1 : okS (sK 1) := okK (by decide) (by decide)
theorem okD1 : okS (sD 1) := okD (by decide) (by decide)
theorem oks {x : S25} {l : List S25} (h : okS x) (hl : ∀ y ∈ l, okS y) : ∀ y ∈ x :: l, okS y := List.forall_mem_cons.2 ⟨h, hl⟩
theorem oks0 : ∀ y ∈ ([] : List S25), okS y := fun _ h => by cases h
theorem emp_app : (⟨#[]⟩ : ByteArray) ++ ⟨#[]⟩ = ⟨#[]⟩ := rfl
theorem emp_size : (⟨#[]⟩ : ByteArray).size = 0 := rfl
theorem enc_len : ∀ l : List Int, l.length ≤ (encB l).length
  | [] => by simp
  | c :: l => by rw [encB_cons, List.length_append, List.length_cons]; have := (encodeRune_length c).1; have := enc_len l; omega
/-- What each sum tells of spans that may be. -/
theorem in_ok {m : Int} {l : List S25} (h : (l.map fun x => if x.f0 = 1 ∨ x.f0 = 3 then x.f1 else 0).sum = m) (hl : ∀ x ∈ l, okS x) (hn : l.length ≤ 1000) : op_In.f l = some m := by
  have go : ∀ (l : List S25) (a : Int), (∀ x ∈ l, okS x) → 0 ≤ a → a + 1048576 * (l.length : Int) ≤ 1000000000000 → op_sum.l (fun x : S25 => span_In.f x.f0 x.f1 x.f2) a l = some (a + (l.map fun x => if x.f0 = 1 ∨ x.f0 = 3 then x.f1 else 0).sum) := by
    intro l
    induction l with
    | nil => intro a _ _ _; simp [op_sum.l]
    | cons x l ih =>
      intro a hx h0 ha
      obtain ⟨h1, hl⟩ := List.forall_mem_cons.1 hx
      have e : span_In.f x.f0 x.f1 x.f2 = some (if x.f0 = 1 ∨ x.f0 = 3 then x.f1 else 0) := by
        rcases h1 with ⟨ha | ha, _⟩ | ⟨ha, _⟩ <;> simp [span_In.f, span_of.f, ha]
      have b : 0 ≤ (if x.f0 = 1 ∨ x.f0 = 3 then x.f1 else 0) ∧ (if x.f0 = 1 ∨ x.f0 = 3 then x.f1 else 0) ≤ 1048576 := by
        rcases h1 with ⟨_, h0, h1, _⟩ | ⟨ha, h0, _⟩
        · split <;> omega
        · split <;> omega
      rw [List.length_cons] at ha
      rw [op_sum.l, e, Option.bind_some, w64 (by omega) (by omega), ih _ hl (by omega) (by omega), List.map_cons, List.sum_cons]
      congr 1; omega
  unfold op_In.f
  rw [if_pos (by omega), go l 0 hl (by omega) (by omega), ← h]
  simp
theorem out_ok {m : Int} {l : List S25} (h : (l.map fun x => if x.f0 = 1 then x.f1 else if x.f0 = 2 then ((runesS x.f2).length : Int) else 0).sum = m) (hl : ∀ x ∈ l, okS x) (hn : l.length ≤ 1000) : op_Out.f l = some m := by
  have go : ∀ (l : List S25) (a : Int), (∀ x ∈ l, okS x) → 0 ≤ a → a + 1048576 * (l.length : Int) ≤ 1000000000000 → op_sum.l (fun x : S25 => span_Out.f x.f0 x.f1 x.f2) a l = some (a + (l.map fun x => if x.f0 = 1 then x.f1 else if x.f0 = 2 then ((runesS x.f2).length : Int) else 0).sum) := by
    intro l
    induction l with
    | nil => intro a _ _ _; simp [op_sum.l]
    | cons x l ih =>
      intro a hx h0 ha
      obtain ⟨h1, hl⟩ := List.forall_mem_cons.1 hx
      have b : 0 ≤ (if x.f0 = 1 then x.f1 else if x.f0 = 2 then ((runesS x.f2).length : Int) else 0) ∧ (if x.f0 = 1 then x.f1 else if x.f0 = 2 then ((runesS x.f2).length : Int) else 0) ≤ 1048576 := by
        rcases h1 with ⟨_, h0, h1, _⟩ | ⟨ha, h0, t, ht, et, hs⟩
        · split
          · omega
          · split
            · omega
            · omega
        · rw [if_neg (by omega), if_pos ha, et, runes_enc ht]
          have := enc_size t
          have h3 := enc_len t
          omega
      rw [List.length_cons] at ha
      rw [op_sum.l, span_out h1, Option.bind_some, w64 (by omega) (by omega), ih _ hl (by omega) (by omega), List.map_cons, List.sum_cons]
      congr 1; omega
  unfold op_Out.f
  rw [if_pos (by omega), go l 0 hl (by omega) (by omega), ← h]
  simp
theorem comp_ok {k : Nat} {a b xa xb out r : List S25} {m n : Int} (ha : ∀ x ∈ a, okS x) (hb : ∀ x ∈ b, okS x) (ia : op_In.f a = some m) (hm : m ≤ 1048576) (ib : op_In.f b = some n) (hn : n ≤ 1048576) (oa : op_Out.f a = some n)
    (la : a.length ≤ 20) (lb : b.length ≤ 20) (ta : normal_Of.t a ≤ 1000) (tb : normal_Of.t b ≤ 1000) (na : normal_Of.n a = xa) (nb : normal_Of.n b = xb) (hl : compose_Of.l k xa (loadT xa) xb (loadT xb) [] = some out) (no : normal_Of.n out = r) (lo : out.length ≤ 20) (tt : normal_Of.t out ≤ 1000) (hk : 30 ≤ k) :
    compose_Of.f k a b = some (r, 0) := by
  unfold compose_Of.f
  rw [may_l ha ia hm (by omega) k (by omega), Option.bind_some, if_pos rfl, may_l hb ib hn (by omega) k (by omega), Option.bind_some, if_pos rfl, oa, Option.bind_some, ib, Option.bind_some, if_pos rfl, if_pos (by omega), na, nb, hl, Option.bind_some,
    normal_ok (by omega) (by omega), no]
  rfl
theorem over_ok {k : Nat} {a b xa xb out r : List S25} {m : Int} (ha : ∀ x ∈ a, okS x) (hb : ∀ x ∈ b, okS x) (ia : op_In.f a = some m) (hm : m ≤ 1048576) (ib : op_In.f b = some m)
    (la : a.length ≤ 20) (lb : b.length ≤ 20) (ta : normal_Of.t a ≤ 1000) (tb : normal_Of.t b ≤ 1000) (na : normal_Of.n a = xa) (nb : normal_Of.n b = xb) (hl : over_Of.l k xa xb [] = some out) (no : normal_Of.n out = r) (lo : out.length ≤ 20) (tt : normal_Of.t out ≤ 1000) (hk : 30 ≤ k) :
    over_Of.f k a b = some (r, 0) := by
  unfold over_Of.f
  rw [may_l ha ia hm (by omega) k (by omega), Option.bind_some, if_pos rfl, may_l hb ib hm (by omega) k (by omega), Option.bind_some, if_pos rfl, ia, Option.bind_some, ib, Option.bind_some, if_pos rfl, normal_ok (by omega) (by omega), Option.bind_some, na, normal_ok (by omega) (by omega), Option.bind_some, nb, hl, Option.bind_some,
    normal_ok (by omega) (by omega), no]
  rfl
theorem to_ok {k : Nat} {a : List S25} {s o : List Int} (ha : ∀ x ∈ a, okS x) (ia : op_In.f a = some (s.length : Int)) (hs : Runes s) (hz : (enc s).size ≤ 9999) (hm : s.length ≤ 1048576) (la : a.length ≤ 20) (hl : apply_To.l a s [] = some o) (ho : Runes o) (hk : 30 ≤ k) :
    apply_To.f k a (enc s) = some (enc o, 0) := by
  unfold apply_To.f
  rw [may_l ha ia (by omega) (by omega) k (by omega), Option.bind_some, if_pos rfl, count_ok hs hz, Option.bind_some, if_neg (by omega), ia, Option.bind_some, if_pos rfl, if_pos (by omega), runes_enc hs, hl, Option.bind_some, runesBytes_enc ho]
/-! ### compose's steps -/
def restN (f a m : Int) (s : ByteArray) (l : List S25) : List S25 := if a = m then l else ⟨f, a - m, s⟩ :: l
def restT (a m : Int) (l : List S25) : List Int := if a = m then loadT l else []
theorem cl_end (k : Nat) (xl yl : List S25) (xt yt : List Int) (out : List S25) (ho : out.length < 1000000000) (h2 : kindT yl ≠ 2) (h3 : kindT xl ≠ 3) (h : kindT xl = 0 ∨ kindT yl = 0) : compose_Of.l (k + 1) xl xt yl yt out = some out := by
  rw [compose_Of.l, if_pos ho, if_neg h2, if_neg h3]
  split
  · rfl
  · rw [if_pos (h.resolve_left (by assumption))]
theorem kindT_cons (x : S25) (l : List S25) : kindT (x :: l) = x.f0 := rfl
theorem kne (f a : Int) (s : ByteArray) (l : List S25) (n : Int) (h : f ≠ n) : ¬ kindT (⟨f, a, s⟩ :: l) = n := h
theorem cl_put (k : Nat) (xl ys : List S25) (xt yt : List Int) (s : ByteArray) (out : List S25) (hy : Runes yt) (hn : yt.length ≤ 1000000) (ho : out.length < 1000000000) :
    compose_Of.l (k + 1) xl xt (⟨2, 0, s⟩ :: ys) yt out = compose_Of.l k xl xt ys (loadT ys) (out ++ [sI yt]) := by
  rw [compose_Of.l, if_pos ho]
  simp only [kindT_cons]
  rw [if_pos trivial, compose_Of.sz, Option.bind_some, compose_Of.tk, if_pos rfl]
  rw [w64 (x := 0 + (yt.length : Int)) (by omega) (by omega), if_pos (by omega), Option.bind_some, Int.zero_add, Int.toNat_natCast, List.take_length, List.drop_length, runesBytes_enc hy]
  simp [wrap64]
theorem cl_drop (k : Nat) (xs yl : List S25) (yt : List Int) (n : Int) (s : ByteArray) (out : List S25) (h0 : 0 ≤ n) (hn : n ≤ 1048576) (hy : kindT yl ≠ 2) (ho : out.length < 1000000000) :
    compose_Of.l (k + 1) (⟨3, n, s⟩ :: xs) [] yl yt out = compose_Of.l k xs (loadT xs) yl yt (out ++ [sD n]) := by
  rw [compose_Of.l, if_pos ho]
  simp only [kindT_cons]
  rw [if_neg hy, if_pos trivial, compose_Of.sz, Option.bind_some, compose_Of.tk, if_neg (show ¬ (3 : Int) = 2 by decide)]
  have e : wrap64 (n + (([] : List Int).length : Int)) = n := by rw [w64 (by simp; omega) (by simp; omega)]; simp
  rw [e, Option.bind_some, Int.sub_self]
  simp [wrap64]
theorem mn_le (a b : Int) : mn a b ≤ a ∧ mn a b ≤ b ∧ (mn a b = a ∨ mn a b = b) := by unfold mn; split <;> omega
theorem tk_num {f a m : Int} {s : ByteArray} {l : List S25} (hf : f ≠ 2) (h0 : 0 ≤ m) (h1 : m ≤ a) (ha : a ≤ 1048576) : compose_Of.tk (⟨f, a, s⟩ :: l) [] m = some (⟨f, m, ⟨#[]⟩⟩, restN f a m s l, restT a m l) := by
  rw [compose_Of.tk, if_neg hf]
  have e : wrap64 (a - m) = a - m := w64 (by omega) (by omega)
  have e2 : wrap64 (a - m + (([] : List Int).length : Int)) = a - m := by rw [w64 (by simp; omega) (by simp; omega)]; simp
  simp only [e, e2, restN, restT]
  by_cases c : a = m
  · subst c; simp
  · have c2 : ¬ a - m = 0 := by omega
    simp only [c, c2, if_false]
theorem tk_text {m : Int} {s : ByteArray} {l : List S25} {t : List Int} (ht : Runes t) (hn : t.length ≤ 1000000) (h0 : 0 ≤ m) (h1 : m ≤ (t.length : Int)) : compose_Of.tk (⟨2, 0, s⟩ :: l) t m = some (sI (t.take m.toNat), (if (t.length : Int) = m then l else ⟨2, 0, s⟩ :: l), (if (t.length : Int) = m then loadT l else t.drop m.toNat)) := by
  rw [compose_Of.tk, if_pos rfl, if_pos ⟨h0, h1⟩, runesBytes_enc (ht.take _)]
  have d : ((t.drop m.toNat).length : Int) = (t.length : Int) - m := by rw [List.length_drop]; omega
  have e : wrap64 (0 + ((t.drop m.toNat).length : Int)) = (t.length : Int) - m := by rw [d, Int.zero_add]; exact w64 (by omega) (by omega)
  show some (_, (if wrap64 (0 + ((t.drop m.toNat).length : Int)) = 0 then l else _), (if wrap64 (0 + ((t.drop m.toNat).length : Int)) = 0 then _ else _)) = _
  rw [e]
  by_cases c : (t.length : Int) = m
  · rw [if_pos c, if_pos c, if_pos (by omega), if_pos (by omega)]
  · rw [if_neg c, if_neg c, if_neg (by omega), if_neg (by omega)]
theorem sz_num {f a : Int} {s : ByteArray} {l : List S25} (h0 : 0 ≤ a) (h1 : a ≤ 1048576) : compose_Of.sz (⟨f, a, s⟩ :: l) [] = some a := by
  rw [compose_Of.sz, w64 (by simp; omega) (by simp; omega)]; simp
theorem sz_text {s : ByteArray} {l : List S25} {t : List Int} (hn : t.length ≤ 1000000) : compose_Of.sz (⟨2, 0, s⟩ :: l) t = some (t.length : Int) := by
  show some (wrap64 (0 + (t.length : Int))) = _
  rw [w64 (by omega) (by omega), Int.zero_add]
theorem cl_KK (k : Nat) (xs ys : List S25) (a b : Int) (s t : ByteArray) (out : List S25) (ha : 0 ≤ a) (ha1 : a ≤ 1048576) (hb : 0 ≤ b) (hb1 : b ≤ 1048576) (ho : out.length < 1000000000) :
    compose_Of.l (k + 1) (⟨1, a, s⟩ :: xs) [] (⟨1, b, t⟩ :: ys) [] out = compose_Of.l k (restN 1 a (mn a b) s xs) (restT a (mn a b) xs) (restN 1 b (mn a b) t ys) (restT b (mn a b) ys) (out ++ [sK (mn a b)]) := by
  have m := mn_le a b
  rw [compose_Of.l, if_pos ho, if_neg (kne 1 b t ys 2 (by decide)), if_neg (kne 1 a s xs 3 (by decide)), if_neg (kne 1 a s xs 0 (by decide)), if_neg (kne 1 b t ys 0 (by decide)), sz_num ha ha1, Option.bind_some, sz_num hb hb1, Option.bind_some,
    tk_num (by decide) (by omega) m.1 ha1, Option.bind_some, tk_num (by decide) (by omega) m.2.1 hb1, Option.bind_some, if_pos rfl]
theorem cl_KD (k : Nat) (xs ys : List S25) (a b : Int) (s t : ByteArray) (out : List S25) (ha : 0 ≤ a) (ha1 : a ≤ 1048576) (hb : 0 ≤ b) (hb1 : b ≤ 1048576) (ho : out.length < 1000000000) :
    compose_Of.l (k + 1) (⟨1, a, s⟩ :: xs) [] (⟨3, b, t⟩ :: ys) [] out = compose_Of.l k (restN 1 a (mn a b) s xs) (restT a (mn a b) xs) (restN 3 b (mn a b) t ys) (restT b (mn a b) ys) (out ++ [sD (mn a b)]) := by
  have m := mn_le a b
  rw [compose_Of.l, if_pos ho, if_neg (kne 3 b t ys 2 (by decide)), if_neg (kne 1 a s xs 3 (by decide)), if_neg (kne 1 a s xs 0 (by decide)), if_neg (kne 3 b t ys 0 (by decide)), sz_num ha ha1, Option.bind_some, sz_num hb hb1, Option.bind_some,
    tk_num (by decide) (by omega) m.1 ha1, Option.bind_some, tk_num (by decide) (by omega) m.2.1 hb1, Option.bind_some, if_neg (show ¬ (3 : Int) = 1 by decide), if_pos rfl]
theorem cl_IK (k : Nat) (xs ys : List S25) (xt : List Int) (b : Int) (s t : ByteArray) (out : List S25) (hx : Runes xt) (hn : xt.length ≤ 1000000) (hb : 0 ≤ b) (hb1 : b ≤ 1048576) (ho : out.length < 1000000000) :
    compose_Of.l (k + 1) (⟨2, 0, s⟩ :: xs) xt (⟨1, b, t⟩ :: ys) [] out = compose_Of.l k (if (xt.length : Int) = mn xt.length b then xs else ⟨2, 0, s⟩ :: xs) (if (xt.length : Int) = mn xt.length b then loadT xs else xt.drop (mn xt.length b).toNat) (restN 1 b (mn xt.length b) t ys) (restT b (mn xt.length b) ys) (out ++ [sI (xt.take (mn xt.length b).toNat)]) := by
  have m := mn_le xt.length b
  rw [compose_Of.l, if_pos ho, if_neg (kne 1 b t ys 2 (by decide)), if_neg (kne 2 0 s xs 3 (by decide)), if_neg (kne 2 0 s xs 0 (by decide)), if_neg (kne 1 b t ys 0 (by decide)), sz_text hn, Option.bind_some, sz_num hb hb1, Option.bind_some,
    tk_text hx hn (by omega) m.1, Option.bind_some, tk_num (by decide) (by omega) m.2.1 hb1, Option.bind_some, if_pos rfl]
theorem cl_ID (k : Nat) (xs ys : List S25) (xt : List Int) (b : Int) (s t : ByteArray) (out : List S25) (hx : Runes xt) (hn : xt.length ≤ 1000000) (hb : 0 ≤ b) (hb1 : b ≤ 1048576) (ho : out.length < 1000000000) :
    compose_Of.l (k + 1) (⟨2, 0, s⟩ :: xs) xt (⟨3, b, t⟩ :: ys) [] out = compose_Of.l k (if (xt.length : Int) = mn xt.length b then xs else ⟨2, 0, s⟩ :: xs) (if (xt.length : Int) = mn xt.length b then loadT xs else xt.drop (mn xt.length b).toNat) (restN 3 b (mn xt.length b) t ys) (restT b (mn xt.length b) ys) out := by
  have m := mn_le xt.length b
  rw [compose_Of.l, if_pos ho, if_neg (kne 3 b t ys 2 (by decide)), if_neg (kne 2 0 s xs 3 (by decide)), if_neg (kne 2 0 s xs 0 (by decide)), if_neg (kne 3 b t ys 0 (by decide)), sz_text hn, Option.bind_some, sz_num hb hb1, Option.bind_some,
    tk_text hx hn (by omega) m.1, Option.bind_some, tk_num (by decide) (by omega) m.2.1 hb1, Option.bind_some, if_neg (show ¬ (3 : Int) = 1 by decide), if_neg (show ¬ (2 : Int) = 1 by decide)]
/-! ### over's steps -/
theorem ol_end (k : Nat) (out : List S25) (ho : out.length < 1000000000) : over_Of.l (k + 1) [] [] out = some out := by rw [over_Of.l, if_pos ho]; rfl
theorem ol_put (k : Nat) (a s : List S25) (t : List Int) (out : List S25) (ht : Runes t) (hs : (enc t).size ≤ 9999) (ho : out.length < 1000000000) :
    over_Of.l (k + 1) a (⟨2, 0, enc t⟩ :: s) out = over_Of.l k a s (out ++ [sK t.length]) := by
  rw [over_Of.l, if_pos ho]
  cases a with
  | nil => rw [over_Of.st, if_pos rfl, out_I ht hs, Option.bind_some]
  | cons x a => rw [over_Of.st, if_pos rfl, out_I ht hs, Option.bind_some]
theorem ol_a (k : Nat) (a s : List S25) (n f b : Int) (t u : ByteArray) (out : List S25) (hf : f ≠ 2) (ho : out.length < 1000000000) :
    over_Of.l (k + 1) (⟨2, n, t⟩ :: a) (⟨f, b, u⟩ :: s) out = over_Of.l k a (⟨f, b, u⟩ :: s) (out ++ [⟨2, n, t⟩]) := by
  rw [over_Of.l, if_pos ho, over_Of.st, if_neg hf]
  rfl
theorem ol_a0 (k : Nat) (a : List S25) (n : Int) (t : ByteArray) (out : List S25) (ho : out.length < 1000000000) :
    over_Of.l (k + 1) (⟨2, n, t⟩ :: a) [] out = over_Of.l k a [] (out ++ [⟨2, n, t⟩]) := by
  rw [over_Of.l, if_pos ho, over_Of.st, if_pos rfl]
theorem cut_ok {f a m : Int} {s : ByteArray} {l : List S25} (h0 : 0 ≤ m) (h1 : m ≤ a) (ha : a ≤ 1048576) : over_Of.cut (⟨f, a, s⟩ :: l) m = some (restN f a m s l) := by
  have e : wrap64 (a - m) = a - m := w64 (by omega) (by omega)
  show some (if wrap64 (a - m) = 0 then l else ⟨f, wrap64 (a - m), s⟩ :: l) = _
  rw [e, restN]
  by_cases c : a = m
  · rw [if_pos c, if_pos (by omega)]
  · rw [if_neg c, if_neg (by omega)]
theorem ol_K (k : Nat) (xs ys : List S25) (f a b : Int) (s t : ByteArray) (out : List S25) (hf : f ≠ 2) (ha : 0 ≤ a) (ha1 : a ≤ 1048576) (hb : 0 ≤ b) (hb1 : b ≤ 1048576) (ho : out.length < 1000000000) :
    over_Of.l (k + 1) (⟨f, a, s⟩ :: xs) (⟨1, b, t⟩ :: ys) out = over_Of.l k (restN f a (mn a b) s xs) (restN 1 b (mn a b) t ys) (out ++ [⟨f, mn a b, ⟨#[]⟩⟩]) := by
  have m := mn_le a b
  rw [over_Of.l, if_pos ho, over_Of.st, if_neg (show ¬ (1 : Int) = 2 by decide)]
  simp only []
  rw [if_neg hf, cut_ok (by omega) m.1 ha1, Option.bind_some, cut_ok (by omega) m.2.1 hb1, Option.bind_some, if_pos trivial]
theorem ol_D (k : Nat) (xs ys : List S25) (f a b : Int) (s t : ByteArray) (out : List S25) (hf : f ≠ 2) (ha : 0 ≤ a) (ha1 : a ≤ 1048576) (hb : 0 ≤ b) (hb1 : b ≤ 1048576) (ho : out.length < 1000000000) :
    over_Of.l (k + 1) (⟨f, a, s⟩ :: xs) (⟨3, b, t⟩ :: ys) out = over_Of.l k (restN f a (mn a b) s xs) (restN 3 b (mn a b) t ys) out := by
  have m := mn_le a b
  rw [over_Of.l, if_pos ho, over_Of.st, if_neg (show ¬ (3 : Int) = 2 by decide)]
  simp only []
  rw [if_neg hf, cut_ok (by omega) m.1 ha1, Option.bind_some, cut_ok (by omega) m.2.1 hb1, Option.bind_some, if_neg (show ¬ (3 : Int) = 1 by decide)]
end Go.Proofs.YtegjegihcebimaaDoor.Pure
