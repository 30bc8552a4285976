/- Part 5 of the proof of topLeast_holds: out of the texts that this session's programs wrote, what the theorem reaches. -/
import Derived.Deep.Slices
import Derived.Deep.Strs
import Derived.KernelRfl
import Derived.Lib.SmallJoins
import Derived.ProofKit
import Derived.Test.YtegjegihcebimaaDoorZ0
import Derived.Test.YtegjegihcebimaaDoorZ1
import Derived.Test.YtegjegihcebimaaDoorZ2
import Derived.Test.YtegjegihcebimaaDoorZ3
import Derived.Test.YtegjegihcebimaaDoorZ4
section
namespace Go.Proofs.YtegjegihcebimaaDoor.Pure
open Go.RowKit Go.Proofs.YtegjegihcebimaaDoor.P Go.Proofs.YtegjegihcebimaaDoorW.PrintWords Go.Proofs.YtegjegihcebimaaDoorW.PrintLast Go.Proofs.YtegjegihcebimaaDoorW.PrintMore
set_option linter.unusedVariables false
set_option linter.unusedSimpArgs false
theorem up {α : Type} {f : Nat → Option α} (h : ∀ k, LeO (f k) (f (k + 1))) {k k' : Nat} (hk : k ≤ k') {r : α} (e : f k = some r) : f k' = some r := by
 induction hk with
 | refl => exact e
 | step _ ih => exact h _ _ ih
theorem u8_of {m : Nat} {x : Int} (h : x = (m : Int)) : UInt8.ofNat m = x.toNat.toUInt8 := by subst h; rfl
theorem encode_rune {c : Int} (h : isRune c) : Utf8.encode c = enc [c] := by
 apply bytes_ext
 rw [enc_list, encB_cons, encB_nil, List.append_nil]
 obtain ⟨m, rfl⟩ : ∃ m : Nat, c = (m : Int) := ⟨c.toNat, by unfold isRune at h; omega⟩
 have v : Utf8.valid (m : Int) = true := by unfold isRune at h; simp [Utf8.valid]; omega
 unfold isRune at h
 unfold Lib.encodeRune
 by_cases c1 : m < 128
 ·rw [Lib.encodeRuneZ_one (by omega) (by omega)]
  simp only [Utf8.encode, v, if_true, Int.toNat_natCast, if_pos c1, List.map_cons, List.map_nil]
 by_cases c2 : m < 2048
 ·rw [Lib.encodeRuneZ_two (by omega) (by omega)]
  simp only [Utf8.encode, v, if_true, Int.toNat_natCast, if_neg c1, if_pos c2, List.map_cons, List.map_nil]
  rw [← u8_of (m := 192 + m / 64) (by omega), ← u8_of (m := 128 + m % 64) (by omega)]
 by_cases c3 : m < 65536
 ·rw [Lib.encodeRuneZ_three (by omega)]
  simp only [Utf8.encode, v, if_true, Int.toNat_natCast, if_neg c1, if_neg c2, if_pos c3, List.map_cons, List.map_nil]
  rw [← u8_of (m := 224 + m / 4096) (by omega), ← u8_of (m := 128 + m / 64 % 64) (by omega), ← u8_of (m := 128 + m % 64) (by omega)]
 ·rw [Lib.encodeRuneZ_four (by omega) (by omega)]
  simp only [Utf8.encode, v, if_true, Int.toNat_natCast, if_neg c1, if_neg c2, if_neg c3, List.map_cons, List.map_nil]
  rw [← u8_of (m := 240 + m / 262144) (by omega), ← u8_of (m := 128 + m / 4096 % 64) (by omega), ← u8_of (m := 128 + m / 64 % 64) (by omega), ← u8_of (m := 128 + m % 64) (by omega)]
theorem runesBytes_go : ∀ (l : List Int), Runes l → ∀ (b : List Int), (l.foldl (fun r n => r ++ Utf8.encode n) (enc b)) = enc (b ++ l)
 | [], _, b => by simp
 | c :: l, h, b => by
  rw [List.foldl_cons, encode_rune h.cons.1, enc_append, runesBytes_go l h.cons.2]
  simp
theorem runesBytes_enc {l : List Int} (h : Runes l) : runesBytes l = enc l := runesBytes_go l h []
theorem runesP_enc {l : List Int} (h : Runes l) : ∀ (d k b : Nat), l.length - k = d → k ≤ l.length → (enc l).size ≤ (encB (l.take k)).length + b → runesP (enc l) b (encB (l.take k)).length = l.drop k := by
 intro d
 induction d with
 | zero =>
  intro k b hd hk hb
  rw [List.drop_of_length_le (by omega), List.take_of_length_le (by omega)]
  cases b with
  | zero => rfl
  | succ b => rw [runesP, if_neg (by rw [enc_size]; omega)]
 | succ d ih =>
  intro k b hd hk hb
  have hlt := encB_take_lt (l := l) k (by omega)
  have hs := encB_take_succ (l := l) k (by omega)
  have h1 := (encodeRune_length (l.getD k 0)).1
  rw [enc_size] at hb
  cases b with
  | zero => omega
  | succ b =>
   have e : l.getD k 0 = l[k] := by rw [List.getD_eq_getElem?_getD, List.getElem?_eq_getElem (by omega)]; rfl
   have h0 : 0 ≤ l[k] := by have := h _ (List.getElem_mem (l := l) (n := k) (by omega)); unfold isRune at this; omega
   rw [runesP, if_pos (by rw [enc_size]; exact hlt), decode_enc h k (by omega) _ rfl]
   show ((l.getD k 0).toNat : Int) :: runesP (enc l) b ((encB (l.take k)).length + (Lib.encodeRune (l.getD k 0)).length) = _
   rw [← hs, ih (k + 1) b (by omega) (by omega) (by rw [enc_size]; omega), List.drop_eq_getElem_cons (show k < l.length by omega), e, Int.toNat_of_nonneg h0]
theorem runes_enc {l : List Int} (h : Runes l) : runesS (enc l) = l := by
 have := runesP_enc h l.length 0 (enc l).size rfl (Nat.zero_le _) (by simp [encB])
 simpa [encB, runesS] using this
abbrev sK (n : Int) : S25 := ⟨1, n, ⟨#[]⟩⟩
abbrev sD (n : Int) : S25 := ⟨3, n, ⟨#[]⟩⟩
abbrev sI (l : List Int) : S25 := ⟨2, 0, enc l⟩
theorem emp_enc : (⟨#[]⟩ : ByteArray) = enc [] := rfl
theorem enc_toList (l : List Int) : (enc l).toList = encB l := by rw [ByteArray.toList_eq]; rfl
theorem encB_ne {l : List Int} (h : l ≠ []) : encB l ≠ [] := by
 cases l with
 | nil => exact absurd rfl h
 | cons c l => rw [encB_cons]; exact encodeRune_ne _ _
theorem e_num (a n : Int) : normal_Of.e ⟨a, n, ⟨#[]⟩⟩ = decide (n = 0) := by
 unfold normal_Of.e
 rw [emp_enc, enc_toList, encB_nil]; simp
theorem e_text (a n : Int) {l : List Int} (h : l ≠ []) : normal_Of.e ⟨a, n, enc l⟩ = false := by
 unfold normal_Of.e
 rw [enc_toList]; simp [encB_ne h]
theorem normal_ok {l : List S25} (hl : l.length < 1000000000) (ht : normal_Of.t l < 140737488355328) : normal_Of.f l = some (normal_Of.n l) := if_pos ⟨hl, ht⟩
theorem emp_app : (⟨#[]⟩ : ByteArray) ++ ⟨#[]⟩ = ⟨#[]⟩ := rfl
theorem emp_size : (⟨#[]⟩ : ByteArray).size = 0 := rfl
def restN (f a m : Int) (s : ByteArray) (l : List S25) : List S25 := if a = m then l else ⟨f, a - m, s⟩ :: l
def restT (a m : Int) (l : List S25) : List Int := if a = m then loadT l else []
theorem cl_end (k : Nat) (xl yl : List S25) (xt yt : List Int) (out : List S25) (ho : out.length < 1000000000) (h2 : kindT yl ≠ 2) (h3 : kindT xl ≠ 3) (h : kindT xl = 0 ∨ kindT yl = 0) : compose_Of.l (k + 1) xl xt yl yt out = some out := by
 rw [compose_Of.l, if_pos ho, if_neg h2, if_neg h3]
 split
 ·rfl
 ·rw [if_pos (h.resolve_left (by assumption))]
theorem kindT_cons (x : S25) (l : List S25) : kindT (x :: l) = x.f0 := rfl
theorem kne (f a : Int) (s : ByteArray) (l : List S25) (n : Int) (h : f ≠ n) : ¬ kindT (⟨f, a, s⟩ :: l) = n := h
theorem cl_put (k : Nat) (xl ys : List S25) (xt yt : List Int) (s : ByteArray) (out : List S25) (hy : Runes yt) (hn : yt.length ≤ 1000000) (ho : out.length < 1000000000) :
  compose_Of.l (k + 1) xl xt (⟨2, 0, s⟩ :: ys) yt out = compose_Of.l k xl xt ys (loadT ys) (out ++ [sI yt]) := by
 rw [compose_Of.l, if_pos ho]
 simp only [kindT_cons]
 rw [if_pos trivial, compose_Of.sz, Option.bind_some, compose_Of.tk, if_pos rfl]
 rw [w64 (x := 0 + (yt.length : Int)) (by omega) (by omega), if_pos (by omega), Option.bind_some, Int.zero_add, Int.toNat_natCast, List.take_length, List.drop_length, runesBytes_enc hy]
 simp [wrap64]
theorem cl_drop (k : Nat) (xs yl : List S25) (yt : List Int) (n : Int) (s : ByteArray) (out : List S25) (h0 : 0 ≤ n) (hn : n ≤ 1048576) (hy : kindT yl ≠ 2) (ho : out.length < 1000000000) :
  compose_Of.l (k + 1) (⟨3, n, s⟩ :: xs) [] yl yt out = compose_Of.l k xs (loadT xs) yl yt (out ++ [sD n]) := by
 rw [compose_Of.l, if_pos ho]
 simp only [kindT_cons]
 rw [if_neg hy, if_pos trivial, compose_Of.sz, Option.bind_some, compose_Of.tk, if_neg (show ¬ (3 : Int) = 2 by decide)]
 have e : wrap64 (n + (([] : List Int).length : Int)) = n := by rw [w64 (by simp; omega) (by simp; omega)]; simp
 rw [e, Option.bind_some, Int.sub_self]
 simp [wrap64]
theorem mn_le (a b : Int) : mn a b ≤ a ∧ mn a b ≤ b ∧ (mn a b = a ∨ mn a b = b) := by unfold mn; split <;> omega
theorem tk_num {f a m : Int} {s : ByteArray} {l : List S25} (hf : f ≠ 2) (h0 : 0 ≤ m) (h1 : m ≤ a) (ha : a ≤ 1048576) : compose_Of.tk (⟨f, a, s⟩ :: l) [] m = some (⟨f, m, ⟨#[]⟩⟩, restN f a m s l, restT a m l) := by
 rw [compose_Of.tk, if_neg hf]
 have e : wrap64 (a - m) = a - m := w64 (by omega) (by omega)
 have e2 : wrap64 (a - m + (([] : List Int).length : Int)) = a - m := by rw [w64 (by simp; omega) (by simp; omega)]; simp
 simp only [e, e2, restN, restT]
 by_cases c : a = m
 ·subst c; simp
 ·have c2 : ¬ a - m = 0 := by omega
  simp only [c, c2, if_false]
theorem tk_text {m : Int} {s : ByteArray} {l : List S25} {t : List Int} (ht : Runes t) (hn : t.length ≤ 1000000) (h0 : 0 ≤ m) (h1 : m ≤ (t.length : Int)) : compose_Of.tk (⟨2, 0, s⟩ :: l) t m = some (sI (t.take m.toNat), (if (t.length : Int) = m then l else ⟨2, 0, s⟩ :: l), (if (t.length : Int) = m then loadT l else t.drop m.toNat)) := by
 rw [compose_Of.tk, if_pos rfl, if_pos ⟨h0, h1⟩, runesBytes_enc (ht.take _)]
 have d : ((t.drop m.toNat).length : Int) = (t.length : Int) - m := by rw [List.length_drop]; omega
 have e : wrap64 (0 + ((t.drop m.toNat).length : Int)) = (t.length : Int) - m := by rw [d, Int.zero_add]; exact w64 (by omega) (by omega)
 show some (_, (if wrap64 (0 + ((t.drop m.toNat).length : Int)) = 0 then l else _), (if wrap64 (0 + ((t.drop m.toNat).length : Int)) = 0 then _ else _)) = _
 rw [e]
 by_cases c : (t.length : Int) = m
 ·rw [if_pos c, if_pos c, if_pos (by omega), if_pos (by omega)]
 ·rw [if_neg c, if_neg c, if_neg (by omega), if_neg (by omega)]
theorem sz_num {f a : Int} {s : ByteArray} {l : List S25} (h0 : 0 ≤ a) (h1 : a ≤ 1048576) : compose_Of.sz (⟨f, a, s⟩ :: l) [] = some a := by
 rw [compose_Of.sz, w64 (by simp; omega) (by simp; omega)]; simp
theorem sz_text {s : ByteArray} {l : List S25} {t : List Int} (hn : t.length ≤ 1000000) : compose_Of.sz (⟨2, 0, s⟩ :: l) t = some (t.length : Int) := by
 show some (wrap64 (0 + (t.length : Int))) = _
 rw [w64 (by omega) (by omega), Int.zero_add]
theorem cl_KK (k : Nat) (xs ys : List S25) (a b : Int) (s t : ByteArray) (out : List S25) (ha : 0 ≤ a) (ha1 : a ≤ 1048576) (hb : 0 ≤ b) (hb1 : b ≤ 1048576) (ho : out.length < 1000000000) :
  compose_Of.l (k + 1) (⟨1, a, s⟩ :: xs) [] (⟨1, b, t⟩ :: ys) [] out = compose_Of.l k (restN 1 a (mn a b) s xs) (restT a (mn a b) xs) (restN 1 b (mn a b) t ys) (restT b (mn a b) ys) (out ++ [sK (mn a b)]) := by
 have m := mn_le a b
 rw [compose_Of.l, if_pos ho, if_neg (kne 1 b t ys 2 (by decide)), if_neg (kne 1 a s xs 3 (by decide)), if_neg (kne 1 a s xs 0 (by decide)), if_neg (kne 1 b t ys 0 (by decide)), sz_num ha ha1, Option.bind_some, sz_num hb hb1, Option.bind_some,
  tk_num (by decide) (by omega) m.1 ha1, Option.bind_some, tk_num (by decide) (by omega) m.2.1 hb1, Option.bind_some, if_pos rfl]
theorem cl_KD (k : Nat) (xs ys : List S25) (a b : Int) (s t : ByteArray) (out : List S25) (ha : 0 ≤ a) (ha1 : a ≤ 1048576) (hb : 0 ≤ b) (hb1 : b ≤ 1048576) (ho : out.length < 1000000000) :
  compose_Of.l (k + 1) (⟨1, a, s⟩ :: xs) [] (⟨3, b, t⟩ :: ys) [] out = compose_Of.l k (restN 1 a (mn a b) s xs) (restT a (mn a b) xs) (restN 3 b (mn a b) t ys) (restT b (mn a b) ys) (out ++ [sD (mn a b)]) := by
 have m := mn_le a b
 rw [compose_Of.l, if_pos ho, if_neg (kne 3 b t ys 2 (by decide)), if_neg (kne 1 a s xs 3 (by decide)), if_neg (kne 1 a s xs 0 (by decide)), if_neg (kne 3 b t ys 0 (by decide)), sz_num ha ha1, Option.bind_some, sz_num hb hb1, Option.bind_some,
  tk_num (by decide) (by omega) m.1 ha1, Option.bind_some, tk_num (by decide) (by omega) m.2.1 hb1, Option.bind_some, if_neg (show ¬ (3 : Int) = 1 by decide), if_pos rfl]
theorem cl_IK (k : Nat) (xs ys : List S25) (xt : List Int) (b : Int) (s t : ByteArray) (out : List S25) (hx : Runes xt) (hn : xt.length ≤ 1000000) (hb : 0 ≤ b) (hb1 : b ≤ 1048576) (ho : out.length < 1000000000) :
  compose_Of.l (k + 1) (⟨2, 0, s⟩ :: xs) xt (⟨1, b, t⟩ :: ys) [] out = compose_Of.l k (if (xt.length : Int) = mn xt.length b then xs else ⟨2, 0, s⟩ :: xs) (if (xt.length : Int) = mn xt.length b then loadT xs else xt.drop (mn xt.length b).toNat) (restN 1 b (mn xt.length b) t ys) (restT b (mn xt.length b) ys) (out ++ [sI (xt.take (mn xt.length b).toNat)]) := by
 have m := mn_le xt.length b
 rw [compose_Of.l, if_pos ho, if_neg (kne 1 b t ys 2 (by decide)), if_neg (kne 2 0 s xs 3 (by decide)), if_neg (kne 2 0 s xs 0 (by decide)), if_neg (kne 1 b t ys 0 (by decide)), sz_text hn, Option.bind_some, sz_num hb hb1, Option.bind_some,
  tk_text hx hn (by omega) m.1, Option.bind_some, tk_num (by decide) (by omega) m.2.1 hb1, Option.bind_some, if_pos rfl]
theorem cl_ID (k : Nat) (xs ys : List S25) (xt : List Int) (b : Int) (s t : ByteArray) (out : List S25) (hx : Runes xt) (hn : xt.length ≤ 1000000) (hb : 0 ≤ b) (hb1 : b ≤ 1048576) (ho : out.length < 1000000000) :
  compose_Of.l (k + 1) (⟨2, 0, s⟩ :: xs) xt (⟨3, b, t⟩ :: ys) [] out = compose_Of.l k (if (xt.length : Int) = mn xt.length b then xs else ⟨2, 0, s⟩ :: xs) (if (xt.length : Int) = mn xt.length b then loadT xs else xt.drop (mn xt.length b).toNat) (restN 3 b (mn xt.length b) t ys) (restT b (mn xt.length b) ys) out := by
 have m := mn_le xt.length b
 rw [compose_Of.l, if_pos ho, if_neg (kne 3 b t ys 2 (by decide)), if_neg (kne 2 0 s xs 3 (by decide)), if_neg (kne 2 0 s xs 0 (by decide)), if_neg (kne 3 b t ys 0 (by decide)), sz_text hn, Option.bind_some, sz_num hb hb1, Option.bind_some,
  tk_text hx hn (by omega) m.1, Option.bind_some, tk_num (by decide) (by omega) m.2.1 hb1, Option.bind_some, if_neg (show ¬ (3 : Int) = 1 by decide), if_neg (show ¬ (2 : Int) = 1 by decide)]
inductive At | K | D | I (c : Int) deriving DecidableEq
def At.kd : At → Int | .K => 1 | .D => 3 | .I _ => 2
def At.i : At → Nat | .K => 1 | .D => 1 | .I _ => 0
def At.o : At → Nat | .K => 1 | .D => 0 | .I _ => 1
def ins (l : List At) : Nat := (l.map At.i).sum
def outs (l : List At) : Nat := (l.map At.o).sum
theorem ins_nil : ins [] = 0 := rfl
theorem outs_nil : outs [] = 0 := rfl
theorem ins_cons (a : At) (l : List At) : ins (a :: l) = a.i + ins l := by simp [ins]
theorem outs_cons (a : At) (l : List At) : outs (a :: l) = a.o + outs l := by simp [outs]
theorem ins_app (a b : List At) : ins (a ++ b) = ins a + ins b := by simp [ins]
theorem outs_app (a b : List At) : outs (a ++ b) = outs a + outs b := by simp [outs]
theorem ins_K (n : Nat) : ins (List.replicate n At.K) = n := by induction n with | zero => rfl | succ n ih => rw [List.replicate_succ, ins_cons, ih]; simp [At.i]; omega
theorem ins_D (n : Nat) : ins (List.replicate n At.D) = n := by induction n with | zero => rfl | succ n ih => rw [List.replicate_succ, ins_cons, ih]; simp [At.i]; omega
theorem outs_K (n : Nat) : outs (List.replicate n At.K) = n := by induction n with | zero => rfl | succ n ih => rw [List.replicate_succ, outs_cons, ih]; simp [At.o]; omega
theorem outs_D (n : Nat) : outs (List.replicate n At.D) = 0 := by induction n with | zero => rfl | succ n ih => rw [List.replicate_succ, outs_cons, ih]; simp [At.o]
theorem ins_I (t : List Int) : ins (t.map At.I) = 0 := by induction t with | nil => rfl | cons c t ih => rw [List.map_cons, ins_cons, ih]; simp [At.i]
theorem outs_I (t : List Int) : outs (t.map At.I) = t.length := by induction t with | nil => rfl | cons c t ih => rw [List.map_cons, outs_cons, ih]; simp [At.o]; omega
theorem ins_le (l : List At) : ins l ≤ l.length := by
  induction l with
  | nil => exact Nat.le_refl _
  | cons a l ih => rw [ins_cons, List.length_cons]; have : a.i ≤ 1 := by cases a <;> simp [At.i]
                   omega
theorem outs_le (l : List At) : outs l ≤ l.length := by
  induction l with
  | nil => exact Nat.le_refl _
  | cons a l ih => rw [outs_cons, List.length_cons]; have : a.o ≤ 1 := by cases a <;> simp [At.o]
                   omega
def okA (x : S25) : Prop := ((x.f0 = 1 ∨ x.f0 = 3) ∧ 0 ≤ x.f1 ∧ x.f2 = ⟨#[]⟩) ∨ (x.f0 = 2 ∧ x.f1 = 0 ∧ ∃ l, Runes l ∧ x.f2 = enc l)
def at1 (x : S25) : List At := if x.f0 = 2 then (runesS x.f2).map At.I else List.replicate x.f1.toNat (if x.f0 = 1 then At.K else At.D)
def ats (l : List S25) : List At := l.flatMap at1
theorem ats_nil : ats [] = [] := rfl
theorem ats_cons (x : S25) (l : List S25) : ats (x :: l) = at1 x ++ ats l := by simp [ats]
theorem ats_app (a b : List S25) : ats (a ++ b) = ats a ++ ats b := by simp [ats]
theorem at1_K (n : Int) (s : ByteArray) : at1 ⟨1, n, s⟩ = List.replicate n.toNat At.K := rfl
theorem at1_D (n : Int) (s : ByteArray) : at1 ⟨3, n, s⟩ = List.replicate n.toNat At.D := rfl
theorem at1_I {t : List Int} (n : Int) (h : Runes t) : at1 ⟨2, n, enc t⟩ = t.map At.I := by show (runesS (enc t)).map At.I = _; rw [runes_enc h]
theorem okA_cases {x : S25} (h : okA x) : (∃ n : Nat, x = ⟨1, (n : Int), ⟨#[]⟩⟩) ∨ (∃ n : Nat, x = ⟨3, (n : Int), ⟨#[]⟩⟩) ∨ (∃ t, Runes t ∧ x = ⟨2, 0, enc t⟩) := by
 obtain ⟨a, n, s⟩ := x
 rcases h with ⟨ha | ha, h0, h2⟩ | ⟨ha, h0, t, ht, h2⟩
 ·simp only at ha h0 h2; subst ha h2; exact .inl ⟨n.toNat, by rw [Int.toNat_of_nonneg h0]⟩
 ·simp only at ha h0 h2; subst ha h2; exact .inr (.inl ⟨n.toNat, by rw [Int.toNat_of_nonneg h0]⟩)
 ·simp only at ha h0 h2; subst ha h0 h2; exact .inr (.inr ⟨t, ht, rfl⟩)
theorem okA_K (n : Nat) : okA ⟨1, (n : Int), ⟨#[]⟩⟩ := .inl ⟨.inl rfl, Int.natCast_nonneg n, rfl⟩
theorem okA_D (n : Nat) : okA ⟨3, (n : Int), ⟨#[]⟩⟩ := .inl ⟨.inr rfl, Int.natCast_nonneg n, rfl⟩
theorem okA_I {t : List Int} (h : Runes t) : okA ⟨2, 0, enc t⟩ := .inr ⟨rfl, rfl, t, h, rfl⟩
theorem enc_le4 (t : List Int) : (enc t).size ≤ 4 * t.length := by
 rw [enc_size]
 induction t with
 | nil => simp [encB]
 | cons c t ih => rw [encB_cons, List.length_append, List.length_cons]; have := (encodeRune_length c).2; omega
theorem enc_sz {t : List Int} (h : t.length ≤ 1000000) : (enc t).size ≤ 4000000 := by have := enc_le4 t; omega
theorem count_big {l : List Int} (h : Runes l) (hs : (enc l).size ≤ 1000000000) : points_Count.f (enc l) = some (l.length : Int) := by
 unfold points_Count.f; rw [if_pos (by omega), countT_enc h]
theorem valid_big {l : List Int} (h : Runes l) (hs : (enc l).size ≤ 1000000000) : points_Valid.f (enc l) = some true := by
 unfold points_Valid.f; rw [if_pos (by omega), validT_enc h]
abbrev W (l : List S25) : Prop := ∀ x ∈ l, okA x
theorem W_cons {x : S25} {l : List S25} : W (x :: l) ↔ okA x ∧ W l := List.forall_mem_cons
theorem W_app {a b : List S25} : W (a ++ b) ↔ W a ∧ W b := by
 constructor
 ·exact fun h => ⟨fun x hx => h x (List.mem_append_left _ hx), fun x hx => h x (List.mem_append_right _ hx)⟩
 ·rintro ⟨h1, h2⟩ x hx
  exact (List.mem_append.mp hx).elim (h1 x) (h2 x)
theorem text_le {l : List S25} (h : W l) : normal_Of.t l ≤ 4 * (ats l).length := by
 induction l with
 | nil => simp [normal_Of.t]
 | cons x l ih =>
  obtain ⟨hx, hl⟩ := W_cons.1 h
  have := ih hl
  rw [normal_Of.t, ats_cons, List.length_append]
  rcases okA_cases hx with ⟨n, rfl⟩ | ⟨n, rfl⟩ | ⟨t, ht, rfl⟩
  ·show (⟨#[]⟩ : ByteArray).size + _ ≤ _; rw [emp_size]; omega
  ·show (⟨#[]⟩ : ByteArray).size + _ ≤ _; rw [emp_size]; omega
  ·rw [at1_I 0 ht, List.length_map]
   have := enc_le4 t
   show (enc t).size + _ ≤ _
   omega
theorem in_1 {x : S25} (h : okA x) : span_In.f x.f0 x.f1 x.f2 = some (ins (at1 x) : Int) := by
 rcases okA_cases h with ⟨n, rfl⟩ | ⟨n, rfl⟩ | ⟨t, ht, rfl⟩
 ·rw [at1_K, ins_K]; simp [span_In.f, span_of.f]
 ·rw [at1_D, ins_D]; simp [span_In.f, span_of.f]
 ·rw [at1_I 0 ht, ins_I]; simp [span_In.f, span_of.f]
theorem out_1 {x : S25} (h : okA x) (hb : (at1 x).length ≤ 1000000) : span_Out.f x.f0 x.f1 x.f2 = some (outs (at1 x) : Int) := by
 rcases okA_cases h with ⟨n, rfl⟩ | ⟨n, rfl⟩ | ⟨t, ht, rfl⟩
 ·rw [at1_K, outs_K]; simp [span_Out.f, span_of.f]
 ·rw [at1_D, outs_D]; simp [span_Out.f, span_of.f]
 ·rw [at1_I 0 ht, List.length_map] at hb
  have := enc_sz hb
  rw [at1_I 0 ht, outs_I]
  simp [span_Out.f, span_of.f, count_big ht (by omega), mx]
  intro hn; omega
theorem sum_go {F : S25 → Option Int} {g : List At → Nat} (hg : ∀ a b, g (a ++ b) = g a + g b) (h0 : g [] = 0) : ∀ (l : List S25) (a : Int), (∀ x ∈ l, F x = some (g (at1 x) : Int)) → 0 ≤ a → a + (g (ats l) : Int) ≤ 1000000000000 → op_sum.l F a l = some (a + (g (ats l) : Int)) := by
 intro l
 induction l with
 | nil => intro a _ _ _; rw [ats_nil, h0]; simp [op_sum.l]
 | cons x l ih =>
  intro a hx h0 ha
  obtain ⟨h1, hl⟩ := List.forall_mem_cons.1 hx
  rw [ats_cons, hg] at ha ⊢
  rw [op_sum.l, h1, Option.bind_some, w64 (by omega) (by omega), ih _ hl (by omega) (by omega)]
  congr 1; omega
theorem in_A {l : List S25} (h : W l) (hb : (ats l).length ≤ 1000000) (hl : l.length ≤ 1000000) : op_In.f l = some (ins (ats l) : Int) := by
 unfold op_In.f
 have := ins_le (ats l)
 rw [if_pos (by omega), sum_go ins_app ins_nil l 0 (fun x hx => in_1 (h x hx)) (by omega) (by omega)]
 simp
theorem at1_le {x : S25} {l : List S25} (h : x ∈ l) : (at1 x).length ≤ (ats l).length := by
 induction l with
 | nil => cases h
 | cons y l ih =>
  rw [ats_cons, List.length_append]
  rcases List.mem_cons.1 h with rfl | h
  ·omega
  ·have := ih h; omega
theorem out_A {l : List S25} (h : W l) (hb : (ats l).length ≤ 1000000) (hl : l.length ≤ 1000000) : op_Out.f l = some (outs (ats l) : Int) := by
 unfold op_Out.f
 have := outs_le (ats l)
 rw [if_pos (by omega), sum_go outs_app outs_nil l 0 (fun x hx => out_1 (h x hx) (by have := at1_le hx; omega)) (by omega) (by omega)]
 simp
theorem may_1 {x : S25} (h : okA x) (hb : (at1 x).length ≤ 1000000) : span_May.f 3 x.f0 x.f1 x.f2 = some 0 := by
 have e4 : points_Valid.f ⟨#[]⟩ = some true := by rw [emp_enc]; exact valid_ok (fun _ h => by cases h) (by decide)
 rcases okA_cases h with ⟨n, rfl⟩ | ⟨n, rfl⟩ | ⟨t, ht, rfl⟩
 ·rw [at1_K, List.length_replicate] at hb
  have e1 : ¬ (n : Int) < 0 := by omega
  have e2 : ¬ (n : Int) > 1048576 := by omega
  simp [span_May.f, span_of.f, span_May.j0, span_May.j1, span_May.j2, e1, e2, e4]
 ·rw [at1_D, List.length_replicate] at hb
  have e1 : ¬ (n : Int) < 0 := by omega
  have e2 : ¬ (n : Int) > 1048576 := by omega
  simp [span_May.f, span_of.f, span_May.j0, span_May.j1, span_May.j2, e1, e2, e4]
 ·rw [at1_I 0 ht, List.length_map] at hb
  have := enc_sz hb
  simp [span_May.f, span_of.f, span_May.j0, span_May.j1, span_May.j2, valid_big ht (by omega)]
theorem may_A {l : List S25} (h : W l) (hb : (ats l).length ≤ 1000000) (hl : l.length ≤ 1000000) (k : Nat) (hk : l.length + 4 ≤ k) : op_May.f k l = some 0 := by
 have hi := ins_le (ats l)
 have go : ∀ (d i k : Nat), l.length - i = d → i ≤ l.length → d + 4 ≤ k → op_May.l0 k l l (l.length : Int) (i : Int) = some 0 := by
  intro d
  induction d with
  | zero =>
   intro i k hd hi hk
   obtain ⟨k, rfl⟩ : ∃ j, k = j + 1 := ⟨k - 1, by omega⟩
   rw [op_May.l0, if_neg (by omega), in_A h hb hl, Option.bind_some, if_neg (by omega)]
  | succ d ih =>
   intro i k hd hi hk
   obtain ⟨k, rfl⟩ : ∃ j, k = j + 1 := ⟨k - 1, by omega⟩
   have hm : rd_T25 l (i : Int) ∈ l := by
    unfold rd_T25
    rw [Int.toNat_natCast, List.getD_eq_getElem?_getD, List.getElem?_eq_getElem (by omega)]
    exact List.getElem_mem _
   rw [op_May.l0, if_pos (by omega), if_pos (by omega), if_pos (by omega), up (span_May.mono _ _ _) (by omega : 3 ≤ k) (may_1 (h _ hm) (by have := at1_le hm; omega)), Option.bind_some, if_pos rfl, w64 (by omega) (by omega), show (i : Int) + 1 = ((i + 1 : Nat) : Int) by omega]
   exact ih (i + 1) k (by omega) (by omega) (by omega)
 exact go _ 0 k rfl (Nat.zero_le _) (by omega)
def ne (x : S25) : Prop := at1 x ≠ []
def Alt : List S25 → Prop
 | [] => True
 | x :: l => ne x ∧ (∀ y l', l = y :: l' → x.f0 ≠ y.f0) ∧ Alt l
theorem e_iff {x : S25} (h : okA x) : normal_Of.e x = true ↔ at1 x = [] := by
 rcases okA_cases h with ⟨n, rfl⟩ | ⟨n, rfl⟩ | ⟨t, ht, rfl⟩
 ·rw [e_num, at1_K]; simp
 ·rw [e_num, at1_D]; simp
 ·rw [at1_I 0 ht]
  by_cases c : t = []
  ·subst c; simp [e_num, show enc [] = (⟨#[]⟩ : ByteArray) from rfl]
  ·rw [e_text _ _ c]; simp [c]
theorem keep_ats : ∀ l : List S25, W l → ats (normal_Of.keep l) = ats l
 | [], _ => rfl
 | x :: l, h => by
  obtain ⟨hx, hl⟩ := W_cons.1 h
  have ih := keep_ats l hl
  unfold normal_Of.keep at *
  rw [List.filter_cons, ats_cons]
  by_cases c : normal_Of.e x = true
  ·rw [if_neg (by simp [c]), ih, (e_iff hx).1 c]; rfl
  ·rw [if_pos (by simpa using c), ats_cons, ih]
theorem keep_A {l : List S25} (h : W l) : W (normal_Of.keep l) ∧ (∀ x ∈ normal_Of.keep l, ne x) ∧ ats (normal_Of.keep l) = ats l ∧ (normal_Of.keep l).length ≤ l.length := by
 refine ⟨fun x hx => h x (List.mem_filter.1 hx).1, fun x hx => ?_, ?_, List.length_filter_le _ _⟩
 ·obtain ⟨hm, he⟩ := List.mem_filter.1 hx
  intro c
  rw [← e_iff (h x hm)] at c
  simp [c] at he
 ·exact keep_ats l h
theorem step_last (d : List S25) (y x : S25) : normal_Of.step (d ++ [y]) x = if x.f0 = y.f0 then d ++ [⟨y.f0, wrap64 (y.f1 + x.f1), y.f2 ++ x.f2⟩] else d ++ [y] ++ [x] := by
 have e1 : (d ++ [y]).length - 1 = d.length := by simp
 have e2 : rd_T25 (d ++ [y]) ((d.length : Nat) : Int) = y := by
  unfold rd_T25; rw [Int.toNat_natCast, List.getD_eq_getElem?_getD]; simp
 unfold normal_Of.step
 rw [if_neg (by simp), e1, e2]
 congr 1
 rw [List.set_append_right _ _ (Nat.le_refl _), Nat.sub_self]; rfl
theorem alt_snoc {d : List S25} {x : S25} (h : Alt d) (hx : ne x) (hk : ∀ d' y, d = d' ++ [y] → y.f0 ≠ x.f0) : Alt (d ++ [x]) := by
 induction d with
 | nil => exact ⟨hx, fun y l' e => by simp at e, trivial⟩
 | cons z d ih =>
  obtain ⟨h1, h2, h3⟩ := h
  refine ⟨h1, fun y l' e => ?_, ih h3 (fun d' y e => hk (z :: d') y (by rw [e]; rfl))⟩
  cases d with
  | nil => have e : [x] = y :: l' := e; injection e with e _; subst e; exact hk [] z rfl
  | cons w d => have e : w :: (d ++ [x]) = y :: l' := e; injection e with e _; subst e; exact h2 w d rfl
theorem alt_set {d : List S25} {y z : S25} (h : Alt (d ++ [y])) (hz : ne z) (hk : z.f0 = y.f0) : Alt (d ++ [z]) := by
 induction d with
 | nil => exact ⟨hz, fun y l' e => by simp at e, trivial⟩
 | cons w d ih =>
  obtain ⟨h1, h2, h3⟩ := h
  refine ⟨h1, fun u l' e => ?_, ih h3⟩
  cases d with
  | nil => have e : [z] = u :: l' := e; injection e with e _; subst e; rw [hk]; exact h2 y [] rfl
  | cons v d => have e : v :: (d ++ [z]) = u :: l' := e; injection e with e _; subst e; exact h2 v (d ++ [y]) rfl
theorem merge_A {x y : S25} (hx : okA x) (hy : okA y) (hk : x.f0 = y.f0) (hb : (at1 y).length + (at1 x).length ≤ 1000000) : okA ⟨y.f0, wrap64 (y.f1 + x.f1), y.f2 ++ x.f2⟩ ∧ at1 ⟨y.f0, wrap64 (y.f1 + x.f1), y.f2 ++ x.f2⟩ = at1 y ++ at1 x := by
 rcases okA_cases hy with ⟨n, rfl⟩ | ⟨n, rfl⟩ | ⟨t, ht, rfl⟩ <;> rcases okA_cases hx with ⟨m, rfl⟩ | ⟨m, rfl⟩ | ⟨u, hu, rfl⟩ <;> simp only at hk <;> try (exact absurd hk (by decide))
 ·rw [at1_K, at1_K, List.length_replicate, List.length_replicate] at hb
  simp only [emp_app]
  rw [w64 (by omega) (by omega), show (n : Int) + m = ((n + m : Nat) : Int) by omega]
  exact ⟨okA_K _, by rw [at1_K, at1_K, at1_K, Int.toNat_natCast, Int.toNat_natCast, Int.toNat_natCast, List.replicate_append_replicate]⟩
 ·rw [at1_D, at1_D, List.length_replicate, List.length_replicate] at hb
  simp only [emp_app]
  rw [w64 (by omega) (by omega), show (n : Int) + m = ((n + m : Nat) : Int) by omega]
  exact ⟨okA_D _, by rw [at1_D, at1_D, at1_D, Int.toNat_natCast, Int.toNat_natCast, Int.toNat_natCast, List.replicate_append_replicate]⟩
 ·have e0 : wrap64 ((0 : Int) + 0) = 0 := by simp [wrap64]
  simp only [enc_append, e0]
  exact ⟨okA_I (ht.append hu), by rw [at1_I 0 (ht.append hu), at1_I 0 ht, at1_I 0 hu, List.map_append]⟩
theorem step_A {d : List S25} {x : S25} (hd : W d) (ha : Alt d) (hx : okA x) (hn : ne x) (hb : (ats d).length + (at1 x).length ≤ 1000000) : W (normal_Of.step d x) ∧ Alt (normal_Of.step d x) ∧ ats (normal_Of.step d x) = ats d ++ at1 x ∧ (normal_Of.step d x).length ≤ d.length + 1 := by
 refine ⟨?_, ?_, ?_, (normal_Of.step_len d x).2⟩
 all_goals
  rcases List.eq_nil_or_concat d with rfl | ⟨d, y, rfl⟩
 ·rw [show normal_Of.step [] x = [x] from rfl]; exact W_cons.2 ⟨hx, fun _ h => by cases h⟩
 ·rw [List.concat_eq_append] at *
  rw [step_last]
  obtain ⟨h1, h2⟩ := W_app.1 hd
  have hy : okA y := h2 y (by simp)
  split
  ·rename_i c
   rw [ats_app, ats_cons, ats_nil, List.append_nil, List.length_append] at hb
   exact W_app.2 ⟨h1, W_cons.2 ⟨(merge_A hx hy c (by omega)).1, fun _ h => by cases h⟩⟩
  ·exact W_app.2 ⟨hd, W_cons.2 ⟨hx, fun _ h => by cases h⟩⟩
 ·rw [show normal_Of.step [] x = [x] from rfl]; exact ⟨hn, fun y l' e => by simp at e, trivial⟩
 ·rw [List.concat_eq_append] at *
  rw [step_last]
  obtain ⟨h1, h2⟩ := W_app.1 hd
  have hy : okA y := h2 y (by simp)
  split
  ·rename_i c
   rw [ats_app, ats_cons, ats_nil, List.append_nil, List.length_append] at hb
   refine alt_set ha ?_ rfl
   unfold ne
   rw [(merge_A hx hy c (by omega)).2]
   intro e
   exact hn (List.append_eq_nil_iff.1 e).2
  ·rename_i c
   refine alt_snoc ha hn (fun d' z e => ?_)
   obtain ⟨_, e2⟩ := List.append_inj' e rfl
   injection e2 with e2 _
   subst e2
   exact fun e => c e.symm
 ·rw [show normal_Of.step [] x = [x] from rfl]; simp [ats]
 ·rw [List.concat_eq_append] at *
  rw [step_last]
  obtain ⟨h1, h2⟩ := W_app.1 hd
  have hy : okA y := h2 y (by simp)
  rw [ats_app, ats_cons, ats_nil, List.append_nil] at hb ⊢
  rw [List.length_append] at hb
  split
  ·rename_i c
   rw [ats_app, ats_cons, ats_nil, List.append_nil, (merge_A hx hy c (by omega)).2, List.append_assoc]
  ·rw [ats_app, ats_app, ats_cons, ats_cons, ats_nil, List.append_nil, List.append_nil]
theorem fold_A : ∀ (l d : List S25), W d → Alt d → W l → (∀ x ∈ l, ne x) → (ats d).length + (ats l).length ≤ 1000000 → W (l.foldl normal_Of.step d) ∧ Alt (l.foldl normal_Of.step d) ∧ ats (l.foldl normal_Of.step d) = ats d ++ ats l ∧ (l.foldl normal_Of.step d).length ≤ d.length + l.length
 | [], d, hd, ha, _, _, _ => ⟨hd, ha, by simp [ats], by simp⟩
 | x :: l, d, hd, ha, hl, hn, hb => by
  obtain ⟨h1, h2⟩ := W_cons.1 hl
  obtain ⟨n1, n2⟩ := List.forall_mem_cons.1 hn
  rw [ats_cons, List.length_append] at hb
  obtain ⟨s1, s2, s3, s4⟩ := step_A hd ha h1 n1 (by omega)
  obtain ⟨r1, r2, r3, r4⟩ := fold_A l _ s1 s2 h2 n2 (by rw [s3, List.length_append]; omega)
  refine ⟨r1, r2, ?_, ?_⟩
  ·rw [List.foldl_cons, r3, s3, ats_cons, List.append_assoc]
  ·rw [List.foldl_cons, List.length_cons]; omega
theorem norm_A {l : List S25} (h : W l) (hb : (ats l).length ≤ 1000000) : W (normal_Of.n l) ∧ Alt (normal_Of.n l) ∧ ats (normal_Of.n l) = ats l ∧ (normal_Of.n l).length ≤ l.length := by
 obtain ⟨h1, h2, h3, h4⟩ := keep_A h
 obtain ⟨r1, r2, r3, r4⟩ := fold_A (normal_Of.keep l) [] (fun _ h => by cases h) trivial h1 h2 (by rw [h3, ats_nil]; simpa using hb)
 unfold normal_Of.n
 refine ⟨r1, r2, by rw [r3, h3]; rfl, by simp only [List.length_nil] at r4; omega⟩
theorem normal_A {l : List S25} (h : W l) (hb : (ats l).length ≤ 1000000) (hl : l.length ≤ 1000000) : normal_Of.f l = some (normal_Of.n l) := by
 have := text_le h
 exact normal_ok (by omega) (by omega)
theorem alt_ne : ∀ {l : List S25}, Alt l → ∀ x ∈ l, ne x
 | [], _, _, h => by cases h
 | y :: l, ⟨h1, _, h3⟩, x, hx => by
  rcases List.mem_cons.1 hx with rfl | hx
  ·exact h1
  ·exact alt_ne h3 x hx
theorem alt_len {l : List S25} (h : Alt l) : l.length ≤ (ats l).length := by
 induction l with
 | nil => simp
 | cons x l ih =>
  obtain ⟨h1, _, h3⟩ := h
  have := ih h3
  have : 1 ≤ (at1 x).length := by unfold ne at h1; cases hh : at1 x with | nil => exact absurd hh h1 | cons => simp
  rw [ats_cons, List.length_cons, List.length_append]; omega
theorem kd_at1 {x : S25} (h : okA x) : ∀ a ∈ at1 x, a.kd = x.f0 := by
 rcases okA_cases h with ⟨n, rfl⟩ | ⟨n, rfl⟩ | ⟨t, ht, rfl⟩
 ·intro a ha; rw [at1_K] at ha; rw [List.eq_of_mem_replicate ha]; rfl
 ·intro a ha; rw [at1_D] at ha; rw [List.eq_of_mem_replicate ha]; rfl
 ·intro a ha; rw [at1_I 0 ht] at ha; obtain ⟨c, _, rfl⟩ := List.mem_map.1 ha; rfl
theorem blocks {z : Int} : ∀ {a b c d : List At}, (∀ x ∈ a, x.kd = z) → (∀ x ∈ b, x.kd = z) → (∀ x l, c = x :: l → x.kd ≠ z) → (∀ x l, d = x :: l → x.kd ≠ z) → a ++ c = b ++ d → a = b ∧ c = d
 | [], [], c, d, _, _, _, _, e => ⟨rfl, e⟩
 | x :: a, [], c, d, ha, _, _, hd, e => absurd (ha x (by simp)) (hd x (a ++ c) (by simpa using e.symm))
 | [], y :: b, c, d, _, hb, hc, _, e => absurd (hb y (by simp)) (hc y (b ++ d) (by simpa using e))
 | x :: a, y :: b, c, d, ha, hb, hc, hd, e => by
  rw [List.cons_append, List.cons_append] at e
  injection e with e1 e2
  subst e1
  obtain ⟨r1, r2⟩ := blocks (a := a) (b := b) (fun x hx => ha x (by simp [hx])) (fun x hx => hb x (by simp [hx])) hc hd e2
  exact ⟨by rw [r1], r2⟩
theorem at1_inj {x y : S25} (hx : okA x) (hy : okA y) (hk : x.f0 = y.f0) (h : at1 x = at1 y) : x = y := by
 rcases okA_cases hx with ⟨n, rfl⟩ | ⟨n, rfl⟩ | ⟨t, ht, rfl⟩ <;> rcases okA_cases hy with ⟨m, rfl⟩ | ⟨m, rfl⟩ | ⟨u, hu, rfl⟩ <;> simp only at hk <;> try (exact absurd hk (by decide))
 ·rw [at1_K, at1_K] at h
  have := congrArg List.length h
  simp only [List.length_replicate] at this
  rw [show n = m by omega]
 ·rw [at1_D, at1_D] at h
  have := congrArg List.length h
  simp only [List.length_replicate] at this
  rw [show n = m by omega]
 ·rw [at1_I 0 ht, at1_I 0 hu] at h
  have : t = u := List.map_inj_right (fun a b e => by injection e) |>.1 h
  rw [this]
theorem alt_head {x : S25} {l : List S25} (ha : Alt (x :: l)) (hw : W l) : ∀ a m, ats l = a :: m → a.kd ≠ x.f0 := by
 intro a m e
 obtain ⟨_, h2, h3⟩ := ha
 cases l with
 | nil => rw [ats_nil] at e; cases e
 | cons y l =>
  have hy := (W_cons.1 hw).1
  have hn := h3.1
  rw [ats_cons] at e
  cases hh : at1 y with
  | nil => exact absurd hh hn
  | cons b u =>
   rw [hh, List.cons_append] at e
   injection e with e _
   have := kd_at1 hy b (by rw [hh]; simp)
   rw [← e, this]
   exact fun e => h2 y l rfl e.symm
theorem alt_uniq : ∀ {a b : List S25}, W a → W b → Alt a → Alt b → ats a = ats b → a = b
 | [], [], _, _, _, _, _ => rfl
 | x :: a, [], _, _, ha, _, e => absurd (List.append_eq_nil_iff.1 (by rw [← ats_cons]; exact e)).1 ha.1
 | [], y :: b, _, _, _, hb, e => absurd (List.append_eq_nil_iff.1 (by rw [← ats_cons]; exact e.symm)).1 hb.1
 | x :: a, y :: b, wa, wb, ha, hb, e => by
  obtain ⟨x1, a1⟩ := W_cons.1 wa
  obtain ⟨y1, b1⟩ := W_cons.1 wb
  rw [ats_cons, ats_cons] at e
  have hk : x.f0 = y.f0 := by
   cases hh : at1 x with
   | nil => exact absurd hh ha.1
   | cons u m =>
    cases hg : at1 y with
    | nil => exact absurd hg hb.1
    | cons v n =>
     rw [hh, hg, List.cons_append, List.cons_append] at e
     injection e with e _
     rw [← kd_at1 x1 u (by rw [hh]; simp), ← kd_at1 y1 v (by rw [hg]; simp), e]
  obtain ⟨e1, e2⟩ := blocks (z := x.f0) (kd_at1 x1) (fun c hc => by rw [hk]; exact kd_at1 y1 c hc) (alt_head ha a1) (fun c l hc => by rw [hk]; exact alt_head hb b1 c l hc) e
  rw [at1_inj x1 y1 hk e1, alt_uniq a1 b1 ha.2.2 hb.2.2 e2]
def comp (xs ys : List At) : List At :=
 match xs, ys with
 | xs, .I c :: ys => .I c :: comp xs ys
 | .D :: xs, ys => .D :: comp xs ys
 | .K :: xs, .K :: ys => .K :: comp xs ys
 | .K :: xs, .D :: ys => .D :: comp xs ys
 | .I c :: xs, .K :: ys => .I c :: comp xs ys
 | .I c :: xs, .D :: ys => comp xs ys
 | _, _ => []
termination_by xs.length + ys.length
theorem comp_I (xs ys : List At) (c : Int) : comp xs (.I c :: ys) = .I c :: comp xs ys := by rw [comp]
def noI (l : List At) : Prop := ∀ c l', l ≠ At.I c :: l'
theorem comp_D (xs ys : List At) (h : noI ys) : comp (.D :: xs) ys = .D :: comp xs ys := by rw [comp]; exact fun c l e => h c l e
theorem comp_KK (xs ys : List At) : comp (.K :: xs) (.K :: ys) = .K :: comp xs ys := by rw [comp]
theorem comp_KD (xs ys : List At) : comp (.K :: xs) (.D :: ys) = .D :: comp xs ys := by rw [comp]
theorem comp_IK (xs ys : List At) (c : Int) : comp (.I c :: xs) (.K :: ys) = .I c :: comp xs ys := by rw [comp]
theorem comp_ID (xs ys : List At) (c : Int) : comp (.I c :: xs) (.D :: ys) = comp xs ys := by rw [comp]
theorem comp_nil : comp [] [] = [] := by rw [comp] <;> (intros; simp_all)
theorem comp_rI (xs ys : List At) : ∀ t : List Int, comp xs (t.map At.I ++ ys) = t.map At.I ++ comp xs ys
 | [] => rfl
 | c :: t => by rw [List.map_cons, List.cons_append, comp_I, comp_rI xs ys t]; rfl
theorem comp_rD (xs ys : List At) (h : noI ys) : ∀ n : Nat, comp (List.replicate n At.D ++ xs) ys = List.replicate n At.D ++ comp xs ys
 | 0 => rfl
 | n + 1 => by rw [List.replicate_succ, List.cons_append, comp_D _ _ h, comp_rD xs ys h n]; rfl
theorem comp_rKK (xs ys : List At) : ∀ n : Nat, comp (List.replicate n At.K ++ xs) (List.replicate n At.K ++ ys) = List.replicate n At.K ++ comp xs ys
 | 0 => rfl
 | n + 1 => by rw [List.replicate_succ, List.cons_append, List.cons_append, comp_KK, comp_rKK xs ys n]; rfl
theorem comp_rKD (xs ys : List At) : ∀ n : Nat, comp (List.replicate n At.K ++ xs) (List.replicate n At.D ++ ys) = List.replicate n At.D ++ comp xs ys
 | 0 => rfl
 | n + 1 => by rw [List.replicate_succ, List.replicate_succ, List.cons_append, List.cons_append, comp_KD, comp_rKD xs ys n]; rfl
theorem comp_rIK (xs ys : List At) : ∀ t : List Int, comp (t.map At.I ++ xs) (List.replicate t.length At.K ++ ys) = t.map At.I ++ comp xs ys
 | [] => rfl
 | c :: t => by rw [List.map_cons, List.length_cons, List.replicate_succ, List.cons_append, List.cons_append, comp_IK, comp_rIK xs ys t]; rfl
theorem comp_rID (xs ys : List At) : ∀ t : List Int, comp (t.map At.I ++ xs) (List.replicate t.length At.D ++ ys) = comp xs ys
 | [] => rfl
 | c :: t => by rw [List.map_cons, List.length_cons, List.replicate_succ, List.cons_append, List.cons_append, comp_ID, comp_rID xs ys t]
def st : List S25 → List Int → List At
 | [], _ => []
 | x :: l, t => (if x.f0 = 2 then t.map At.I else at1 x) ++ ats l
def SV (l : List S25) (t : List Int) : Prop := W l ∧ (∀ x l', l = x :: l' → (x.f0 = 2 → Runes t ∧ t ≠ []) ∧ (x.f0 ≠ 2 → t = [] ∧ ne x) ∧ ∀ y ∈ l', ne y)
theorem sv_load {l : List S25} (h : W l) (hn : ∀ x ∈ l, ne x) : SV l (loadT l) ∧ st l (loadT l) = ats l := by
 refine ⟨⟨h, fun x l' e => ?_⟩, ?_⟩
 ·subst e
  obtain ⟨n1, n2⟩ := List.forall_mem_cons.1 hn
  refine ⟨fun hk => ?_, fun hk => ?_, n2⟩
  ·rcases okA_cases (W_cons.1 h).1 with ⟨n, rfl⟩ | ⟨n, rfl⟩ | ⟨t, ht, rfl⟩
   ·exact absurd hk (show ¬ (1 : Int) = 2 by decide)
   ·exact absurd hk (show ¬ (3 : Int) = 2 by decide)
   ·show Runes (runesS (enc t)) ∧ runesS (enc t) ≠ []
    rw [runes_enc ht]
    unfold ne at n1
    rw [at1_I 0 ht] at n1
    exact ⟨ht, fun e => n1 (by rw [e]; rfl)⟩
  ·rcases okA_cases (W_cons.1 h).1 with ⟨n, rfl⟩ | ⟨n, rfl⟩ | ⟨t, ht, rfl⟩
   ·exact ⟨rfl, n1⟩
   ·exact ⟨rfl, n1⟩
   ·exact absurd rfl hk
 ·cases l with
  | nil => rfl
  | cons x l =>
   rw [ats_cons]
   show (if x.f0 = 2 then (runesS x.f2).map At.I else at1 x) ++ ats l = _
   unfold at1
   split <;> rfl
theorem sv_cases {x : S25} {l : List S25} {t : List Int} (h : SV (x :: l) t) : W l ∧ (∀ y ∈ l, ne y) ∧ ((∃ n : Nat, 0 < n ∧ x = ⟨1, (n : Int), ⟨#[]⟩⟩ ∧ t = [] ∧ st (x :: l) t = List.replicate n At.K ++ ats l) ∨ (∃ n : Nat, 0 < n ∧ x = ⟨3, (n : Int), ⟨#[]⟩⟩ ∧ t = [] ∧ st (x :: l) t = List.replicate n At.D ++ ats l) ∨ (∃ s, x = ⟨2, 0, s⟩ ∧ Runes t ∧ t ≠ [] ∧ st (x :: l) t = t.map At.I ++ ats l)) := by
 obtain ⟨hw, hs⟩ := h
 obtain ⟨s1, s2, s3⟩ := hs x l rfl
 obtain ⟨w1, w2⟩ := W_cons.1 hw
 refine ⟨w2, s3, ?_⟩
 rcases okA_cases w1 with ⟨n, rfl⟩ | ⟨n, rfl⟩ | ⟨t', ht, rfl⟩
 ·obtain ⟨a, b⟩ := s2 (show ¬ (1 : Int) = 2 by decide)
  refine .inl ⟨n, ?_, rfl, a, rfl⟩
  unfold ne at b
  rw [at1_K] at b
  cases n with
  | zero => exact absurd rfl b
  | succ n => omega
 ·obtain ⟨a, b⟩ := s2 (show ¬ (3 : Int) = 2 by decide)
  refine .inr (.inl ⟨n, ?_, rfl, a, rfl⟩)
  unfold ne at b
  rw [at1_D] at b
  cases n with
  | zero => exact absurd rfl b
  | succ n => omega
 ·obtain ⟨a, b⟩ := s1 rfl
  exact .inr (.inr ⟨_, rfl, a, b, rfl⟩)
theorem restN_ne' {f a m : Int} {s : ByteArray} {l : List S25} (h : a ≠ m) : restN f a m s l = ⟨f, a - m, s⟩ :: l := if_neg h
theorem restN_eq' {f a : Int} {s : ByteArray} {l : List S25} : restN f a a s l = l := if_pos rfl
theorem restT_ne' {a m : Int} {l : List S25} (h : a ≠ m) : restT a m l = [] := if_neg h
theorem restT_eq' {a : Int} {l : List S25} : restT a a l = loadT l := if_pos rfl
def atk (f : Int) : At := if f = 1 then At.K else At.D
theorem sv_restN {f : Int} {n m : Nat} {l : List S25} (hf : f = 1 ∨ f = 3) (hm : m ≤ n) (h : W l) (hn : ∀ y ∈ l, ne y) : SV (restN f (n : Int) (m : Int) ⟨#[]⟩ l) (restT (n : Int) (m : Int) l) ∧ st (restN f (n : Int) (m : Int) ⟨#[]⟩ l) (restT (n : Int) (m : Int) l) = List.replicate (n - m) (atk f) ++ ats l ∧ (restN f (n : Int) (m : Int) ⟨#[]⟩ l).length ≤ l.length + 1 ∧ (n = m → (restN f (n : Int) (m : Int) ⟨#[]⟩ l).length = l.length) := by
 by_cases c : n = m
 ·subst c
  rw [restN_eq', restT_eq']
  obtain ⟨a, b⟩ := sv_load h hn
  exact ⟨a, by rw [b, Nat.sub_self]; rfl, by omega, fun _ => rfl⟩
 ·rw [restN_ne' (by omega), restT_ne' (by omega)]
  have e : (n : Int) - (m : Int) = ((n - m : Nat) : Int) := by omega
  rw [e]
  have ok : okA ⟨f, ((n - m : Nat) : Int), ⟨#[]⟩⟩ := by rcases hf with rfl | rfl; exact okA_K _; exact okA_D _
  have ea : at1 ⟨f, ((n - m : Nat) : Int), ⟨#[]⟩⟩ = List.replicate (n - m) (atk f) := by rcases hf with rfl | rfl <;> rfl
  have f2 : f ≠ 2 := by rcases hf with rfl | rfl <;> decide
  refine ⟨⟨W_cons.2 ⟨ok, h⟩, fun x l' e => ?_⟩, ?_, by simp, fun e => absurd e c⟩
  ·injection e with e1 e2
   subst e1 e2
   refine ⟨fun e => absurd e f2, fun _ => ⟨rfl, ?_⟩, hn⟩
   unfold ne
   rw [ea]
   intro e
   have := congrArg List.length e
   simp at this
   omega
  ·show (if f = 2 then _ else _) ++ _ = _
   rw [if_neg f2, ea]
theorem sv_restI {s : ByteArray} {t : List Int} {m : Nat} {l : List S25} (ht : Runes t) (hx : okA ⟨2, 0, s⟩) (hm : m ≤ t.length) (h : W l) (hn : ∀ y ∈ l, ne y) :
  SV (if (t.length : Int) = (m : Int) then l else ⟨2, 0, s⟩ :: l) (if (t.length : Int) = (m : Int) then loadT l else t.drop m) ∧ st (if (t.length : Int) = (m : Int) then l else ⟨2, 0, s⟩ :: l) (if (t.length : Int) = (m : Int) then loadT l else t.drop m) = (t.drop m).map At.I ++ ats l ∧
   (if (t.length : Int) = (m : Int) then l else ⟨2, 0, s⟩ :: l).length ≤ l.length + 1 ∧ (t.length = m → (if (t.length : Int) = (m : Int) then l else (⟨2, 0, s⟩ : S25) :: l).length = l.length) := by
 by_cases c : t.length = m
 ·rw [if_pos (by omega), if_pos (by omega)]
  obtain ⟨a, b⟩ := sv_load h hn
  exact ⟨a, by rw [b, List.drop_of_length_le (by omega)]; rfl, by omega, fun _ => rfl⟩
 ·rw [if_neg (by omega), if_neg (by omega)]
  refine ⟨⟨W_cons.2 ⟨hx, h⟩, fun x l' e => ?_⟩, rfl, by simp, fun e => absurd e c⟩
  injection e with e1 e2
  subst e1 e2
  refine ⟨fun _ => ⟨ht.drop _, fun e => ?_⟩, fun e => absurd rfl e, hn⟩
  have := congrArg List.length e
  simp at this
  omega
theorem noI_rep {a : At} (h : ∀ c, a ≠ At.I c) {n : Nat} (hn : 0 < n) (l : List At) : noI (List.replicate n a ++ l) := by
 intro c l' e
 cases n with
 | zero => omega
 | succ n => rw [List.replicate_succ, List.cons_append] at e; injection e with e _; exact h c e
theorem mn_nat (a b : Nat) : mn (a : Int) (b : Int) = ((min a b : Nat) : Int) := by
 unfold mn; split <;> omega
theorem rep_split (a : At) {m n : Nat} (h : m ≤ n) : List.replicate n a = List.replicate m a ++ List.replicate (n - m) a := by
 rw [List.replicate_append_replicate]; congr 1; omega
theorem W_nil : W [] := fun _ h => by cases h
theorem comp_l : ∀ (m : Nat) (xl : List S25) (xt : List Int) (yl : List S25) (yt : List Int) (out : List S25), SV xl xt → SV yl yt → xl.length + yl.length ≤ m → (st xl xt).length ≤ 1000000 → (st yl yt).length ≤ 1000000 → out.length + m ≤ 100000000 → outs (st xl xt) = ins (st yl yt) →
    ∃ r, (∀ k, m + 1 ≤ k → compose_Of.l k xl xt yl yt out = some (out ++ r)) ∧ W r ∧ ats r = comp (st xl xt) (st yl yt) ∧ r.length ≤ xl.length + yl.length := by
  intro m
  induction m with
  | zero =>
    intro xl xt yl yt out hx hy hm bx bY ho hio
    obtain rfl : xl = [] := List.length_eq_zero_iff.1 (by omega)
    obtain rfl : yl = [] := List.length_eq_zero_iff.1 (by omega)
    refine ⟨[], fun k hk => ?_, W_nil, comp_nil.symm, by simp⟩
    obtain ⟨k, rfl⟩ : ∃ j, k = j + 1 := ⟨k - 1, by omega⟩
    rw [cl_end k [] [] xt yt out (by omega) (show ¬ (0 : Int) = 2 by decide) (show ¬ (0 : Int) = 3 by decide) (.inl rfl), List.append_nil]
  | succ m ih =>
    intro xl xt yl yt out hx hy hm bx bY ho hio
    by_cases hput : kindT yl = 2
    · cases yl with
      | nil => exact absurd hput (show ¬ (0 : Int) = 2 by decide)
      | cons y ys =>
        obtain ⟨wy, ny, hy⟩ := sv_cases hy
        rcases hy with ⟨p, hp, rfl, rfl, est⟩ | ⟨p, hp, rfl, rfl, est⟩ | ⟨s, rfl, rt, tne, est⟩
        · exact absurd hput (show ¬ (1 : Int) = 2 by decide)
        · exact absurd hput (show ¬ (3 : Int) = 2 by decide)
        · obtain ⟨sv, es⟩ := sv_load wy ny
          rw [est] at bY hio ⊢
          rw [List.length_append, List.length_map] at bY
          rw [ins_app, ins_I] at hio
          rw [List.length_cons] at hm
          obtain ⟨r, h1, h2, h3, h4⟩ := ih xl xt ys (loadT ys) (out ++ [sI yt]) hx sv (by omega) bx (by rw [es]; omega) (by rw [List.length_append, List.length_singleton]; omega) (by rw [es]; omega)
          refine ⟨sI yt :: r, fun k hk => ?_, W_cons.2 ⟨okA_I rt, h2⟩, ?_, by rw [List.length_cons, List.length_cons]; omega⟩
          · obtain ⟨k, rfl⟩ : ∃ j, k = j + 1 := ⟨k - 1, by omega⟩
            rw [cl_put k xl ys xt yt s out rt (by omega) (by omega), h1 k (by omega), List.append_assoc]; rfl
          · rw [ats_cons, at1_I 0 rt, h3, es, comp_rI]
    · have hno : noI (st yl yt) := by
        cases yl with
        | nil => intro c l' e; cases e
        | cons y ys =>
          obtain ⟨wy, ny, hy⟩ := sv_cases hy
          rcases hy with ⟨p, hp, rfl, rfl, est⟩ | ⟨p, hp, rfl, rfl, est⟩ | ⟨s, rfl, rt, tne, est⟩
          · rw [est]; exact noI_rep (fun c e => by cases e) hp _
          · rw [est]; exact noI_rep (fun c e => by cases e) hp _
          · exact absurd rfl hput
      cases xl with
      | nil =>
        cases yl with
        | nil =>
          refine ⟨[], fun k hk => ?_, W_nil, comp_nil.symm, by simp⟩
          obtain ⟨k, rfl⟩ : ∃ j, k = j + 1 := ⟨k - 1, by omega⟩
          rw [cl_end k [] [] xt yt out (by omega) (show ¬ (0 : Int) = 2 by decide) (show ¬ (0 : Int) = 3 by decide) (.inl rfl), List.append_nil]
        | cons y ys =>
          exfalso
          obtain ⟨wy, ny, hy⟩ := sv_cases hy
          have e0 : outs (st [] xt) = 0 := rfl
          rcases hy with ⟨p, hp, rfl, rfl, est⟩ | ⟨p, hp, rfl, rfl, est⟩ | ⟨s, rfl, rt, tne, est⟩
          · rw [est, ins_app, ins_K] at hio; omega
          · rw [est, ins_app, ins_D] at hio; omega
          · exact hput rfl
      | cons x xs =>
        obtain ⟨wx, nx, hx'⟩ := sv_cases hx
        rw [List.length_cons] at hm
        rcases hx' with ⟨n, hn, rfl, rfl, esx⟩ | ⟨n, hn, rfl, rfl, esx⟩ | ⟨s, rfl, rx, tnx, esx⟩
        ·
          cases yl with
          | nil => exfalso; have e0 : ins (st [] yt) = 0 := rfl
                   rw [esx, outs_app, outs_K] at hio; omega
          | cons y ys =>
            obtain ⟨wy, ny, hy⟩ := sv_cases hy
            rw [List.length_cons] at hm
            rw [esx] at bx hio ⊢
            rw [List.length_append, List.length_replicate] at bx
            rcases hy with ⟨p, hp, rfl, rfl, esy⟩ | ⟨p, hp, rfl, rfl, esy⟩ | ⟨s, rfl, rt, tne, esy⟩
            · rw [esy] at bY hio ⊢
              rw [List.length_append, List.length_replicate] at bY
              rw [outs_app, outs_K, ins_app, ins_K] at hio
              obtain ⟨a1, a2, a3, a4⟩ := sv_restN (.inl rfl) (Nat.min_le_left n p) wx nx
              obtain ⟨b1, b2, b3, b4⟩ := sv_restN (.inl rfl) (Nat.min_le_right n p) wy ny
              obtain ⟨r, h1, h2, h3, h4⟩ := ih _ _ _ _ (out ++ [sK ((min n p : Nat) : Int)]) a1 b1 (by rcases (by omega : n = min n p ∨ p = min n p) with e | e; have := a4 e; omega; have := b4 e; omega) (by rw [a2, List.length_append, List.length_replicate]; omega) (by rw [b2, List.length_append, List.length_replicate]; omega) (by rw [List.length_append, List.length_singleton]; omega) (by rw [a2, b2, outs_app, ins_app]; simp only [atk, if_pos]; rw [outs_K, ins_K]; omega)
              refine ⟨sK ((min n p : Nat) : Int) :: r, fun k hk => ?_, W_cons.2 ⟨okA_K _, h2⟩, ?_, by rw [List.length_cons]; have : (restN 1 (n : Int) ((min n p : Nat) : Int) ⟨#[]⟩ xs).length + (restN 1 (p : Int) ((min n p : Nat) : Int) ⟨#[]⟩ ys).length ≤ xs.length + ys.length + 1 := (by rcases (by omega : n = min n p ∨ p = min n p) with e | e; have := a4 e; omega; have := b4 e; omega); simp only [List.length_cons]; omega⟩
              · obtain ⟨k, rfl⟩ : ∃ j, k = j + 1 := ⟨k - 1, by omega⟩
                rw [cl_KK k xs ys n p ⟨#[]⟩ ⟨#[]⟩ out (by omega) (by omega) (by omega) (by omega) (by omega), mn_nat, h1 k (by omega), List.append_assoc]; rfl
              · rw [ats_cons, at1_K, Int.toNat_natCast, h3, a2, b2, rep_split At.K (Nat.min_le_left n p), rep_split (n := p) At.K (Nat.min_le_right n p), List.append_assoc, List.append_assoc, comp_rKK]; rfl
            · rw [esy] at bY hio ⊢
              rw [List.length_append, List.length_replicate] at bY
              rw [outs_app, outs_K, ins_app, ins_D] at hio
              obtain ⟨a1, a2, a3, a4⟩ := sv_restN (.inl rfl) (Nat.min_le_left n p) wx nx
              obtain ⟨b1, b2, b3, b4⟩ := sv_restN (.inr rfl) (Nat.min_le_right n p) wy ny
              obtain ⟨r, h1, h2, h3, h4⟩ := ih _ _ _ _ (out ++ [sD ((min n p : Nat) : Int)]) a1 b1 (by rcases (by omega : n = min n p ∨ p = min n p) with e | e; have := a4 e; omega; have := b4 e; omega) (by rw [a2, List.length_append, List.length_replicate]; omega) (by rw [b2, List.length_append, List.length_replicate]; omega) (by rw [List.length_append, List.length_singleton]; omega) (by rw [a2, b2, outs_app, ins_app]; simp only [atk, if_pos, if_neg (show ¬ (3 : Int) = 1 by decide)]; rw [outs_K, ins_D]; omega)
              refine ⟨sD ((min n p : Nat) : Int) :: r, fun k hk => ?_, W_cons.2 ⟨okA_D _, h2⟩, ?_, by rw [List.length_cons]; have : (restN 1 (n : Int) ((min n p : Nat) : Int) ⟨#[]⟩ xs).length + (restN 3 (p : Int) ((min n p : Nat) : Int) ⟨#[]⟩ ys).length ≤ xs.length + ys.length + 1 := (by rcases (by omega : n = min n p ∨ p = min n p) with e | e; have := a4 e; omega; have := b4 e; omega); simp only [List.length_cons]; omega⟩
              · obtain ⟨k, rfl⟩ : ∃ j, k = j + 1 := ⟨k - 1, by omega⟩
                rw [cl_KD k xs ys n p ⟨#[]⟩ ⟨#[]⟩ out (by omega) (by omega) (by omega) (by omega) (by omega), mn_nat, h1 k (by omega), List.append_assoc]; rfl
              · rw [ats_cons, at1_D, Int.toNat_natCast, h3, a2, b2, rep_split At.K (Nat.min_le_left n p), rep_split (n := p) At.D (Nat.min_le_right n p), List.append_assoc, List.append_assoc, comp_rKD]; rfl
            · exact absurd rfl hput
        ·
          obtain ⟨sv, es⟩ := sv_load wx nx
          rw [esx] at bx hio ⊢
          rw [List.length_append, List.length_replicate] at bx
          rw [outs_app, outs_D] at hio
          obtain ⟨r, h1, h2, h3, h4⟩ := ih xs (loadT xs) yl yt (out ++ [sD (n : Int)]) sv hy (by omega) (by rw [es]; omega) bY (by rw [List.length_append, List.length_singleton]; omega) (by rw [es]; omega)
          refine ⟨sD (n : Int) :: r, fun k hk => ?_, W_cons.2 ⟨okA_D _, h2⟩, ?_, by rw [List.length_cons, List.length_cons]; omega⟩
          · obtain ⟨k, rfl⟩ : ∃ j, k = j + 1 := ⟨k - 1, by omega⟩
            rw [cl_drop k xs yl yt n ⟨#[]⟩ out (by omega) (by omega) hput (by omega), h1 k (by omega), List.append_assoc]; rfl
          · rw [ats_cons, at1_D, Int.toNat_natCast, h3, es, comp_rD _ _ hno]
        ·
          cases yl with
          | nil => exfalso; have e0 : ins (st [] yt) = 0 := rfl
                   rw [esx, outs_app, outs_I] at hio
                   cases xt with | nil => exact tnx rfl | cons c t => rw [List.length_cons] at hio; omega
          | cons y ys =>
            obtain ⟨wy, ny, hy⟩ := sv_cases hy
            have okx : okA ⟨2, 0, s⟩ := hx.1 _ (by simp)
            have px : 0 < xt.length := by cases xt with | nil => exact absurd rfl tnx | cons => simp
            rw [List.length_cons] at hm
            rw [esx] at bx hio ⊢
            rw [List.length_append, List.length_map] at bx
            rcases hy with ⟨p, hp, rfl, rfl, esy⟩ | ⟨p, hp, rfl, rfl, esy⟩ | ⟨s', rfl, rt, tne, esy⟩
            · rw [esy] at bY hio ⊢
              rw [List.length_append, List.length_replicate] at bY
              rw [outs_app, outs_I, ins_app, ins_K] at hio
              obtain ⟨a1, a2, a3, a4⟩ := sv_restI (s := s) rx okx (Nat.min_le_left xt.length p) wx nx
              obtain ⟨b1, b2, b3, b4⟩ := sv_restN (.inl rfl) (Nat.min_le_right xt.length p) wy ny
              obtain ⟨r, h1, h2, h3, h4⟩ := ih _ _ _ _ (out ++ [sI (xt.take (min xt.length p))]) a1 b1 (by rcases (by omega : xt.length = min xt.length p ∨ p = min xt.length p) with e | e; have := a4 e; omega; have := b4 e; omega) (by rw [a2, List.length_append, List.length_map, List.length_drop]; omega) (by rw [b2, List.length_append, List.length_replicate]; omega) (by rw [List.length_append, List.length_singleton]; omega) (by rw [a2, b2, outs_app, ins_app]; simp only [atk, if_pos]; rw [outs_I, ins_K, List.length_drop]; omega)
              refine ⟨sI (xt.take (min xt.length p)) :: r, fun k hk => ?_, W_cons.2 ⟨okA_I (rx.take _), h2⟩, ?_, by rw [List.length_cons]; have : (if (xt.length : Int) = ((min xt.length p : Nat) : Int) then xs else (⟨2, 0, s⟩ : S25) :: xs).length + (restN 1 (p : Int) ((min xt.length p : Nat) : Int) ⟨#[]⟩ ys).length ≤ xs.length + ys.length + 1 := (by rcases (by omega : xt.length = min xt.length p ∨ p = min xt.length p) with e | e; have := a4 e; omega; have := b4 e; omega); simp only [List.length_cons]; omega⟩
              · obtain ⟨k, rfl⟩ : ∃ j, k = j + 1 := ⟨k - 1, by omega⟩
                rw [cl_IK k xs ys xt p s ⟨#[]⟩ out rx (by omega) (by omega) (by omega) (by omega), mn_nat, Int.toNat_natCast, h1 k (by omega), List.append_assoc]; rfl
              · have e1 : xt.map At.I ++ ats xs = (xt.take (min xt.length p)).map At.I ++ ((xt.drop (min xt.length p)).map At.I ++ ats xs) := by rw [← List.append_assoc, ← List.map_append, List.take_append_drop]
                have e2 : List.replicate p At.K ++ ats ys = List.replicate (xt.take (min xt.length p)).length At.K ++ (List.replicate (p - min xt.length p) At.K ++ ats ys) := by rw [List.length_take, ← List.append_assoc, show min (min xt.length p) xt.length = min xt.length p by omega, ← rep_split At.K (Nat.min_le_right xt.length p)]
                rw [ats_cons, at1_I 0 (rx.take _), h3, a2, b2, e1, e2, comp_rIK]; rfl
            · rw [esy] at bY hio ⊢
              rw [List.length_append, List.length_replicate] at bY
              rw [outs_app, outs_I, ins_app, ins_D] at hio
              obtain ⟨a1, a2, a3, a4⟩ := sv_restI (s := s) rx okx (Nat.min_le_left xt.length p) wx nx
              obtain ⟨b1, b2, b3, b4⟩ := sv_restN (.inr rfl) (Nat.min_le_right xt.length p) wy ny
              obtain ⟨r, h1, h2, h3, h4⟩ := ih _ _ _ _ out a1 b1 (by rcases (by omega : xt.length = min xt.length p ∨ p = min xt.length p) with e | e; have := a4 e; omega; have := b4 e; omega) (by rw [a2, List.length_append, List.length_map, List.length_drop]; omega) (by rw [b2, List.length_append, List.length_replicate]; omega) (by omega) (by rw [a2, b2, outs_app, ins_app]; simp only [atk, if_neg (show ¬ (3 : Int) = 1 by decide)]; rw [outs_I, ins_D, List.length_drop]; omega)
              refine ⟨r, fun k hk => ?_, h2, ?_, by simp only [List.length_cons]; omega⟩
              · obtain ⟨k, rfl⟩ : ∃ j, k = j + 1 := ⟨k - 1, by omega⟩
                rw [cl_ID k xs ys xt p s ⟨#[]⟩ out rx (by omega) (by omega) (by omega) (by omega), mn_nat, Int.toNat_natCast, h1 k (by omega)]
              · have e1 : xt.map At.I ++ ats xs = (xt.take (min xt.length p)).map At.I ++ ((xt.drop (min xt.length p)).map At.I ++ ats xs) := by rw [← List.append_assoc, ← List.map_append, List.take_append_drop]
                have e2 : List.replicate p At.D ++ ats ys = List.replicate (xt.take (min xt.length p)).length At.D ++ (List.replicate (p - min xt.length p) At.D ++ ats ys) := by rw [List.length_take, ← List.append_assoc, show min (min xt.length p) xt.length = min xt.length p by omega, ← rep_split At.D (Nat.min_le_right xt.length p)]
                rw [h3, a2, b2, e1, e2, comp_rID]; rfl
            · exact absurd rfl hput
theorem comp_len : ∀ (n : Nat) (xs ys : List At), xs.length + ys.length ≤ n → outs xs = ins ys → ins (comp xs ys) = ins xs ∧ outs (comp xs ys) = outs ys ∧ (comp xs ys).length ≤ xs.length + ys.length
 | 0, xs, ys, h, _ => by
  obtain rfl : xs = [] := List.length_eq_zero_iff.1 (by omega)
  obtain rfl : ys = [] := List.length_eq_zero_iff.1 (by omega)
  rw [comp_nil]; simp [ins, outs]
 | n + 1, xs, ys, h, hio => by
  by_cases c : noI ys
  ·cases xs with
   | nil =>
    cases ys with
    | nil => rw [comp_nil]; simp [ins, outs]
    | cons y ys =>
     exfalso
     rw [outs_nil, ins_cons] at hio
     cases y with
     | K => simp [At.i] at hio; omega
     | D => simp [At.i] at hio; omega
     | I c' => exact c c' ys rfl
   | cons x xs =>
    rw [List.length_cons] at h
    cases x with
    | D =>
     rw [outs_cons] at hio
     obtain ⟨h1, h2, h3⟩ := comp_len n xs ys (by omega) (by simpa [At.o] using hio)
     rw [comp_D _ _ c, ins_cons, outs_cons, ins_cons, h1, h2, List.length_cons, List.length_cons]
     simp [At.i, At.o]; omega
    | K =>
     cases ys with
     | nil => exfalso; rw [outs_cons, ins_nil] at hio; simp only [At.o] at hio; omega
     | cons y ys =>
      rw [List.length_cons] at h
      rw [outs_cons, ins_cons] at hio
      cases y with
      | K =>
       obtain ⟨h1, h2, h3⟩ := comp_len n xs ys (by omega) (by simpa [At.o, At.i] using hio)
       rw [comp_KK, ins_cons, outs_cons, ins_cons, outs_cons, h1, h2, List.length_cons, List.length_cons, List.length_cons]
       simp [At.i, At.o]; omega
      | D =>
       obtain ⟨h1, h2, h3⟩ := comp_len n xs ys (by omega) (by simpa [At.o, At.i] using hio)
       rw [comp_KD, ins_cons, outs_cons, ins_cons, outs_cons, h1, h2, List.length_cons, List.length_cons, List.length_cons]
       simp [At.i, At.o]; omega
      | I c' => exact absurd rfl (c c' ys)
    | I a =>
     cases ys with
     | nil => exfalso; rw [outs_cons, ins_nil] at hio; simp only [At.o] at hio; omega
     | cons y ys =>
      rw [List.length_cons] at h
      rw [outs_cons, ins_cons] at hio
      cases y with
      | K =>
       obtain ⟨h1, h2, h3⟩ := comp_len n xs ys (by omega) (by simpa [At.o, At.i] using hio)
       rw [comp_IK, ins_cons, outs_cons, ins_cons, outs_cons, h1, h2, List.length_cons, List.length_cons, List.length_cons]
       simp [At.i, At.o]; omega
      | D =>
       obtain ⟨h1, h2, h3⟩ := comp_len n xs ys (by omega) (by simpa [At.o, At.i] using hio)
       rw [comp_ID, ins_cons, outs_cons, h1, h2, List.length_cons, List.length_cons]
       simp [At.i, At.o]; omega
      | I c' => exact absurd rfl (c c' ys)
  ·obtain ⟨a, l, rfl⟩ : ∃ a l, ys = At.I a :: l := by
    cases ys with
    | nil => exact absurd (fun c' l' e => by cases e) c
    | cons y ys =>
     cases y with
     | K => exact absurd (fun c' l' e => by cases e) c
     | D => exact absurd (fun c' l' e => by cases e) c
     | I a => exact ⟨a, ys, rfl⟩
   rw [List.length_cons] at h
   rw [ins_cons] at hio
   obtain ⟨h1, h2, h3⟩ := comp_len n xs l (by omega) (by simpa [At.i] using hio)
   rw [comp_I, ins_cons, outs_cons, outs_cons, h1, h2, List.length_cons, List.length_cons]
   simp [At.i, At.o]; omega
theorem comp_keep : ∀ (ys : List At), comp (List.replicate (ins ys) At.K) ys = ys
 | [] => comp_nil
 | .I c :: ys => by rw [ins_cons, comp_I]; simp only [At.i, Nat.zero_add]; rw [comp_keep ys]
 | .K :: ys => by rw [ins_cons]; simp only [At.i]; rw [Nat.add_comm, List.replicate_succ, comp_KK, comp_keep ys]
 | .D :: ys => by rw [ins_cons]; simp only [At.i]; rw [Nat.add_comm, List.replicate_succ, comp_KD, comp_keep ys]
theorem comp_A {a b : List S25} (wa : W a) (wb : W b) (ba : (ats a).length ≤ 1000000) (bb : (ats b).length ≤ 1000000) (ll : a.length + b.length ≤ 1000000) (hab : (ats a).length + (ats b).length ≤ 1000000) (hio : outs (ats a) = ins (ats b)) :
  ∃ r, (∀ k, a.length + b.length + 4 ≤ k → compose_Of.f k a b = some (r, 0)) ∧ W r ∧ Alt r ∧ ats r = comp (ats a) (ats b) ∧ r.length ≤ a.length + b.length := by
 have la : a.length ≤ 1000000 := by omega
 have lb : b.length ≤ 1000000 := by omega
 obtain ⟨w1, n1, e1, l1⟩ := norm_A wa ba
 obtain ⟨w2, n2, e2, l2⟩ := norm_A wb bb
 obtain ⟨s1, t1⟩ := sv_load w1 (alt_ne n1)
 obtain ⟨s2, t2⟩ := sv_load w2 (alt_ne n2)
 have cl := (comp_len _ (ats a) (ats b) (Nat.le_refl _) hio).2.2
 obtain ⟨r, h1, h2, h3, h4⟩ := comp_l ((normal_Of.n a).length + (normal_Of.n b).length) _ _ _ _ [] s1 s2 (Nat.le_refl _) (by rw [t1, e1]; exact ba) (by rw [t2, e2]; exact bb) (by simp only [List.length_nil]; omega) (by rw [t1, t2, e1, e2]; exact hio)
 rw [t1, t2, e1, e2] at h3
 obtain ⟨w3, n3, e3, l3⟩ := norm_A h2 (by rw [h3]; omega)
 refine ⟨normal_Of.n r, fun k hk => ?_, w3, n3, by rw [e3, h3], by omega⟩
 have hi := ins_le (ats b)
 unfold compose_Of.f
 rw [may_A wa ba la k (by omega), Option.bind_some, if_pos rfl, may_A wb bb lb k (by omega), Option.bind_some, if_pos rfl, out_A wa ba la, Option.bind_some, in_A wb bb lb, Option.bind_some, if_pos (by omega)]
 have t1' := text_le wa
 have t2' := text_le wb
 rw [if_pos (by omega), h1 k (by omega), Option.bind_some, List.nil_append, normal_A h2 (by rw [h3]; omega) (by omega)]
 rfl
theorem tm3 (x : Int) : -3 < Int.tmod x 3 ∧ Int.tmod x 3 < 3 := ⟨Int.lt_tmod_of_pos x (by decide), Int.tmod_lt_of_pos x (by decide)⟩
theorem tm7 (x : Int) : -7 < Int.tmod x 7 ∧ Int.tmod x 7 < 7 := ⟨Int.lt_tmod_of_pos x (by decide), Int.tmod_lt_of_pos x (by decide)⟩
theorem kd_cases (x : Int) : wrap64 (1 + Int.tmod (wrap64 (Int.tmod x 3 + 3)) 3) = 1 ∨ wrap64 (1 + Int.tmod (wrap64 (Int.tmod x 3 + 3)) 3) = 2 ∨ wrap64 (1 + Int.tmod (wrap64 (Int.tmod x 3 + 3)) 3) = 3 := by
 have h := tm3 x
 rw [w64 (x := Int.tmod x 3 + 3) (by omega) (by omega), Int.tmod_eq_emod_of_nonneg (a := Int.tmod x 3 + 3) (by omega), w64 (by omega) (by omega)]
 omega
theorem nn_range (x : Int) : 0 ≤ Int.tmod (wrap64 (Int.tmod x 7 + 7)) 7 ∧ Int.tmod (wrap64 (Int.tmod x 7 + 7)) 7 ≤ 6 := by
 have h := tm7 x
 rw [w64 (x := Int.tmod x 7 + 7) (by omega) (by omega), Int.tmod_eq_emod_of_nonneg (a := Int.tmod x 7 + 7) (by omega)]
 omega
theorem fit_small (s : ByteArray) (h : s.size ≤ 20) (k : Nat) (hk : 200 ≤ k) : ∃ l, epitomeref01_Fit.f k s = some (enc l) ∧ Runes l ∧ l.length = s.size := by
 have hl := epitomeref01_Fit.len s
 refine ⟨epitomeref01_Fit.l s, ?_, fit_rune s, by omega⟩
 unfold epitomeref01_Fit.f
 rw [if_pos (by omega), refOf _ (by omega) _ _ (by omega), filter_runes (fit_rune s)]
 intro x hx
 have := fit_rune s x hx
 unfold isRune at this; omega
theorem W_snoc {d : List S25} {x : S25} (hd : W d) (hx : okA x) : W (d ++ [x]) := W_app.2 ⟨hd, W_cons.2 ⟨hx, W_nil⟩⟩
theorem ats_snoc (d : List S25) (x : S25) : ats (d ++ [x]) = ats d ++ at1 x := by rw [ats_app, ats_cons, ats_nil, List.append_nil]
theorem fit_l (l : List S25) : ∀ (d i k n : Nat) (out : List S25), 12 - i = d → i ≤ 12 → W out → out.length ≤ 100 + i → n ≤ 1000000 → 300 + 2 * d ≤ k →
  ∃ r, epitomeref04_Fit.l0 k l (n : Int) out (i : Int) = some r ∧ W r ∧ ins (ats r) = ins (ats out) + n ∧ (ats r).length ≤ (ats out).length + n + 6 * d ∧ r.length ≤ out.length + d + 1 := by
 intro d
 induction d with
 | zero =>
  intro i k n out hd hi hw ho hn hk
  have ho' : out.length < 4398046511104 := by omega
  obtain ⟨k, rfl⟩ : ∃ j, k = j + 2 := ⟨k - 2, by omega⟩
  have fin : ∃ r, epitomeref04_Fit.j1 (k + 1) l (n : Int) out (i : Int) false = some r ∧ W r ∧ ins (ats r) = ins (ats out) + n ∧ (ats r).length ≤ (ats out).length + n + 6 * 0 ∧ r.length ≤ out.length + 0 + 1 := by
   rw [epitomeref04_Fit.j1, if_neg (by decide)]
   by_cases c : (n : Int) > 0
   ·rw [if_pos c, if_pos ho']
    refine ⟨_, rfl, W_snoc hw (okA_K n), ?_, ?_, by simp⟩
    ·rw [ats_snoc, ins_app, at1_K, ins_K]; simp
    ·rw [ats_snoc, List.length_append, at1_K, List.length_replicate, Int.toNat_natCast]; omega
   ·rw [if_neg c]
    exact ⟨_, rfl, hw, by omega, by omega, by omega⟩
  rw [epitomeref04_Fit.l0]
  split
  ·rw [show decide ((i : Int) < 12) = false from decide_eq_false (by omega)]; exact fin
  ·exact fin
 | succ d ih =>
  intro i k n out hd hi hw ho hn hk
  have ho' : out.length < 4398046511104 := by omega
  obtain ⟨k, rfl⟩ : ∃ j, k = j + 2 := ⟨k - 2, by omega⟩
  have fin : ∃ r, epitomeref04_Fit.j1 (k + 1) l (n : Int) out (i : Int) false = some r ∧ W r ∧ ins (ats r) = ins (ats out) + n ∧ (ats r).length ≤ (ats out).length + n + 6 * (d + 1) ∧ r.length ≤ out.length + (d + 1) + 1 := by
   rw [epitomeref04_Fit.j1, if_neg (by decide)]
   by_cases c : (n : Int) > 0
   ·rw [if_pos c, if_pos ho']
    refine ⟨_, rfl, W_snoc hw (okA_K n), ?_, ?_, by simp⟩
    ·rw [ats_snoc, ins_app, at1_K, ins_K]; simp
    ·rw [ats_snoc, List.length_append, at1_K, List.length_replicate, Int.toNat_natCast]; omega
   ·rw [if_neg c]
    exact ⟨_, rfl, hw, by omega, by omega, by omega⟩
  rw [epitomeref04_Fit.l0]
  split
  ·rename_i hlt
   rw [show decide ((i : Int) < 12) = true from decide_eq_true (by omega), epitomeref04_Fit.j1, if_pos rfl, if_pos (by omega), if_pos hlt]
   have hkd := kd_cases (rd_T25 l (i : Int)).f0
   have hnn := nn_range (rd_T25 l (i : Int)).f1
   obtain ⟨x, ex⟩ : ∃ x, x = rd_T25 l (i : Int) := ⟨_, rfl⟩
   rw [← ex] at hkd hnn ⊢
   obtain ⟨K, eK⟩ : ∃ K, K = wrap64 (1 + Int.tmod (wrap64 (Int.tmod x.f0 3 + 3)) 3) := ⟨_, rfl⟩
   obtain ⟨q, eq⟩ : ∃ q, q = Int.tmod (wrap64 (Int.tmod x.f1 7 + 7)) 7 := ⟨_, rfl⟩
   simp only [← eK, ← eq] at hkd hnn ⊢
   clear eK eq
   have ew : wrap64 ((i : Int) + 1) = ((i + 1 : Nat) : Int) := w64 (by omega) (by omega)
   rw [ew]
   clear ew
   by_cases c : K = 2
   ·subst c
    have m := mn_le (x.f2.size : Int) 6
    have h0 : 0 ≤ mn (x.f2.size : Int) 6 := by rcases m.2.2 with h | h <;> omega
    obtain ⟨t, et, ht, htl⟩ := fit_small (x.f2.extract 0 (mn (x.f2.size : Int) 6).toNat) (by rw [ByteArray.size_extract]; omega) k (by omega)
    have hle : t.length ≤ 6 := by rw [htl, ByteArray.size_extract]; omega
    rw [if_pos rfl, if_pos h0, if_pos m.1, et, Option.bind_some, if_pos ho']
    clear m h0 htl et hkd hnn ex
    obtain ⟨r, h1, h2, h3, h4, h5⟩ := ih (i + 1) k n (out ++ [⟨2, 0, enc t⟩]) (by omega) (by omega) (W_snoc hw (okA_I ht)) (by simp; omega) hn (by omega)
    rw [ats_snoc, at1_I 0 ht] at h3 h4
    rw [ins_app, ins_I] at h3
    rw [List.length_append, List.length_map] at h4
    rw [List.length_append, List.length_singleton] at h5
    exact ⟨r, h1, h2, by omega, by omega, by omega⟩
   ·rw [if_neg c, if_pos ho']
    have m := mn_le q (n : Int)
    have h0 : 0 ≤ mn q (n : Int) := by rcases m.2.2 with h | h <;> omega
    obtain ⟨p, hp⟩ : ∃ p : Nat, mn q (n : Int) = (p : Int) := ⟨(mn q (n : Int)).toNat, by omega⟩
    rw [hp] at m ⊢
    have m1 := m.1
    have m2 := m.2.1
    clear m h0 hp ex
    rw [show wrap64 ((n : Int) - (p : Int)) = ((n - p : Nat) : Int) by rw [w64 (by omega) (by omega)]; omega]
    rcases (show K = 1 ∨ K = 3 by omega) with rfl | rfl
    ·obtain ⟨r, h1, h2, h3, h4, h5⟩ := ih (i + 1) k (n - p) (out ++ [⟨1, (p : Int), ⟨#[]⟩⟩]) (by omega) (by omega) (W_snoc hw (okA_K p)) (by simp; omega) (by omega) (by omega)
     rw [ats_snoc, at1_K, Int.toNat_natCast] at h3 h4
     rw [ins_app, ins_K] at h3
     rw [List.length_append, List.length_replicate] at h4
     rw [List.length_append, List.length_singleton] at h5
     exact ⟨r, h1, h2, by omega, by omega, by omega⟩
    ·obtain ⟨r, h1, h2, h3, h4, h5⟩ := ih (i + 1) k (n - p) (out ++ [⟨3, (p : Int), ⟨#[]⟩⟩]) (by omega) (by omega) (W_snoc hw (okA_D p)) (by simp; omega) (by omega) (by omega)
     rw [ats_snoc, at1_D, Int.toNat_natCast] at h3 h4
     rw [ins_app, ins_D] at h3
     rw [List.length_append, List.length_replicate] at h4
     rw [List.length_append, List.length_singleton] at h5
     exact ⟨r, h1, h2, by omega, by omega, by omega⟩
  ·exact fin
theorem fit_A (l : List S25) (n : Nat) (hn : n ≤ 1000000) (k : Nat) (hk : 400 ≤ k) : ∃ r, epitomeref04_Fit.f k l (n : Int) = some r ∧ W r ∧ ins (ats r) = n ∧ (ats r).length ≤ n + 72 ∧ r.length ≤ 13 := by
 obtain ⟨r, h1, h2, h3, h4, h5⟩ := fit_l l 12 0 k n [] rfl (by decide) W_nil (by simp) hn (by omega)
 rw [ats_nil, ins_nil] at h3
 rw [ats_nil] at h4
 exact ⟨r, h1, h2, by omega, by simpa using h4, by simpa using h5⟩
theorem ref_out1 {x : S25} (h : okA x) (hb : (at1 x).length ≤ 1000000) (k : Nat) (hk : 4000014 ≤ k) : epitomeref03_Out.f k x.f0 x.f1 x.f2 = some (outs (at1 x) : Int) := by
 rcases okA_cases h with ⟨n, rfl⟩ | ⟨n, rfl⟩ | ⟨t, ht, rfl⟩
 ·rw [at1_K, outs_K]; simp [epitomeref03_Out.f]
 ·rw [at1_D, outs_D]; simp [epitomeref03_Out.f]
 ·rw [at1_I 0 ht, List.length_map] at hb
  have := enc_sz hb
  rw [at1_I 0 ht, outs_I, epitomeref03_Out.f, if_neg (show ¬ (2 : Int) = 1 by decide), if_pos rfl, ref_count ht (by omega) k (by omega), Option.bind_some]
  unfold mx
  rw [if_neg (by omega)]
theorem rd_at (l : List S25) (i : Nat) (h : i < l.length) : rd_T25 l (i : Int) = l[i] := by
 unfold rd_T25; rw [Int.toNat_natCast, List.getD_eq_getElem?_getD, List.getElem?_eq_getElem h]; rfl
theorem rdL_at (l : List (List S25)) (i : Nat) (h : i < l.length) : rd_L3 l (i : Int) = l[i] := by
 unfold rd_L3; rw [Int.toNat_natCast, List.getD_eq_getElem?_getD, List.getElem?_eq_getElem h]; rfl
theorem ref_out {l : List S25} (h : W l) (hb : (ats l).length ≤ 1000000) (hl : l.length ≤ 1000000) (k : Nat) (hk : 5000015 ≤ k) : epitomeref04_Out.f k l = some (outs (ats l) : Int) := by
 have go : ∀ (d i k a : Nat), l.length - i = d → i ≤ l.length → 4000015 + d ≤ k → a + outs (ats (l.drop i)) ≤ 1000000 → epitomeref04_Out.l0 k l (a : Int) (i : Int) = some ((a + outs (ats (l.drop i)) : Nat) : Int) := by
  intro d
  induction d with
  | zero =>
   intro i k a hd hi hk ha
   obtain ⟨k, rfl⟩ : ∃ j, k = j + 1 := ⟨k - 1, by omega⟩
   rw [epitomeref04_Out.l0, if_neg (by omega), List.drop_of_length_le (by omega), ats_nil, outs_nil]; rfl
  | succ d ih =>
   intro i k a hd hi hk ha
   obtain ⟨k, rfl⟩ : ∃ j, k = j + 1 := ⟨k - 1, by omega⟩
   rw [List.drop_eq_getElem_cons (show i < l.length by omega), ats_cons, outs_app] at ha ⊢
   have hm : l[i] ∈ l := List.getElem_mem _
   have hbl := at1_le hm
   rw [epitomeref04_Out.l0, if_pos (by omega), if_pos (by omega), rd_at l i (by omega), ref_out1 (h _ hm) (by omega) k (by omega), Option.bind_some, w64 (by omega) (by omega), w64 (by omega) (by omega),
    show (a : Int) + (outs (at1 l[i]) : Int) = ((a + outs (at1 l[i]) : Nat) : Int) by omega, show (i : Int) + 1 = ((i + 1 : Nat) : Int) by omega, ih (i + 1) k _ (by omega) (by omega) (by omega) (by omega)]
   congr 2; omega
 have := outs_le (ats l)
 have e := go l.length 0 k 0 rfl (Nat.zero_le _) (by omega) (by simpa using (by omega : outs (ats l) ≤ 1000000))
 rw [List.drop_zero, Nat.zero_add] at e
 exact e
theorem step_set (d : List S25) (x : S25) (h : 0 < d.length) (c : (rd_T25 d ((d.length - 1 : Nat) : Int)).f0 = x.f0) (z : S25) (y : S25) (hz : z = ⟨(rd_T25 d ((d.length - 1 : Nat) : Int)).f0, wrap64 ((rd_T25 d ((d.length - 1 : Nat) : Int)).f1 + x.f1), (rd_T25 d ((d.length - 1 : Nat) : Int)).f2⟩) (hy : y = ⟨z.f0, z.f1, z.f2 ++ x.f2⟩) :
  (d.set (d.length - 1) z).set (d.length - 1) y = normal_Of.step d x ∧ rd_T25 (d.set (d.length - 1) z) ((d.length - 1 : Nat) : Int) = z := by
 subst hy
 refine ⟨?_, ?_⟩
 ·rw [List.set_set, normal_Of.step, if_neg (by omega), if_pos c.symm, hz]
 ·unfold rd_T25; rw [Int.toNat_natCast, List.getD_eq_getElem?_getD, List.getElem?_set_self (by omega)]; rfl
theorem last_size {d : List S25} (hd : W d) (h : 0 < d.length) : (rd_T25 d ((d.length - 1 : Nat) : Int)).f2.size ≤ 4 * (ats d).length := by
 have hm : d[d.length - 1] ∈ d := List.getElem_mem _
 rw [rd_at d _ (by omega)]
 have h1 := text_le (l := [d[d.length - 1]]) (W_cons.2 ⟨hd _ hm, W_nil⟩)
 rw [normal_Of.t, normal_Of.t, ats_cons, ats_nil, List.append_nil] at h1
 have := at1_le hm
 omega
theorem ref_norm {l : List S25} (h : W l) (hb : (ats l).length ≤ 1000000) (hl : l.length ≤ 1000000) (k : Nat) (hk : 2 * l.length + 3 ≤ k) : epitomeref05_Of.f k l = some (normal_Of.n l) := by
 have go : ∀ (m i k : Nat) (d : List S25), l.length - i = m → i ≤ l.length → 2 * m + 2 ≤ k → W d → Alt d → (ats d).length + (ats (l.drop i)).length ≤ 1000000 → epitomeref05_Of.l0 k l d (i : Int) = some ((normal_Of.keep (l.drop i)).foldl normal_Of.step d) := by
  intro m
  induction m with
  | zero =>
   intro i k d hm hi hk hw ha hs
   obtain ⟨k, rfl⟩ : ∃ j, k = j + 1 := ⟨k - 1, by omega⟩
   rw [epitomeref05_Of.l0, if_neg (by omega), List.drop_of_length_le (by omega)]; rfl
  | succ m ih =>
   intro i k d hm hi hk hw ha hs
   obtain ⟨k, rfl⟩ : ∃ j, k = j + 2 := ⟨k - 2, by omega⟩
   have hmem : l[i] ∈ l := List.getElem_mem _
   have hx := h _ hmem
   have hal := alt_len ha
   rw [List.drop_eq_getElem_cons (show i < l.length by omega), ats_cons, List.length_append] at hs
   rw [List.drop_eq_getElem_cons (show i < l.length by omega)]
   have e0 : ∀ b : Bool, normal_Of.e l[i] = b → (if l[i].f1 = 0 then epitomeref05_Of.j1 (k + 1) l d (i : Int) (l[i].f2.toList == ([] : List UInt8)) l[i].f0 l[i].f1 l[i].f2 else epitomeref05_Of.j1 (k + 1) l d (i : Int) false l[i].f0 l[i].f1 l[i].f2) = epitomeref05_Of.j1 (k + 1) l d (i : Int) b l[i].f0 l[i].f1 l[i].f2 := by
    intro b hb
    unfold normal_Of.e at hb
    by_cases c : l[i].f1 = 0
    ·rw [if_pos c, ← hb, decide_eq_true c, Bool.true_and]
    ·rw [if_neg c, ← hb, decide_eq_false c, Bool.false_and]
   rw [epitomeref05_Of.l0, if_pos (by omega), if_pos (by omega), rd_at l i (by omega)]
   have ew : Aside0 (wrap64 ((i : Int) + 1) = ((i + 1 : Nat) : Int)) := ⟨w64 (by omega) (by omega)⟩
   have ek : normal_Of.keep (l[i] :: l.drop (i + 1)) = if normal_Of.e l[i] = true then normal_Of.keep (l.drop (i + 1)) else l[i] :: normal_Of.keep (l.drop (i + 1)) := by
    unfold normal_Of.keep
    rw [List.filter_cons]
    by_cases c : normal_Of.e l[i] = true
    ·rw [if_pos c, if_neg (by simp [c])]
    ·rw [if_neg c, if_pos (by simpa using c)]
   rw [ek]
   by_cases c : normal_Of.e l[i] = true
   ·rw [e0 true c, epitomeref05_Of.j1, if_pos rfl, ew.out, if_pos c, ih (i + 1) k d (by omega) (by omega) (by omega) hw ha (by omega)]
   ·have hne : ne l[i] := fun e => c ((e_iff hx).2 e)
    obtain ⟨s1, s2, s3, s4⟩ := step_A hw ha hx hne (by omega)
    have next := ih (i + 1) k (normal_Of.step d l[i]) (by omega) (by omega) (by omega) s1 s2 (by rw [s3, List.length_append]; omega)
    rw [e0 false (by simpa using c), epitomeref05_Of.j1, if_neg (by decide), ew.out, if_neg c, List.foldl_cons]
    by_cases c1 : 0 < d.length
    ·rw [show wrap64 ((d.length : Int) - 1) = ((d.length - 1 : Nat) : Int) by rw [w64 (by omega) (by omega)]; omega, if_pos (by omega), if_pos (by omega), if_pos (by omega), Int.toNat_natCast]
     by_cases c2 : (rd_T25 d ((d.length - 1 : Nat) : Int)).f0 = l[i].f0
     ·obtain ⟨t1, t2⟩ := step_set d l[i] c1 c2 _ _ rfl rfl
      have z1 := last_size hw c1
      have z2 := text_le (l := [l[i]]) (W_cons.2 ⟨hx, W_nil⟩)
      rw [normal_Of.t, normal_Of.t, ats_cons, ats_nil, List.append_nil] at z2
      rw [if_pos c2, Option.bind_some, t2, if_pos (by simp only []; omega), t1]
      exact next
     ·have e2 : normal_Of.step d l[i] = d ++ [l[i]] := by rw [normal_Of.step, if_neg (by omega), if_neg (fun e => c2 e.symm)]
      rw [if_neg c2, if_pos (by omega)]
      rw [e2] at next ⊢
      exact next
    ·have e2 : normal_Of.step d l[i] = d ++ [l[i]] := by
      obtain rfl : d = [] := List.length_eq_zero_iff.1 (by omega)
      rfl
     rw [if_neg (by omega), if_pos (by omega)]
     rw [e2] at next ⊢
     exact next
 exact go l.length 0 k [] rfl (Nat.zero_le _) (by omega) W_nil trivial (by rw [List.drop_zero, ats_nil]; simpa using hb)
def ch : Nat → List (List S25) → Prop
 | _, [] => True
 | n, x :: l => W x ∧ ins (ats x) = n ∧ ch (outs (ats x)) l
def tot (l : List (List S25)) : Nat := (l.map fun x => (ats x).length).sum
def sz : Nat → List (List S25) → Nat → Nat
 | n, _, 0 => n
 | n, [], _ + 1 => n
 | _, x :: l, a + 1 => sz (outs (ats x)) l a
theorem ch_snoc {x : List S25} : ∀ {l : List (List S25)} {n : Nat}, ch n l → W x → ins (ats x) = sz n l l.length → ch n (l ++ [x])
 | [], n, _, hx, he => ⟨hx, he, trivial⟩
 | y :: l, n, ⟨h1, h2, h3⟩, hx, he => ⟨h1, h2, ch_snoc h3 hx he⟩
theorem sz_snoc {x : List S25} : ∀ (l : List (List S25)) (n : Nat), sz n (l ++ [x]) (l ++ [x]).length = outs (ats x)
 | [], n => rfl
 | y :: l, n => sz_snoc l _
theorem tot_snoc (l : List (List S25)) (x : List S25) : tot (l ++ [x]) = tot l + (ats x).length := by simp [tot]
theorem tot_cons (l : List (List S25)) (x : List S25) : tot (x :: l) = (ats x).length + tot l := by simp [tot]
theorem chain_l (l : List (List S25)) (n0 : Nat) : ∀ (d i k n : Nat) (out : List (List S25)), 20 - i = d → i ≤ 20 → out.length = i → ch n0 out → n = sz n0 out out.length → n ≤ n0 + 72 * i → n0 ≤ 100 → tot out ≤ 1600 * i → (∀ x ∈ out, x.length ≤ 13) → 5000020 + 2 * d ≤ k →
  ∃ r, epitomeref04_Chain.l0 k l (n : Int) out (i : Int) = some r ∧ ch n0 r ∧ r.length ≤ 20 ∧ tot r ≤ 32000 ∧ ∀ x ∈ r, x.length ≤ 13 := by
 intro d
 induction d with
 | zero =>
  intro i k n out hd hi ho hc hs hn h0 ht hx hk
  obtain ⟨k, rfl⟩ : ∃ j, k = j + 2 := ⟨k - 2, by omega⟩
  have fin : ∃ r, epitomeref04_Chain.j1 (k + 1) l (n : Int) out (i : Int) false = some r ∧ ch n0 r ∧ r.length ≤ 20 ∧ tot r ≤ 32000 ∧ ∀ x ∈ r, x.length ≤ 13 := by
   rw [epitomeref04_Chain.j1, if_neg (by decide)]
   exact ⟨out, rfl, hc, by omega, by omega, hx⟩
  rw [epitomeref04_Chain.l0]
  split
  ·rw [show decide ((i : Int) < 20) = false from decide_eq_false (by omega)]; exact fin
  ·exact fin
 | succ d ih =>
  intro i k n out hd hi ho hc hs hn h0 ht hx hk
  obtain ⟨k, rfl⟩ : ∃ j, k = j + 2 := ⟨k - 2, by omega⟩
  have fin : ∃ r, epitomeref04_Chain.j1 (k + 1) l (n : Int) out (i : Int) false = some r ∧ ch n0 r ∧ r.length ≤ 20 ∧ tot r ≤ 32000 ∧ ∀ x ∈ r, x.length ≤ 13 := by
   rw [epitomeref04_Chain.j1, if_neg (by decide)]
   exact ⟨out, rfl, hc, by omega, by omega, hx⟩
  rw [epitomeref04_Chain.l0]
  split
  ·rename_i hlt
   obtain ⟨x, e1, e2, e3, e4, e5⟩ := fit_A (rd_L3 l (i : Int)) n (by omega) k (by omega)
   have ol := outs_le (ats x)
   rw [show decide ((i : Int) < 20) = true from decide_eq_true (by omega), epitomeref04_Chain.j1, if_pos rfl, if_pos (by omega), if_pos hlt, e1, Option.bind_some, if_pos (by omega), ref_out e2 (by omega) (by omega) k (by omega), Option.bind_some, w64 (by omega) (by omega), show (i : Int) + 1 = ((i + 1 : Nat) : Int) by omega]
   refine ih (i + 1) k _ (out ++ [x]) (by omega) (by omega) (by simp [ho]) (ch_snoc hc e2 (by rw [e3, hs])) (sz_snoc out n0).symm (by omega) h0 (by rw [tot_snoc]; omega) (fun y hy => ?_) (by omega)
   rcases List.mem_append.1 hy with hy | hy
   ·exact hx y hy
   ·rw [List.mem_singleton.1 hy]; exact e5
  ·exact fin
def hs (n : Nat) (l : List (List S25)) : Prop := ch n l ∧ ∀ x ∈ l, Alt x
theorem ch_norm : ∀ {l : List (List S25)} {n : Nat}, ch n l → tot l ≤ 1000000 → ch n (l.map normal_Of.n) ∧ tot (l.map normal_Of.n) = tot l ∧ ∀ x ∈ l.map normal_Of.n, Alt x
 | [], n, _, _ => ⟨trivial, rfl, fun _ h => by cases h⟩
 | x :: l, n, ⟨h1, h2, h3⟩, ht => by
  rw [tot_cons] at ht
  obtain ⟨w1, w2, w3, w4⟩ := norm_A h1 (by omega)
  obtain ⟨r1, r2, r3⟩ := ch_norm h3 (by omega)
  refine ⟨⟨w1, by rw [w3, h2], by rw [w3]; exact r1⟩, ?_, fun y hy => ?_⟩
  ·rw [List.map_cons, tot_cons, tot_cons, r2, w3]
  ·rcases List.mem_cons.1 hy with rfl | hy
   ·exact w2
   ·exact r3 y hy
theorem ch_mem : ∀ {l : List (List S25)} {n : Nat}, ch n l → ∀ x ∈ l, W x ∧ (ats x).length ≤ tot l
 | [], _, _, _, h => by cases h
 | y :: l, _, ⟨h1, _, h3⟩, x, hx => by
  rw [tot_cons]
  rcases List.mem_cons.1 hx with rfl | hx
  ·exact ⟨h1, by omega⟩
  ·have := ch_mem h3 x hx; exact ⟨this.1, by omega⟩
def revs (m : Nat) : List Int := (List.range (m + 1)).map fun i : Nat => (i : Int)
theorem revs_len (m : Nat) : (revs m).length = m + 1 := by simp [revs]
theorem revs_succ (m : Nat) : revs (m + 1) = revs m ++ [((m + 1 : Nat) : Int)] := by unfold revs; rw [List.range_succ (n := m + 1), List.map_append]; rfl
theorem fit16_l (b : ByteArray) (l : List (List S25)) (n : Nat) (hc : ch n l) (hl : l.length ≤ 20) (ht : tot l ≤ 32000) (hx : ∀ x ∈ l, x.length ≤ 13) : ∀ (d i k : Nat), l.length - i = d → i ≤ l.length → 100 + d ≤ k →
  epitomeref16_Fit.l0 k l (i : Int) b (revs i) ((l.take i).map normal_Of.n) = some (b, revs l.length, l.map normal_Of.n) := by
 intro d
 induction d with
 | zero =>
  intro i k hd hi hk
  obtain ⟨k, rfl⟩ : ∃ j, k = j + 1 := ⟨k - 1, by omega⟩
  obtain rfl : i = l.length := by omega
  rw [epitomeref16_Fit.l0, if_neg (by omega), List.take_length]
 | succ d ih =>
  intro i k hd hi hk
  obtain ⟨k, rfl⟩ : ∃ j, k = j + 1 := ⟨k - 1, by omega⟩
  have hm : l[i] ∈ l := List.getElem_mem _
  obtain ⟨w1, w2⟩ := ch_mem hc _ hm
  have := hx _ hm
  rw [epitomeref16_Fit.l0, if_pos (by omega), if_pos (by rw [revs_len]; omega), if_pos (by omega), rdL_at l i (by omega), ref_norm w1 (by omega) (by omega) k (by omega), Option.bind_some, if_pos (by simp; omega), w64 (by omega) (by omega), show (i : Int) + 1 = ((i + 1 : Nat) : Int) by omega, ← revs_succ]
  have e : (l.take i).map normal_Of.n ++ [normal_Of.n l[i]] = (l.take (i + 1)).map normal_Of.n := by rw [List.take_succ_eq_append_getElem (by omega), List.map_append]; rfl
  rw [e]
  exact ih (i + 1) k (by omega) (by omega) (by omega)
theorem fit16_A (s : ByteArray) (l : List (List S25)) (k : Nat) (hk : 6000000 ≤ k) : ∃ b segs, epitomeref16_Fit.f k s l = some (enc b, revs segs.length, segs) ∧ Runes b ∧ b.length ≤ 20 ∧ hs b.length segs ∧ segs.length ≤ 20 ∧ tot segs ≤ 32000 := by
 have m := mn_le (s.size : Int) 20
 have h0 : 0 ≤ mn (s.size : Int) 20 := by rcases m.2.2 with h | h <;> omega
 obtain ⟨b, eb, hb, hbl⟩ := fit_small (s.extract 0 (mn (s.size : Int) 20).toNat) (by rw [ByteArray.size_extract]; omega) k (by omega)
 have hle : b.length ≤ 20 := by rw [hbl, ByteArray.size_extract]; omega
 have hz := enc_sz (t := b) (by omega)
 obtain ⟨w, e1, e2, e3, e4, e5⟩ := chain_l l b.length 20 0 k b.length [] rfl (by decide) rfl trivial rfl (by omega) (by omega) (by simp [tot]) (fun _ h => by cases h) (by omega)
 obtain ⟨n1, n2, n3⟩ := ch_norm e2 (by omega)
 refine ⟨b, w.map normal_Of.n, ?_, hb, hle, ⟨n1, n3⟩, by simpa using e3, by omega⟩
 unfold epitomeref16_Fit.f
 rw [if_pos h0, if_pos m.1, eb, Option.bind_some, ref_count hb (by omega) k (by omega), Option.bind_some]
 unfold epitomeref04_Chain.f
 have e1' : epitomeref04_Chain.l0 k l (b.length : Int) [] 0 = some w := e1
 rw [e1', Option.bind_some]
 have := fit16_l (enc b) w b.length e2 e3 e4 e5 w.length 0 k rfl (Nat.zero_le _) (by omega)
 rw [List.length_map]
 exact this
theorem i64ok_of {x : Int} (h : (Lit.int .i64 x).wf = true) : i64ok x := by
 simp [Lit.wf, IntKind.min, IntKind.max, IntKind.signed, IntKind.bits] at h
 unfold i64ok; omega
def cmps (n : Nat) (l : List (List S25)) : List At := l.foldl (fun a x => comp a (ats x)) (List.replicate n At.K)
def lens (l : List (List S25)) : Nat := (l.map List.length).sum
theorem lens_cons (x : List S25) (l : List (List S25)) : lens (x :: l) = x.length + lens l := by simp [lens]
theorem lens_snoc (l : List (List S25)) (x : List S25) : lens (l ++ [x]) = lens l + x.length := by simp [lens]
theorem lens_tot : ∀ {l : List (List S25)}, (∀ x ∈ l, Alt x) → lens l ≤ tot l
 | [], _ => Nat.le_refl _
 | x :: l, h => by
  have := alt_len (h x (by simp))
  have := lens_tot (l := l) fun y hy => h y (by simp [hy])
  rw [lens_cons, tot_cons]; omega
theorem keep_op (n : Nat) (hn : n ≤ 1000000) : ∃ r, (∀ k, 2 ≤ k → op_Keep.f k (n : Int) = some (r, 0)) ∧ W r ∧ Alt r ∧ ats r = List.replicate n At.K ∧ r.length ≤ 1 := by
 have e : ∀ k, op_Keep.f (k + 1) (n : Int) = if (n : Int) = 0 then some ([], 0) else some ([⟨1, (n : Int), ⟨#[]⟩⟩], 0) := by
  intro k
  unfold op_Keep.f
  rw [if_neg (by omega), decide_eq_false (by omega), op_Keep.j0, if_neg (by decide)]
 cases n with
 | zero => exact ⟨[], fun k hk => by obtain ⟨k, rfl⟩ : ∃ j, k = j + 1 := ⟨k - 1, by omega⟩; rw [e, if_pos (show ((0 : Nat) : Int) = 0 from rfl)], W_nil, trivial, rfl, by simp⟩
 | succ n =>
  refine ⟨[⟨1, ((n + 1 : Nat) : Int), ⟨#[]⟩⟩], fun k hk => by obtain ⟨k, rfl⟩ : ∃ j, k = j + 1 := ⟨k - 1, by omega⟩; rw [e, if_neg (by omega)], W_cons.2 ⟨okA_K _, W_nil⟩, ⟨?_, fun y l' h => (by cases h), trivial⟩, ?_, by simp⟩
  ·unfold ne; rw [at1_K, Int.toNat_natCast, List.replicate_succ]; exact fun h => by cases h
  ·rw [ats_cons, at1_K, Int.toNat_natCast, ats_nil, List.append_nil]
theorem fuse_l : ∀ (l : List (List S25)) (a : List S25), W a → Alt a → ch (outs (ats a)) l → (∀ x ∈ l, Alt x) → (ats a).length + tot l ≤ 1000000 →
  ∃ r, (∀ k, 1000004 ≤ k → fuse_Of.l k a l = some (r, 0)) ∧ W r ∧ Alt r ∧ ats r = l.foldl (fun a x => comp a (ats x)) (ats a) ∧ r.length ≤ a.length + lens l
 | [], a, wa, na, _, _, _ => ⟨a, fun k _ => rfl, wa, na, rfl, Nat.le_refl _⟩
 | x :: l, a, wa, na, ⟨h1, h2, h3⟩, hn, ht => by
  rw [tot_cons] at ht
  have la := alt_len na
  have lx := alt_len (hn x (by simp))
  obtain ⟨r, c1, c2, c3, c4, c5⟩ := comp_A wa h1 (by omega) (by omega) (by omega) (by omega) h2.symm
  have cl := comp_len _ (ats a) (ats x) (Nat.le_refl _) h2.symm
  obtain ⟨q, d1, d2, d3, d4, d5⟩ := fuse_l l r c2 c3 (by rw [c4, cl.2.1]; exact h3) (fun y hy => hn y (by simp [hy])) (by rw [c4]; omega)
  refine ⟨q, fun k hk => ?_, d2, d3, by rw [d4, c4]; rfl, by rw [lens_cons]; omega⟩
  rw [fuse_Of.l, c1 k (by omega), Option.bind_some, if_pos rfl, d1 k hk]
theorem fold_len : ∀ (l : List (List S25)) (a : List At), ch (outs a) l → (l.foldl (fun a x => comp a (ats x)) a).length ≤ a.length + tot l ∧ ins (l.foldl (fun a x => comp a (ats x)) a) = ins a ∧ outs (l.foldl (fun a x => comp a (ats x)) a) = sz (outs a) l l.length
 | [], a, _ => ⟨Nat.le_refl _, rfl, rfl⟩
 | x :: l, a, ⟨h1, h2, h3⟩ => by
  obtain ⟨c1, c2, c3⟩ := comp_len _ a (ats x) (Nat.le_refl _) h2.symm
  rw [← c2] at h3
  obtain ⟨i1, i2, i3⟩ := fold_len l (comp a (ats x)) h3
  rw [c2] at i3
  rw [tot_cons]
  exact ⟨by rw [List.foldl_cons]; omega, by rw [List.foldl_cons]; omega, i3⟩
theorem cmps_len {n : Nat} {l : List (List S25)} (h : ch n l) : (cmps n l).length ≤ n + tot l ∧ ins (cmps n l) = n ∧ outs (cmps n l) = sz n l l.length := by
 have := fold_len l (List.replicate n At.K) (by rw [outs_K]; exact h)
 rw [List.length_replicate, ins_K, outs_K] at this
 exact this
theorem fuse_A {n : Nat} {l : List (List S25)} (h : hs n l) (hl : l.length ≤ 1000000) (ht : n + tot l ≤ 400000) : ∃ r, (∀ k, 1000004 ≤ k → fuse_Of.f k (n : Int) l = some (r, 0)) ∧ W r ∧ Alt r ∧ ats r = cmps n l ∧ (l ≠ [] → r.length ≤ lens l) := by
  obtain ⟨q, q1, q2, q3, q4, q5⟩ := keep_op n (by omega)
  have hf : ∀ r, (∀ k, 1000004 ≤ k → fuse_Of.l k q l = some (r, 0)) → ∀ k, 1000004 ≤ k → fuse_Of.f k (n : Int) l = some (r, 0) := by
    intro r hr k hk
    unfold fuse_Of.f
    rw [if_pos (by omega), q1 k (by omega), Option.bind_some, if_pos rfl, hr k hk]
  cases l with
  | nil => exact ⟨q, hf q fun k _ => rfl, q2, q3, q4, fun h => absurd rfl h⟩
  | cons x l =>
    obtain ⟨⟨h1, h2, h3⟩, hn⟩ := h
    rw [tot_cons] at ht
    have lq := alt_len q3
    have lx := alt_len (hn x (by simp))
    have nl : (ats q).length = n := by rw [q4, List.length_replicate]
    have oq : outs (ats q) = n := by rw [q4, outs_K]
    obtain ⟨r, c1, c2, c3, c4, c5⟩ := comp_A q2 h1 (by omega) (by omega) (by omega) (by omega) (by rw [oq, h2])
    have e : ats r = ats x := by rw [c4, q4]; conv => lhs; rw [← h2]
                                 exact comp_keep _
    obtain rfl : r = x := alt_uniq c2 h1 c3 (hn x (by simp)) e
    obtain ⟨p, d1, d2, d3, d4, d5⟩ := fuse_l l r h1 (hn r (by simp)) h3 (fun y hy => hn y (by simp [hy])) (by omega)
    refine ⟨p, hf p fun k hk => ?_, d2, d3, ?_, fun _ => by rw [lens_cons]; exact d5⟩
    · rw [fuse_Of.l, c1 k (by omega), Option.bind_some, if_pos rfl, d1 k hk]
    · rw [d4, cmps, List.foldl_cons, ← q4, ← c4]
theorem ch_drop : ∀ {l : List (List S25)} {n : Nat}, ch n l → ∀ a, a ≤ l.length → ch (sz n l a) (l.drop a)
 | [], n, _, a, ha => by
  obtain rfl : a = 0 := by simpa using ha
  exact trivial
 | x :: l, n, h, 0, _ => h
 | x :: l, n, ⟨_, _, h⟩, a + 1, ha => ch_drop h a (by simpa using ha)
theorem ch_take : ∀ {l : List (List S25)} {n : Nat}, ch n l → ∀ a, ch n (l.take a)
 | [], n, _, a => by rw [List.take_nil]; trivial
 | x :: l, n, h, 0 => trivial
 | x :: l, n, ⟨h1, h2, h⟩, a + 1 => ⟨h1, h2, ch_take h a⟩
theorem sz_le : ∀ (l : List (List S25)) (n a : Nat), a ≤ l.length → sz n l a + tot (l.drop a) ≤ n + tot l
 | [], n, a, ha => by
  obtain rfl : a = 0 := by simpa using ha
  exact Nat.le_refl _
 | x :: l, n, 0, _ => Nat.le_refl _
 | x :: l, n, a + 1, ha => by
  have := sz_le l (outs (ats x)) a (by simpa using ha)
  have := outs_le (ats x)
  rw [tot_cons]
  show sz (outs (ats x)) l a + tot (l.drop a) ≤ _
  omega
theorem tot_take : ∀ (l : List (List S25)) (a : Nat), tot (l.take a) ≤ tot l
 | [], a => by rw [List.take_nil]; exact Nat.le_refl _
 | x :: l, 0 => Nat.zero_le _
 | x :: l, a + 1 => by have := tot_take l a; rw [List.take_succ_cons, tot_cons, tot_cons]; omega
theorem sz_take : ∀ (l : List (List S25)) (n a t : Nat), a ≤ t → t ≤ l.length → sz n (l.take t) a = sz n l a
 | _, _, 0, _, _, _ => by unfold sz; rfl
 | [], n, a + 1, t, h1, h2 => by simp at h2; omega
 | x :: l, n, a + 1, 0, h1, _ => by omega
 | x :: l, n, a + 1, t + 1, h1, h2 => sz_take l _ a t (by omega) (by simpa using h2)
theorem hs_part {n : Nat} {l : List (List S25)} (h : hs n l) {a t : Nat} (hat : a ≤ t) (htl : t ≤ l.length) : hs (sz n l a) ((l.take t).drop a) := by
 have h1 := ch_drop (ch_take h.1 t) a (by rw [List.length_take]; omega)
 rw [sz_take l n a t hat htl] at h1
 exact ⟨h1, fun x hx => h.2 x (List.mem_of_mem_take (List.mem_of_mem_drop hx))⟩
theorem tot_part {n : Nat} {l : List (List S25)} {a t : Nat} (hat : a ≤ t) (htl : t ≤ l.length) : sz n l a + tot ((l.take t).drop a) ≤ n + tot l := by
 have h1 := sz_le (l.take t) n a (by rw [List.length_take]; omega)
 rw [sz_take l n a t hat htl] at h1
 have := tot_take l t
 omega
theorem alt_get : ∀ {l : List S25}, Alt l → ∀ (i : Nat) (h : i + 1 < l.length), (l[i]'(by omega)).f0 ≠ l[i + 1].f0
 | [], _, _, h => by simp at h
 | [x], _, i, h => by simp at h
 | x :: y :: l, ⟨_, h2, _⟩, 0, _ => h2 y l rfl
 | x :: y :: l, ⟨_, _, h3⟩, i + 1, h => by
  have := alt_get h3 i (by simpa using h)
  simpa using this
theorem is_A {l : List S25} (hw : W l) (ha : Alt l) (hl : l.length ≤ 1000000) (k : Nat) (hk : l.length + 1 ≤ k) : normal_Is.f k l = some true := by
 have go : ∀ (d i k : Nat), l.length - i = d → i ≤ l.length → d + 1 ≤ k → normal_Is.l0 k l l (l.length : Int) (i : Int) = some true := by
  intro d
  induction d with
  | zero =>
   intro i k hd hi hk
   obtain ⟨k, rfl⟩ : ∃ j, k = j + 1 := ⟨k - 1, by omega⟩
   rw [normal_Is.l0, if_neg (by omega)]
  | succ d ih =>
   intro i k hd hi hk
   obtain ⟨k, rfl⟩ : ∃ j, k = j + 1 := ⟨k - 1, by omega⟩
   have hm : l[i] ∈ l := List.getElem_mem _
   have hne := alt_ne ha _ hm
   have he : normal_empty.f l[i].f0 l[i].f1 l[i].f2 = some false := by
    have : normal_Of.e l[i] = false := by
     cases c : normal_Of.e l[i] with
     | false => rfl
     | true => exact absurd ((e_iff (hw _ hm)).1 c) hne
    unfold normal_Of.e at this
    unfold normal_empty.f
    by_cases c : l[i].f1 = 0
    ·rw [if_pos c]; rw [decide_eq_true c, Bool.true_and] at this; rw [this]
    ·rw [if_neg c]
   have next := ih (i + 1) k (by omega) (by omega) (by omega)
   rw [normal_Is.l0, if_pos (by omega), if_pos (by omega), if_pos (by omega), rd_at l i (by omega), he, Option.bind_some, if_neg (by decide), w64 (x := (i : Int) + 1) (by omega) (by omega), show (i : Int) + 1 = ((i + 1 : Nat) : Int) by omega]
   by_cases c : 0 < i
   ·have e1 : Aside0 (wrap64 ((i : Int) - 1) = ((i - 1 : Nat) : Int)) := ⟨by rw [w64 (by omega) (by omega)]; omega⟩
    have hg := alt_get ha (i - 1) (by omega)
    have e2 : l[i - 1 + 1]'(by omega) = l[i] := by congr 1; omega
    rw [e2] at hg
    rw [if_pos (by omega), e1.out, if_pos (by omega), if_pos (by omega), rd_at l (i - 1) (by omega), if_neg (fun e => hg e.symm)]
    exact next
   ·rw [if_neg (by omega)]
    exact next
 exact go l.length 0 k rfl (Nat.zero_le _) hk
def szs (l : List (List S25)) : List Int := l.map fun x => (outs (ats x) : Int)
theorem rd_cons (x : Int) (l : List Int) (i : Nat) : rd (x :: l) ((i + 1 : Nat) : Int) = rd l (i : Int) := by unfold rd; rw [Int.toNat_natCast, Int.toNat_natCast]; rfl
theorem rd_sz : ∀ (l : List (List S25)) (n a : Nat), a ≤ l.length → rd ((n : Int) :: szs l) (a : Int) = (sz n l a : Int)
 | l, n, 0, _ => by unfold sz; rfl
 | [], n, a + 1, h => by simp at h
 | x :: l, n, a + 1, h => by
  rw [rd_cons]
  exact rd_sz l _ a (by simpa using h)
theorem sizes_l (k : Nat) (hk : 1000005 ≤ k) : ∀ (l : List (List S25)) (n : Nat) (out : List Int), ch n l → (∀ x ∈ l, Alt x) → tot l ≤ 400000 → chain_sizes.l k (n : Int) l out = some (out ++ szs l)
 | [], n, out, _, _, _ => by rw [chain_sizes.l]; simp [szs]
 | x :: l, n, out, ⟨h1, h2, h3⟩, hn, ht => by
  rw [tot_cons] at ht
  have hx := hn x (by simp)
  have lx := alt_len hx
  have ol := outs_le (ats x)
  rw [chain_sizes.l, may_A h1 (by omega) (by omega) k (by omega), Option.bind_some, if_pos rfl, in_A h1 (by omega) (by omega), Option.bind_some, if_pos (by omega), out_A h1 (by omega) (by omega), Option.bind_some, if_pos (by omega), is_A h1 hx (by omega) k (by omega), Option.bind_some, if_pos rfl,
   sizes_l k hk l _ _ h3 (fun y hy => hn y (by simp [hy])) (by omega), List.append_assoc]
  rfl
def rise (R : List Int) : Prop := R.Pairwise (· < ·) ∧ ∀ x ∈ R, 0 ≤ x ∧ x ≤ 268435455
theorem putRow_l : ∀ (l : List Int) (was : Int) (out : List Int), l.Pairwise (· < ·) → (∀ x ∈ l, was < x ∧ x ≤ 268435455) → (snap_PutRow.l was out l).2 = 0
 | [], _, _, _, _ => rfl
 | x :: l, was, out, hp, h => by
  obtain ⟨p1, p2⟩ := List.pairwise_cons.1 hp
  have hx := h x (by simp)
  rw [snap_PutRow.l, if_neg (by omega)]
  exact putRow_l l x _ p2 fun y hy => ⟨p1 y hy, (h y (by simp [hy])).2⟩
theorem putRow_A {R : List Int} (h : rise R) (h0 : R ≠ []) (hl : R.length ≤ 65536) : ∃ r, snap_PutRow.f R = some (r, 0) := by
 have e : R.length ≠ 0 := fun e => h0 (List.length_eq_zero_iff.1 e)
 refine ⟨(snap_PutRow.l (-1) (number_Put.l 3 R.length []) R).1, ?_⟩
 unfold snap_PutRow.f
 rw [if_neg (by omega)]
 have := putRow_l R (-1) (number_Put.l 3 R.length []) h.1 fun x hx => by have := h.2 x hx; omega
 rw [← this]
structure LogOk (b : List Int) (R : List Int) (segs : List (List S25)) : Prop where
 rb : Runes b
 hs : hs b.length segs
 ri : rise R
 ln : R.length = segs.length + 1
 tt : b.length + tot segs ≤ 400000
 sl : segs.length ≤ 60000
theorem sizes_A {b R : List Int} {segs : List (List S25)} (h : LogOk b R segs) (k : Nat) (hk : 1000005 ≤ k) : chain_sizes.f k (enc b) R segs = some ((b.length : Int) :: szs segs, 0) := by
 have := h.tt
 have := h.sl
 have := h.ln
 have := enc_sz (t := b) (by omega)
 obtain ⟨r, hr⟩ := putRow_A h.ri (fun e => by have := h.ln; rw [e] at this; simp at this) (by omega)
 unfold chain_sizes.f
 rw [if_pos (by omega), count_big h.rb (by omega), Option.bind_some, if_pos (by omega), hr, Option.bind_some, if_pos ⟨rfl, h.ln⟩, sizes_l k hk segs _ _ h.hs.1 h.hs.2 (by omega)]
 rfl
def app : List At → List Int → List Int
 | .I c :: l, t => c :: app l t
 | .K :: l, c :: t => c :: app l t
 | .D :: l, _ :: t => app l t
 | _, _ => []
theorem app_I (t s : List Int) (l : List At) : app (t.map At.I ++ l) s = t ++ app l s := by
 induction t with
 | nil => rfl
 | cons c t ih => rw [List.map_cons, List.cons_append, app, ih]; rfl
theorem app_K (l : List At) : ∀ (n : Nat) (s : List Int), n ≤ s.length → app (List.replicate n At.K ++ l) s = s.take n ++ app l (s.drop n)
 | 0, s, _ => by simp
 | n + 1, [], h => by simp at h
 | n + 1, c :: s, h => by rw [List.replicate_succ, List.cons_append, app, app_K l n s (by simpa using h)]; rfl
theorem app_D (l : List At) : ∀ (n : Nat) (s : List Int), n ≤ s.length → app (List.replicate n At.D ++ l) s = app l (s.drop n)
 | 0, s, _ => by simp
 | n + 1, [], h => by simp at h
 | n + 1, c :: s, h => by rw [List.replicate_succ, List.cons_append, app, app_D l n s (by simpa using h)]; rfl
theorem app_len : ∀ (l : List At) (s : List Int), ins l = s.length → (app l s).length = outs l
 | [], s, _ => by rw [app]; rfl; all_goals (intros; simp_all)
 | .I c :: l, s, h => by rw [app, List.length_cons, outs_cons, app_len l s (by rw [ins_cons] at h; simpa [At.i] using h)]; simp [At.o]; omega
 | .K :: l, [], h => by rw [ins_cons] at h; simp [At.i] at h
 | .K :: l, c :: s, h => by rw [app, List.length_cons, outs_cons, app_len l s (by rw [ins_cons, List.length_cons] at h; simp only [At.i] at h; omega)]; simp [At.o]; omega
 | .D :: l, [], h => by rw [ins_cons] at h; simp [At.i] at h
 | .D :: l, c :: s, h => by rw [app, outs_cons, app_len l s (by rw [ins_cons, List.length_cons] at h; simp only [At.i] at h; omega)]; simp [At.o]
theorem to_l : ∀ (a : List S25) (rest out : List Int), W a → ins (ats a) = rest.length → Runes rest → Runes out → out.length + rest.length + (ats a).length ≤ 900000 → apply_To.l a rest out = some (out ++ app (ats a) rest) ∧ Runes (out ++ app (ats a) rest)
 | [], rest, out, _, h, _, ho, _ => by
  obtain rfl : rest = [] := List.length_eq_zero_iff.1 h.symm
  rw [apply_To.l, ats_nil, show app [] [] = [] from by rw [app]; all_goals (intros; simp_all)]
  simpa using ho
 | x :: a, rest, out, hw, h, hr, ho, hb => by
  obtain ⟨w1, w2⟩ := W_cons.1 hw
  rw [ats_cons, ins_app] at h
  rw [ats_cons, List.length_append] at hb
  rcases okA_cases w1 with ⟨n, rfl⟩ | ⟨n, rfl⟩ | ⟨t, ht, rfl⟩
  ·rw [at1_K, Int.toNat_natCast, List.length_replicate] at hb
   rw [at1_K, Int.toNat_natCast, ins_K] at h
   obtain ⟨i1, i2⟩ := to_l a (rest.drop n) (out ++ rest.take n) w2 (by rw [List.length_drop]; omega) (hr.drop n) (ho.append (hr.take n)) (by rw [List.length_append, List.length_take, List.length_drop]; omega)
   rw [apply_To.l, ats_cons, at1_K, Int.toNat_natCast, app_K _ n rest (by omega), ← List.append_assoc]
   simp only [emp_size, Int.toNat_natCast]
   rw [if_pos (by omega), if_neg (by decide), if_pos trivial]
   exact ⟨i1, i2⟩
  ·rw [at1_D, Int.toNat_natCast, List.length_replicate] at hb
   rw [at1_D, Int.toNat_natCast, ins_D] at h
   obtain ⟨i1, i2⟩ := to_l a (rest.drop n) out w2 (by rw [List.length_drop]; omega) (hr.drop n) ho (by rw [List.length_drop]; omega)
   rw [apply_To.l, ats_cons, at1_D, Int.toNat_natCast, app_D _ n rest (by omega)]
   simp only [emp_size, Int.toNat_natCast]
   rw [if_pos (by omega), if_neg (by decide), if_neg (by decide)]
   exact ⟨i1, i2⟩
  ·rw [at1_I 0 ht, List.length_map] at hb
   rw [at1_I 0 ht, ins_I] at h
   have hz := enc_sz (t := t) (by omega)
   obtain ⟨i1, i2⟩ := to_l a rest (out ++ t) w2 (by omega) hr (ho.append ht) (by rw [List.length_append]; omega)
   rw [apply_To.l, ats_cons, at1_I 0 ht, app_I, ← List.append_assoc]
   simp only [Int.toNat_zero, List.drop_zero]
   rw [if_pos (by omega), if_pos trivial, runes_enc ht]
   exact ⟨i1, i2⟩
theorem to_A {a : List S25} {s : List Int} (hw : W a) (hl : a.length ≤ 400000) (hi : ins (ats a) = s.length) (hr : Runes s) (hb : s.length + (ats a).length ≤ 900000) (k : Nat) (hk : 1000005 ≤ k) : apply_To.f k a (enc s) = some (enc (app (ats a) s), 0) ∧ Runes (app (ats a) s) := by
 obtain ⟨h1, h2⟩ := to_l a s [] hw hi hr (fun _ h => by cases h) (by simpa using hb)
 rw [List.nil_append] at h1 h2
 have hz := enc_sz (t := s) (by omega)
 refine ⟨?_, h2⟩
 unfold apply_To.f
 rw [may_A hw (by omega) (by omega) k (by omega), Option.bind_some, if_pos rfl, count_big hr (by omega), Option.bind_some, if_neg (by omega), in_A hw (by omega) (by omega), Option.bind_some, if_pos (by omega), if_pos (by omega), runes_enc hr, h1, Option.bind_some, runesBytes_enc h2]
def txs (s : List Int) (l : List (List S25)) : List Int := l.foldl (fun t x => app (ats x) t) s
theorem all_A {s : List Int} {l : List (List S25)} (h : hs s.length l) (hr : Runes s) (ht : s.length + tot l ≤ 400000) (hl : l.length ≤ 60000) (k : Nat) (hk : 1100010 ≤ k) : apply_All.f k (enc s) l = some (enc (txs s l), 0) ∧ Runes (txs s l) := by
 have go : ∀ (d i k : Nat) (t : List Int), l.length - i = d → i ≤ l.length → 1000005 + d ≤ k → ch t.length (l.drop i) → Runes t → t.length + tot (l.drop i) ≤ 400000 → apply_All.l0 k (enc t) l (l.length : Int) (i : Int) = some (enc (txs t (l.drop i)), 0) ∧ Runes (txs t (l.drop i)) := by
  intro d
  induction d with
  | zero =>
   intro i k t hd hi hk hc hrt ht
   obtain ⟨k, rfl⟩ : ∃ j, k = j + 1 := ⟨k - 1, by omega⟩
   rw [apply_All.l0, if_neg (by omega), List.drop_of_length_le (by omega)]
   exact ⟨rfl, hrt⟩
  | succ d ih =>
   intro i k t hd hi hk hc hrt ht
   obtain ⟨k, rfl⟩ : ∃ j, k = j + 1 := ⟨k - 1, by omega⟩
   have hm : l[i] ∈ l := List.getElem_mem _
   rw [List.drop_eq_getElem_cons (show i < l.length by omega)] at hc ht ⊢
   obtain ⟨c1, c2, c3⟩ := hc
   rw [tot_cons] at ht
   have la := alt_len (h.2 _ hm)
   obtain ⟨a1, a2⟩ := to_A c1 (by omega) c2 hrt (by omega) k (by omega)
   have al := app_len (ats l[i]) t c2
   have ol := outs_le (ats l[i])
   obtain ⟨i1, i2⟩ := ih (i + 1) k (app (ats l[i]) t) (by omega) (by omega) (by omega) (by rw [al]; exact c3) a2 (by omega)
   rw [apply_All.l0, if_pos (by omega), if_pos (by omega), if_pos (by omega), rdL_at l i (by omega), a1, Option.bind_some, if_pos rfl, w64 (by omega) (by omega), show (i : Int) + 1 = ((i + 1 : Nat) : Int) by omega]
   exact ⟨i1, i2⟩
 obtain ⟨k, rfl⟩ : ∃ j, k = j + 1 := ⟨k - 1, by omega⟩
 obtain ⟨g1, g2⟩ := go l.length 0 k s rfl (Nat.zero_le _) (by omega) h.1 hr ht
 have hz := enc_sz (t := s) (by omega)
 rw [List.drop_zero] at g1 g2
 refine ⟨?_, g2⟩
 have e : apply_All.j0 (k + 1) (enc s) l false = some (enc (txs s l), 0) := by rw [apply_All.j0, if_neg (by decide)]; exact g1
 unfold apply_All.f
 split
 ·rw [valid_big hr (by omega), Option.bind_some]; exact e
 ·exact e
theorem at_A {b R : List Int} {segs : List (List S25)} (h : LogOk b R segs) (i : Nat) (hi : i ≤ segs.length) (k : Nat) (hk : 1100010 ≤ k) : chain_At.f k (enc b) R segs (i : Int) = some (enc (txs b (segs.take i)), 0) ∧ Runes (txs b (segs.take i)) := by
 have := h.tt
 have := h.sl
 have := tot_take segs i
 obtain ⟨a1, a2⟩ := all_A (s := b) (l := segs.take i) ⟨ch_take h.hs.1 i, fun x hx => h.hs.2 x (List.mem_of_mem_take hx)⟩ h.rb (by omega) (by rw [List.length_take]; omega) k hk
 refine ⟨?_, a2⟩
 unfold chain_At.f chain_May.f
 rw [sizes_A h k (by omega), Option.bind_some, Option.bind_some, if_pos rfl, if_neg (by omega), if_neg (by omega), if_pos (by omega), if_pos (by omega), Int.toNat_natCast, a1]
 rfl
theorem rdI_at (l : List Int) (i : Nat) (h : i < l.length) : rd l (i : Int) = l[i] := by
 unfold rd; rw [Int.toNat_natCast, List.getD_eq_getElem?_getD, List.getElem?_eq_getElem h]; rfl
theorem rise_lt {R : List Int} (h : rise R) {i j : Nat} (hi : i < R.length) (hj : j < R.length) : R[i] < R[j] ↔ i < j := by
 constructor
 ·intro hlt
  by_cases c : i < j
  ·exact c
  ·rcases (by omega : i = j ∨ j < i) with rfl | c
   ·omega
   ·have := List.pairwise_iff_getElem.1 h.1 j i hj hi c; omega
 ·exact fun hlt => List.pairwise_iff_getElem.1 h.1 i j hi hj hlt
theorem rise_inj {R : List Int} (h : rise R) {i j : Nat} (hi : i < R.length) (hj : j < R.length) (e : R[i] = R[j]) : i = j := by
 have h1 := rise_lt h hi hj
 have h2 := rise_lt h hj hi
 omega
theorem floor_A (R : List Int) (hr : rise R) (fl : Int) (h0 : R ≠ []) (hl : R.length ≤ 70000) : ∃ a : Nat, (∀ k, R.length + 2 ≤ k → keep_Floor.f k R fl = some (a : Int)) ∧ ∃ h : a < R.length, (a = 0 ∨ R[a] ≤ fl) ∧ (∀ h1 : a + 1 < R.length, fl < R[a + 1]) := by
 have h1 : 0 < R.length := by cases R with | nil => exact absurd rfl h0 | cons => simp
 have go : ∀ (d i p : Nat), R.length - i = d → i ≤ R.length → 0 < i → p + 1 = i → (p = 0 ∨ ∃ h : p < R.length, R[p] ≤ fl) → ∃ a : Nat, (∀ k, d + 1 ≤ k → keep_Floor.l0 k fl (p : Int) R (R.length : Int) (i : Int) = some (a : Int)) ∧ ∃ h : a < R.length, (a = 0 ∨ R[a] ≤ fl) ∧ (∀ h1 : a + 1 < R.length, fl < R[a + 1]) := by
  intro d
  induction d with
  | zero =>
   intro i p hd hi hi0 hp hpr
   refine ⟨p, fun k hk => ?_, by omega, ?_, fun h => by omega⟩
   ·obtain ⟨k, rfl⟩ : ∃ j, k = j + 1 := ⟨k - 1, by omega⟩
    rw [keep_Floor.l0, if_neg (by omega)]
   ·rcases hpr with h | ⟨_, h⟩
    ·exact .inl h
    ·exact .inr h
  | succ d ih =>
   intro i p hd hi hi0 hp hpr
   by_cases c : R[i] > fl
   ·refine ⟨p, fun k hk => ?_, by omega, ?_, fun h => ?_⟩
    ·obtain ⟨k, rfl⟩ : ∃ j, k = j + 1 := ⟨k - 1, by omega⟩
     rw [keep_Floor.l0, if_pos (by omega), if_pos (by omega), if_pos (by omega), rdI_at R i (by omega), if_pos c]
    ·rcases hpr with h | ⟨_, h⟩
     ·exact .inl h
     ·exact .inr h
    ·subst hp; exact c
   ·have hil : i < R.length := by clear c hpr; omega
    have e1 : R.length - (i + 1) = d := by clear c hpr; omega
    obtain ⟨a, a1, a2⟩ := ih (i + 1) i e1 hil (Nat.succ_pos i) rfl (.inr ⟨hil, Int.not_lt.1 c⟩)
    refine ⟨a, fun k hk => ?_, a2⟩
    obtain ⟨k, rfl⟩ : ∃ j, k = j + 1 := ⟨k - 1, by omega⟩
    rw [keep_Floor.l0, if_pos (by omega), if_pos (by omega), if_pos (by omega), rdI_at R i (by omega), if_neg c, w64 (by omega) (by omega), show (i : Int) + 1 = ((i + 1 : Nat) : Int) by omega]
    exact a1 k (by omega)
 by_cases c : R[0] > fl
 ·refine ⟨0, fun k hk => ?_, h1, .inl rfl, fun h => by have := (rise_lt hr h1 h).2 (by omega); omega⟩
  obtain ⟨k, rfl⟩ : ∃ j, k = j + 1 := ⟨k - 1, by omega⟩
  unfold keep_Floor.f
  rw [keep_Floor.l0, if_pos (by omega), if_pos (by omega), if_pos (by omega), show (0 : Int) = ((0 : Nat) : Int) from rfl, rdI_at R 0 h1, if_pos c]
 ·obtain ⟨a, a1, h, a2, a3⟩ := go (R.length - 1) 1 0 rfl (by omega) (by omega) rfl (.inl rfl)
  refine ⟨a, fun k hk => ?_, h, a2, a3⟩
  obtain ⟨k, rfl⟩ : ∃ j, k = j + 1 := ⟨k - 1, by omega⟩
  unfold keep_Floor.f
  rw [keep_Floor.l0, if_pos (by omega), if_pos (by omega), if_pos (by omega), show (0 : Int) = ((0 : Nat) : Int) from rfl, rdI_at R 0 h1, if_neg c, show wrap64 (((0 : Nat) : Int) + 1) = ((1 : Nat) : Int) by simp [wrap64]]
  exact a1 k (by omega)
theorem to_at {R : List Int} (h : rise R) : ∀ (d i j : Nat) (hj : j < R.length), j - i = d → i ≤ j → compact_Of.to R[j] (R.drop i) i = some j := by
 intro d
 induction d with
 | zero =>
  intro i j hj hd hi
  obtain rfl : i = j := by omega
  rw [List.drop_eq_getElem_cons hj, compact_Of.to, if_pos rfl]
 | succ d ih =>
  intro i j hj hd hi
  rw [List.drop_eq_getElem_cons (show i < R.length by omega), compact_Of.to, if_neg (fun e => by have := rise_inj h _ _ e; omega), ih (i + 1) j hj (by omega) (by omega)]
theorem filter_next (p : Int → Bool) (R : List Int) : ∀ (d i : Nat), R.length - i = d → (R.drop i).filter p = [] ∧ (∀ j (h : j < R.length), i ≤ j → p R[j] = false) ∨ ∃ t, ∃ h : t < R.length, i ≤ t ∧ p R[t] = true ∧ (R.drop i).filter p = R[t] :: (R.drop (t + 1)).filter p ∧ ∀ j (h : j < R.length), i ≤ j → j < t → p R[j] = false := by
 intro d
 induction d with
 | zero => intro i hd; exact .inl ⟨by rw [List.drop_of_length_le (by omega)]; rfl, fun j h hi => by omega⟩
 | succ d ih =>
  intro i hd
  have hi : i < R.length := by omega
  by_cases c : p R[i] = true
  ·exact .inr ⟨i, hi, Nat.le_refl _, c, by rw [List.drop_eq_getElem_cons hi, List.filter_cons, if_pos c], fun j _ h1 h2 => by omega⟩
  ·have e : (R.drop i).filter p = (R.drop (i + 1)).filter p := by rw [List.drop_eq_getElem_cons hi, List.filter_cons, if_neg c]
   have cf : p R[i] = false := by simpa using c
   rcases ih (i + 1) (by omega) with ⟨h1, h2⟩ | ⟨t, ht, h1, h2, h3, h4⟩
   ·refine .inl ⟨by rw [e, h1], fun j hj hij => ?_⟩
    by_cases z : j = i
    ·subst z; exact cf
    ·exact h2 j hj (by omega)
   ·refine .inr ⟨t, ht, by omega, h2, by rw [e, h3], fun j hj hij hjt => ?_⟩
    by_cases z : j = i
    ·subst z; exact cf
    ·exact h4 j hj (by omega) hjt
def CP (n : Nat) (R : List Int) (segs : List (List S25)) : Nat → List Int → List (List S25) → Prop
 | _, [], [] => True
 | a, y :: ys, o :: os => ∃ t, a < t ∧ t ≤ segs.length ∧ R[t]? = some y ∧ W o ∧ Alt o ∧ ats o = cmps (sz n segs a) ((segs.take t).drop a) ∧ o.length ≤ lens ((segs.take t).drop a) ∧ (ats o).length ≤ 400000 ∧ CP n R segs t ys os
 | _, _, _ => False
theorem CP_len {n : Nat} {R : List Int} {segs : List (List S25)} : ∀ (ys : List Int) (os : List (List S25)) (a : Nat), CP n R segs a ys os → os.length = ys.length
 | [], [], _, _ => rfl
 | y :: ys, o :: os, a, ⟨t, _, _, _, _, _, _, _, _, h⟩ => by rw [List.length_cons, List.length_cons, CP_len ys os t h]
theorem compact_l {b R : List Int} {segs : List (List S25)} (h : LogOk b R segs) (p : Int → Bool) (k : Nat) (hk : 1000005 ≤ k) : ∀ (d a : Nat), R.length - a = d → a < R.length →
  ∃ os, compact_Of.l k ((b.length : Int) :: szs segs) R segs a ((R.drop (a + 1)).filter p) = some os ∧ CP b.length R segs a ((R.drop (a + 1)).filter p) os := by
 intro d
 have hln := h.ln
 have htt := h.tt
 have hsl := h.sl
 induction d using Nat.strongRecOn with
 | _ d ih =>
  intro a hd ha
  rcases filter_next p R _ (a + 1) rfl with ⟨e, _⟩ | ⟨t, ht, h1, h2, e, _⟩
  ·rw [e]; exact ⟨[], rfl, trivial⟩
  ·obtain ⟨os, o1, o2⟩ := ih (R.length - t) (by omega) t rfl ht
   have ta := tot_part (n := b.length) (l := segs) (a := a) (t := t) (by omega) (by omega)
   obtain ⟨r, f1, f2, f3, f4, f5⟩ := fuse_A (hs_part h.hs (a := a) (t := t) (by omega) (by omega)) (by rw [List.length_drop, List.length_take]; omega) (by omega)
   have hne : (segs.take t).drop a ≠ [] := fun e => by have := congrArg List.length e; rw [List.length_drop, List.length_take, List.length_nil] at this; omega
   rw [e]
   refine ⟨r :: os, ?_, t, by omega, by omega, List.getElem?_eq_getElem ht, f2, f3, f4, f5 hne, by rw [f4]; have := (cmps_len (hs_part h.hs (a := a) (t := t) (by omega) (by omega)).1).1; omega, o2⟩
   rw [compact_Of.l, to_at h.ri _ a t ht rfl (by omega), Option.bind_some, if_pos ⟨by omega, by rw [List.length_cons, szs, List.length_map]; omega⟩, rd_sz segs _ a (by omega), f1 k (by omega), Option.bind_some, if_pos rfl, o1]
   rfl
theorem compact_A {b R : List Int} {segs : List (List S25)} (h : LogOk b R segs) (set : List Int) (fl : Int) (hset : ∀ x ∈ set, i64ok x) (hl : set.length ≤ 60000) (k : Nat) (hk : 1100010 ≤ k) :
  ∃ a : Nat, ∃ ha : a < R.length, ∃ os, (∀ k, R.length + 2 ≤ k → keep_Floor.f k R fl = some (a : Int)) ∧ (a = 0 ∨ R[a] ≤ fl) ∧ (∀ h1 : a + 1 < R.length, fl < R[a + 1]) ∧
   compact_Of.f k (enc b) R segs set fl = some (enc (txs b (segs.take a)), R[a] :: (R.drop (a + 1)).filter (keep_Of.p (R.drop a) set), os, 0) ∧ Runes (txs b (segs.take a)) ∧ CP b.length R segs a ((R.drop (a + 1)).filter (keep_Of.p (R.drop a) set)) os := by
 have hln := h.ln
 have hsl := h.sl
 obtain ⟨a, f1, ha, f2, f3⟩ := floor_A R h.ri fl (fun e => by rw [e] at hln; simp at hln) (by omega)
 obtain ⟨os, c1, c2⟩ := compact_l h (keep_Of.p (R.drop a) set) k (by omega) _ a rfl ha
 obtain ⟨a1, a2⟩ := at_A h a (by omega) k hk
 refine ⟨a, ha, os, f1, f2, f3, ?_, a2, c2⟩
 have e0 : rd (R.drop a) 0 = R[a] := by rw [List.drop_eq_getElem_cons ha]; rfl
 have ek : (R.drop a).filter (keep_Of.p (R.drop a) set) = R[a] :: (R.drop (a + 1)).filter (keep_Of.p (R.drop a) set) := by
  conv => lhs; arg 2; rw [List.drop_eq_getElem_cons ha]
  rw [List.filter_cons, if_pos]
  unfold keep_Of.p
  rw [e0]; simp
 have ho : ∀ x ∈ R, i64ok x := fun x hx => by have := h.ri.2 x hx; unfold i64ok; omega
 unfold compact_Of.f
 rw [if_pos ⟨by omega, by omega⟩]
 unfold chain_Sizes.f
 rw [sizes_A h k (by omega), Option.bind_some, Option.bind_some, if_pos rfl, f1 k (by omega), Option.bind_some, a1, Option.bind_some, if_pos rfl]
 unfold keep_Of.f
 rw [f1 k (by omega), Option.bind_some, if_pos ⟨by omega, by omega, by omega, by omega, ho, hset⟩, Option.bind_some, Int.toNat_natCast, ek]
 have hfl := List.length_filter_le (keep_Of.p (R.drop a) set) (R.drop (a + 1))
 rw [List.length_drop] at hfl
 rw [if_pos ⟨by omega, by simp, by rw [List.length_cons]; omega⟩]
 show ((compact_Of.l k ((b.length : Int) :: szs segs) R segs a ((R.drop (a + 1)).filter (keep_Of.p (R.drop a) set))).bind _) = _
 rw [c1]
 rfl
theorem idx_mem {R : List Int} (h : rise R) (t : Nat) (ht : t < R.length) : seek_Find.idx R[t] R 0 = if t + 1 = R.length then -1 else ((t + 1 : Nat) : Int) := by
 rcases seek_Find.idx_spec R[t] R 0 with ⟨e, hall⟩ | ⟨q, hq, e, hgt, hle⟩
 ·have hl := hall R[R.length - 1] (List.getElem_mem _)
  have := (rise_lt h ht (show R.length - 1 < R.length by omega))
  rw [if_pos (by omega)]; exact e
 ·rw [List.getD_eq_getElem?_getD, List.getElem?_eq_getElem hq] at hgt
  have h1 := (rise_lt h ht hq).1 hgt
  have h2 : ¬ t + 1 < q := by
   intro c
   have := hle (R[t + 1]'(by omega)) (by rw [List.mem_take_iff_getElem]; exact ⟨t + 1, by omega, rfl⟩)
   have := (rise_lt h ht (show t + 1 < R.length by omega)).2 (by omega)
   omega
  rw [if_neg (by omega)]
  have : q = t + 1 := by omega
  subst this
  simpa using e
theorem seek_at {R : List Int} (h : rise R) (hl : R.length ≤ 100000) (t : Nat) (ht : t < R.length) : seek_Find.f R R[t] = some ((t : Int), R[t], 0) := by
 have hi := idx_mem h t ht
 have hab : seek_Find.ab R R[t] = ((t + 1 : Nat) : Int) := by
  unfold seek_Find.ab
  rw [hi]
  by_cases c : t + 1 = R.length
  ·rw [if_pos c, if_pos (by decide)]; omega
  ·rw [if_neg c, if_neg (by omega)]
 unfold seek_Find.f
 rw [hab, if_pos (by omega), if_neg (by omega)]
 have e1 : ((t + 1 : Nat) : Int) - 1 = (t : Int) := by omega
 rw [if_neg, if_neg (by omega), e1, rdI_at R t ht, if_pos rfl]
 rintro ⟨c1, c2⟩
 apply c2
 have : (R.length : Int) - 1 = (t : Int) := by omega
 rw [this, rdI_at R t ht]
theorem revs_at (m i : Nat) (h : i < (revs m).length) : (revs m)[i] = (i : Int) := by simp [revs]
theorem revs_rise (m : Nat) (hm : m ≤ 100000) : rise (revs m) := by
 refine ⟨List.pairwise_iff_getElem.2 fun i j hi hj hij => by rw [revs_at, revs_at]; omega, fun x hx => ?_⟩
 obtain ⟨i, hi, rfl⟩ := List.getElem_of_mem hx
 rw [revs_at]
 rw [revs_len] at hi
 omega
theorem same_A (l : List S25) (hl : l.length ≤ 1000000) (k : Nat) (hk : l.length + 1 ≤ k) : epitomeref04_Same.f k l l = some true := by
 have go : ∀ (d i k : Nat), l.length - i = d → i ≤ l.length → d + 1 ≤ k → epitomeref04_Same.l0 k l l (i : Int) = some true := by
  intro d
  induction d with
  | zero =>
   intro i k hd hi hk
   obtain ⟨k, rfl⟩ : ∃ j, k = j + 1 := ⟨k - 1, by omega⟩
   rw [epitomeref04_Same.l0, if_neg (by omega)]
  | succ d ih =>
   intro i k hd hi hk
   obtain ⟨k, rfl⟩ : ∃ j, k = j + 1 := ⟨k - 1, by omega⟩
   rw [epitomeref04_Same.l0, if_pos (by omega), if_pos (by omega), if_pos (by omega), if_neg (by simp), w64 (by omega) (by omega), show (i : Int) + 1 = ((i + 1 : Nat) : Int) by omega]
   exact ih (i + 1) k (by omega) (by omega) (by omega)
 unfold epitomeref04_Same.f
 rw [if_pos rfl]
 exact go l.length 0 k rfl (Nat.zero_le _) hk
def atb (b : Bool) : At := if b then At.D else At.K
def il : List (List Int) → List Bool → List At
 | c :: P, b :: G => c.map At.I ++ atb b :: il P G
 | c :: _, [] => c.map At.I
 | [], _ => []
theorem il_put (c t : List Int) : ∀ (P : List (List Int)) (G : List Bool), P.length = G.length → il (P ++ [c ++ t]) G = il (P ++ [c]) G ++ t.map At.I
 | [], [], _ => by simp [il]
 | d :: P, b :: G, h => by
  have := il_put c t P G (by simpa using h)
  rw [List.cons_append, List.cons_append, il, il, this, List.append_assoc]; rfl
theorem il_gap (b : Bool) : ∀ (P : List (List Int)) (G : List Bool), P.length = G.length + 1 → il (P ++ [[]]) (G ++ [b]) = il P G ++ [atb b]
 | [c], [], _ => by simp [il]
 | c :: d :: P, b' :: G, h => by
  have := il_gap b (d :: P) G (by simpa using h)
  show c.map At.I ++ atb b' :: il ((d :: P) ++ [[]]) (G ++ [b]) = _
  rw [this, il, List.append_assoc]; rfl
theorem il_gaps (b : Bool) : ∀ (n : Nat) (P : List (List Int)) (G : List Bool), P.length = G.length + 1 → il (P ++ List.replicate n []) (G ++ List.replicate n b) = il P G ++ List.replicate n (atb b)
 | 0, P, G, _ => by simp
 | n + 1, P, G, h => by
  have e1 : P ++ List.replicate (n + 1) [] = (P ++ [[]]) ++ List.replicate n [] := by rw [List.replicate_succ, List.append_assoc]; rfl
  have e2 : G ++ List.replicate (n + 1) b = (G ++ [b]) ++ List.replicate n b := by rw [List.replicate_succ, List.append_assoc]; rfl
  rw [e1, e2, il_gaps b n _ _ (by simp; omega), il_gap b P G h, List.append_assoc, List.replicate_succ]; rfl
theorem fill_A (b : Bool) : ∀ (n m : Nat) (G : List Bool), n ≤ m → gaps_Of.fill b n G.length (G ++ List.replicate m false) = G ++ List.replicate n b ++ List.replicate (m - n) false
 | 0, m, G, _ => by rw [gaps_Of.fill]; simp
 | n + 1, 0, G, h => by omega
 | n + 1, m + 1, G, h => by
  have e : (G ++ List.replicate (m + 1) false).set G.length b = (G ++ [b]) ++ List.replicate m false := by
   rw [List.replicate_succ, List.set_append_right _ _ (Nat.le_refl _), Nat.sub_self, List.append_assoc]; rfl
  rw [gaps_Of.fill, e, show G.length + 1 = (G ++ [b]).length by simp, fill_A b n m _ (by omega), List.replicate_succ, show m + 1 - (n + 1) = m - n by omega]
  simp
theorem il_len (c : List Int) : ∀ (P : List (List Int)) (G : List Bool), P.length = G.length → c.length ≤ (il (P ++ [c]) G).length
 | [], [], _ => by simp [il]
 | d :: P, b :: G, h => by
  have := il_len c P G (by simpa using h)
  rw [List.cons_append, il, List.length_append, List.length_cons]; omega
theorem gap_get (P : List (List Int)) (c : List Int) (R : List ByteArray) : ((P ++ [c]).map enc ++ R).getD P.length ⟨#[]⟩ = enc c := by
 rw [List.getD_eq_getElem?_getD, List.map_append, List.append_assoc, List.getElem?_append_right (by simp)]; simp
theorem gap_set (P : List (List Int)) (c d : List Int) (R : List ByteArray) : ((P ++ [c]).map enc ++ R).set P.length (enc d) = (P ++ [d]).map enc ++ R := by
 rw [List.map_append, List.append_assoc, List.set_append_right _ _ (by simp)]; simp
theorem go_A : ∀ (l : List S25) (P : List (List Int)) (c : List Int) (G : List Bool), W l → (∀ x ∈ P, Runes x) → Runes c → P.length = G.length → G.length + ins (ats l) ≤ 512 → (ats l).length + (il (P ++ [c]) G).length ≤ 900000 →
  ∃ Q H, gaps_Of.go l ((P ++ [c]).map enc ++ List.replicate (512 - G.length) ⟨#[]⟩) (G ++ List.replicate (512 - G.length) false) G.length = some (Q.map enc ++ List.replicate (512 - H.length) ⟨#[]⟩, H ++ List.replicate (512 - H.length) false) ∧ Q.length = H.length + 1 ∧ (∀ x ∈ Q, Runes x) ∧ il Q H = il (P ++ [c]) G ++ ats l ∧ H.length = G.length + ins (ats l) := by
 intro l
 induction l with
 | nil =>
  intro P c G _ hP hc hl _ _
  refine ⟨P ++ [c], G, rfl, by simp [hl], fun x hx => ?_, by simp [ats], by simp [ins, ats]⟩
  rcases List.mem_append.1 hx with h | h
  ·exact hP x h
  ·rw [List.mem_singleton.1 h]; exact hc
 | cons x l ih =>
  intro P c G hw hP hc hl hn hb
  obtain ⟨w1, w2⟩ := W_cons.1 hw
  rw [ats_cons, ins_app] at hn
  rw [ats_cons, List.length_append] at hb
  have hcl := il_len c P G hl
  have hce := enc_sz (t := c) (by omega)
  have many : ∀ (b : Bool) (n : Nat), at1 x = List.replicate n (atb b) → x.f0 = (if b then 3 else 1) → x.f1 = (n : Int) → x.f2 = ⟨#[]⟩ → ∃ Q H, gaps_Of.go (x :: l) ((P ++ [c]).map enc ++ List.replicate (512 - G.length) ⟨#[]⟩) (G ++ List.replicate (512 - G.length) false) G.length = some (Q.map enc ++ List.replicate (512 - H.length) ⟨#[]⟩, H ++ List.replicate (512 - H.length) false) ∧ Q.length = H.length + 1 ∧ (∀ x ∈ Q, Runes x) ∧ il Q H = il (P ++ [c]) G ++ ats (x :: l) ∧ H.length = G.length + ins (ats (x :: l)) := by
   intro b n e0 e1 e2 e3
   have hi : ins (at1 x) = n := by rw [e0]; cases b; exact ins_K n; exact ins_D n
   rw [hi] at hn
   have eb : decide (x.f0 = 3) = b := by rw [e1]; cases b <;> rfl
   rw [gaps_Of.go, ← hl, gap_get, e3, e2, Int.toNat_natCast, hl, if_pos ⟨by omega, by omega, by rw [emp_size]; omega⟩, eb, fill_A b n (512 - G.length) G (by omega), ← hl, emp_enc, enc_append, List.append_nil, gap_set, hl]
   cases n with
   | zero =>
    obtain ⟨Q, H, h1, h2, h3, h4, h5⟩ := ih P c G w2 hP hc hl (by omega) (by omega)
    rw [← emp_enc]
    refine ⟨Q, H, by simpa using h1, h2, h3, by rw [h4, ats_cons, e0]; rfl, by rw [h5, ats_cons, ins_app, hi]; omega⟩
   | succ n =>
    have e4 : List.replicate (512 - G.length) (enc []) = List.replicate (n + 1) (enc []) ++ List.replicate (512 - (G ++ List.replicate (n + 1) b).length) (enc []) := by
     rw [List.replicate_append_replicate, List.length_append, List.length_replicate]; congr 1; omega
    have e5 : (P ++ [c]).map enc ++ List.replicate (512 - G.length) (enc []) = ((P ++ [c] ++ List.replicate n []) ++ [[]]).map enc ++ List.replicate (512 - (G ++ List.replicate (n + 1) b).length) (enc []) := by
     rw [e4, List.append_assoc (P ++ [c]), show List.replicate n ([] : List Int) ++ [[]] = List.replicate (n + 1) [] by rw [List.replicate_succ']]
     simp
    have e6 : 512 - G.length - (n + 1) = 512 - (G ++ List.replicate (n + 1) b).length := by rw [List.length_append, List.length_replicate]; omega
    have e7 : G.length + (n + 1) = (G ++ List.replicate (n + 1) b).length := by rw [List.length_append, List.length_replicate]
    have e8 : il (P ++ [c] ++ List.replicate n [] ++ [[]]) (G ++ List.replicate (n + 1) b) = il (P ++ [c]) G ++ List.replicate (n + 1) (atb b) := by
     rw [List.append_assoc (P ++ [c]), show List.replicate n ([] : List Int) ++ [[]] = List.replicate (n + 1) [] by rw [List.replicate_succ'], il_gaps b (n + 1) _ _ (by simp [hl])]
    obtain ⟨Q, H, h1, h2, h3, h4, h5⟩ := ih (P ++ [c] ++ List.replicate n []) [] (G ++ List.replicate (n + 1) b) w2 (fun y hy => by
      rcases List.mem_append.1 hy with h | h
      ·rcases List.mem_append.1 h with h | h
       ·exact hP y h
       ·rw [List.mem_singleton.1 h]; exact hc
      ·rw [List.eq_of_mem_replicate h]; exact fun _ h => by cases h) (fun _ h => by cases h) (by simp [hl]) (by rw [List.length_append, List.length_replicate]; omega) (by rw [e8, List.length_append, List.length_replicate]; rw [e0, List.length_replicate] at hb; omega)
    rw [e5, e6, e7, ← emp_enc]
    exact ⟨Q, H, h1, h2, h3, by rw [h4, e8, ats_cons, e0, List.append_assoc], by rw [h5, ats_cons, ins_app, hi, List.length_append, List.length_replicate]; omega⟩
  rcases okA_cases w1 with ⟨n, rfl⟩ | ⟨n, rfl⟩ | ⟨t, ht, rfl⟩
  ·exact many false n rfl rfl rfl rfl
  ·exact many true n rfl rfl rfl rfl
  ·rw [at1_I 0 ht, ins_I] at hn
   rw [at1_I 0 ht, List.length_map] at hb
   have hte := enc_sz (t := t) (by omega)
   obtain ⟨Q, H, h1, h2, h3, h4, h5⟩ := ih P (c ++ t) G w2 hP (hc.append ht) hl (by omega) (by rw [il_put c t P G hl, List.length_append, List.length_map]; omega)
   refine ⟨Q, H, ?_, h2, h3, by rw [h4, il_put c t P G hl, ats_cons, at1_I 0 ht, List.append_assoc], by rw [h5, ats_cons, ins_app, at1_I 0 ht, ins_I]; omega⟩
   rw [gaps_Of.go]
   have eg := gap_get P c (List.replicate (512 - G.length) ⟨#[]⟩)
   rw [hl] at eg
   have es := gap_set P c (c ++ t) (List.replicate (512 - G.length) ⟨#[]⟩)
   rw [hl] at es
   simp only [eg]
   rw [if_pos ⟨by omega, by show G.length + (0 : Int).toNat ≤ 512; simp; omega, by omega⟩]
   rw [enc_append, es]
   exact h1
theorem gadd_A {d : List S25} {x : S25} (hd : W d) (ha : Alt d) (hx : okA x) (hb : (ats d).length + (at1 x).length ≤ 1000000) : W (gaps_add d x) ∧ Alt (gaps_add d x) ∧ ats (gaps_add d x) = ats d ++ at1 x := by
 unfold gaps_add
 by_cases c : normal_Of.e x = true
 ·rw [if_pos c]
  exact ⟨hd, ha, by rw [(e_iff hx).1 c, List.append_nil]⟩
 ·rw [if_neg c]
  obtain ⟨h1, h2, h3, _⟩ := step_A hd ha hx (fun e => c ((e_iff hx).2 e)) hb
  exact ⟨h1, h2, h3⟩
theorem gfold : ∀ (l d : List S25), l.foldl gaps_add d = (normal_Of.keep l).foldl normal_Of.step d
 | [], d => rfl
 | x :: l, d => by
  rw [List.foldl_cons, gfold l]
  unfold gaps_add normal_Of.keep
  rw [List.filter_cons]
  by_cases c : normal_Of.e x = true
  ·rw [if_pos c, if_neg (by simp [c])]
  ·rw [if_neg c, if_pos (by simpa using c), List.foldl_cons]
def isp : List (List Int) → List Bool → List S25
 | c :: P, b :: G => ⟨2, 0, enc c⟩ :: ⟨gaps_kind b, 1, ⟨#[]⟩⟩ :: isp P G
 | c :: _, [] => [⟨2, 0, enc c⟩]
 | [], _ => []
theorem kind_A (b : Bool) : okA ⟨gaps_kind b, 1, ⟨#[]⟩⟩ ∧ at1 ⟨gaps_kind b, 1, ⟨#[]⟩⟩ = [atb b] := by
 cases b
 ·exact ⟨okA_K 1, rfl⟩
 ·exact ⟨okA_D 1, rfl⟩
theorem isp_A : ∀ (P : List (List Int)) (G : List Bool), (∀ c ∈ P, Runes c) → W (isp P G) ∧ ats (isp P G) = il P G
 | [], G, _ => by cases G <;> exact ⟨W_nil, rfl⟩
 | c :: P, [], h => by
  have hc := h c (by simp)
  exact ⟨W_cons.2 ⟨okA_I hc, W_nil⟩, by rw [isp, ats_cons, at1_I 0 hc, ats_nil, List.append_nil]; rfl⟩
 | c :: P, b :: G, h => by
  have hc := h c (by simp)
  obtain ⟨h1, h2⟩ := isp_A P G (fun x hx => h x (by simp [hx]))
  refine ⟨W_cons.2 ⟨okA_I hc, W_cons.2 ⟨(kind_A b).1, h1⟩⟩, ?_⟩
  rw [isp, ats_cons, ats_cons, at1_I 0 hc, (kind_A b).2, h2, il]; rfl
theorem one_ok {d : List S25} {x : S25} (hd : W d) (ha : Alt d) (hx : okA x) (hb : (ats d).length + (at1 x).length ≤ 900000) : gaps_Spans.one d x = some (gaps_add d x) := by
 unfold gaps_Spans.one
 refine if_pos ⟨by have := alt_len ha; omega, ?_⟩
 have tx := text_le (l := [x]) (W_cons.2 ⟨hx, W_nil⟩)
 rw [normal_Of.t, normal_Of.t, ats_cons, ats_nil, List.append_nil] at tx
 have td := text_le hd
 have : (rd_T25 d ((d.length : Int) - 1)).f2.size ≤ normal_Of.t d := by
  rcases List.eq_nil_or_concat d with rfl | ⟨d', y, rfl⟩
  ·exact Nat.zero_le _
  ·rw [List.concat_eq_append]
   have e : ((d' ++ [y]).length : Int) - 1 = ((d'.length : Nat) : Int) := by simp
   rw [e]
   unfold rd_T25
   rw [Int.toNat_natCast, List.getD_eq_getElem?_getD, normal_Of.t_append]
   simp [normal_Of.t]
 omega
theorem spans_A : ∀ (P : List (List Int)) (G : List Bool) (d : List S25), W d → Alt d → (∀ c ∈ P, Runes c) → P.length = G.length + 1 → (ats d).length + (il P G).length ≤ 900000 → gaps_Spans.l d (P.map enc) G = some ((isp P G).foldl gaps_add d)
 | [], G, d, _, _, _, h, _ => by simp at h
 | c :: P, [], d, hd, ha, hP, h, hb => by
  obtain rfl : P = [] := List.length_eq_zero_iff.1 (by simpa using h)
  have hc := hP c (by simp)
  rw [il, List.length_map] at hb
  have he := enc_sz (t := c) (by omega)
  rw [List.map_cons, gaps_Spans.l, if_pos ⟨by omega, validT_enc hc⟩, one_ok hd ha (okA_I hc) (by rw [at1_I 0 hc, List.length_map]; exact hb), Option.bind_some]
  rfl
 | c :: P, b :: G, d, hd, ha, hP, h, hb => by
  have hc := hP c (by simp)
  rw [il, List.length_append, List.length_map, List.length_cons] at hb
  have he := enc_sz (t := c) (by omega)
  obtain ⟨g1, g2, g3⟩ := gadd_A hd ha (okA_I hc) (by rw [at1_I 0 hc, List.length_map]; omega)
  rw [at1_I 0 hc] at g3
  have g4 : (ats (gaps_add d ⟨2, 0, enc c⟩)).length = (ats d).length + c.length := by rw [g3, List.length_append, List.length_map]
  obtain ⟨k1, k2, k3⟩ := gadd_A g1 g2 (kind_A b).1 (by rw [(kind_A b).2, g4]; simp; omega)
  rw [List.map_cons, gaps_Spans.l, if_pos ⟨by omega, validT_enc hc⟩, one_ok hd ha (okA_I hc) (by rw [at1_I 0 hc, List.length_map]; omega), Option.bind_some, one_ok g1 g2 (kind_A b).1 (by rw [(kind_A b).2, g4]; simp; omega), Option.bind_some,
   spans_A P G _ k1 k2 (fun x hx => hP x (by simp [hx])) (by simpa using h) (by rw [k3, (kind_A b).2, List.length_append, g4]; simp; omega)]
  rfl
theorem gaps_A {l : List S25} (hw : W l) (ha : Alt l) (hi : ins (ats l) ≤ 512) (hb : (ats l).length ≤ 900000) : ∃ p g, (∀ k, l.length + 4 ≤ k → gaps_Of.f k l = some (p, g, 0)) ∧ gaps_Spans.f p g = some (l, 0) := by
 have hl := alt_len ha
 obtain ⟨Q, H, h1, h2, h3, h4, h5⟩ := go_A l [] [] [] hw (fun _ h => by cases h) (fun _ h => by cases h) rfl (by simpa using hi) (by simpa [il] using hb)
 have e4 : il Q H = ats l := by rw [h4]; rfl
 simp only [List.length_nil, Nat.zero_add] at h5
 have hq : Q.length = ins (ats l) + 1 := by omega
 refine ⟨Q.map enc, H, fun k hk => ?_, ?_⟩
 ·unfold gaps_Of.f
  rw [may_A hw (by omega) (by omega) k hk, Option.bind_some, if_pos rfl, in_A hw (by omega) (by omega), Option.bind_some, if_pos ⟨by omega, by omega, by omega⟩]
  have e1 : (List.replicate 513 (⟨#[]⟩ : ByteArray)) = ([] ++ [([] : List Int)]).map enc ++ List.replicate (512 - ([] : List Bool).length) ⟨#[]⟩ := rfl
  have e2 : (List.replicate 512 false) = ([] : List Bool) ++ List.replicate (512 - ([] : List Bool).length) false := rfl
  rw [e1, e2, show (0 : Nat) = ([] : List Bool).length from rfl, h1, Option.bind_some, Int.toNat_natCast]
  simp only []
  rw [List.take_append_of_le_length (by simp; omega), List.take_of_length_le (by simp; omega), List.take_append_of_le_length (by omega), List.take_of_length_le (by omega)]
 ·obtain ⟨w1, e1⟩ := isp_A Q H h3
  unfold gaps_Spans.f
  rw [if_pos ⟨by simp; omega, by omega⟩, spans_A Q H [] W_nil trivial h3 h2 (by rw [e4, ats_nil]; simpa using hb), Option.bind_some, gfold]
  have hn := norm_A w1 (by rw [e1, e4]; omega)
  have : normal_Of.n (isp Q H) = l := alt_uniq hn.1 hw hn.2.1 ha (by rw [hn.2.2.1, e1, e4])
  show some (normal_Of.n (isp Q H), (0 : Int)) = _
  rw [this]
set_option maxRecDepth 100000 in
theorem shown_top (k : Nat) (hk : 60 ≤ k) : epitometop_shown.f k = some true := up epitometop_shown.mono hk (by decide +kernel)
theorem few_A (l : List Int) (h : ∀ x ∈ l, i64ok x) : ∃ r, epitometop_few.f l = some r ∧ r.length ≤ 30 ∧ ∀ x ∈ r, i64ok x := by
 have m := mn_le (l.length : Int) 30
 have h0 : 0 ≤ mn (l.length : Int) 30 := by rcases m.2.2 with h | h <;> omega
 refine ⟨l.take (mn (l.length : Int) 30).toNat, ?_, ?_, fun x hx => h x (List.mem_of_mem_take hx)⟩
 ·unfold epitometop_few.f
  rw [if_pos h0, if_pos m.1]
 ·rw [List.length_take]; omega
section
variable {b R kept : List Int} {segs os : List (List S25)} {s s' : ByteArray}
theorem least_1 (h : LogOk b R segs) (i : Nat) (q : List S25) (hi : i < os.length) (hq : os[i] = q) (a t : Nat) (htl : t ≤ segs.length) (hle : q.length ≤ lens ((segs.take t).drop a)) (K : Nat) (hi1 : i + 1 < 1000000)
  (next : ∀ k', K ≤ k' → epitometop_TopLeast.l0 k' ((i + 1 : Nat) : Int) s R segs s' kept os = some true) :
  ∀ (d j k : Nat), t - j = d → a ≤ j → j ≤ t → K + d + 1 ≤ k → epitometop_TopLeast.l1 k (i : Int) (t : Int) (lens ((segs.take j).drop a) : Int) (j : Int) s R segs s' kept os = some true := by
 intro d
 have htt := h.tt
 have hsl := h.sl
 have hlen : ∀ j, lens ((segs.take j).drop a) ≤ 400000 := by
  intro j
  refine Nat.le_trans (lens_tot fun x hx => h.hs.2 x (List.mem_of_mem_take (List.mem_of_mem_drop hx))) ?_
  have : tot ((segs.take j).drop a) ≤ tot (segs.take j) := by
   rw [tot, List.map_drop, tot]
   conv => rhs; rw [← List.take_append_drop a (List.map (fun x => (ats x).length) (segs.take j)), List.sum_append]
   omega
  have := tot_take segs j
  omega
 induction d with
 | zero =>
  intro j k hd ha hj hk
  obtain ⟨k, rfl⟩ : ∃ m, k = m + 1 := ⟨k - 1, by omega⟩
  obtain rfl : j = t := by omega
  rw [epitometop_TopLeast.l1, if_neg (by omega), if_pos (by omega), if_pos (by omega), rdL_at os i hi, hq, if_neg (by omega), w64 (by omega) (by omega), show (i : Int) + 1 = ((i + 1 : Nat) : Int) by omega]
  exact next k (by omega)
 | succ d ih =>
  intro j k hd ha hj hk
  obtain ⟨k, rfl⟩ : ∃ m, k = m + 1 := ⟨k - 1, by omega⟩
  have hjl : j < segs.length := by omega
  have h1 := hlen (j + 1)
  have e : (segs.take (j + 1)).drop a = (segs.take j).drop a ++ [segs[j]] := by rw [List.take_succ_eq_append_getElem hjl, List.drop_append_of_le_length (by rw [List.length_take]; omega)]
  have el : lens ((segs.take (j + 1)).drop a) = lens ((segs.take j).drop a) + segs[j].length := by rw [e, lens_snoc]
  rw [epitometop_TopLeast.l1, if_pos (by omega), if_pos (by omega), if_pos (by omega), rdL_at segs j hjl, w64 (by omega) (by omega), w64 (by omega) (by omega), show (j : Int) + 1 = ((j + 1 : Nat) : Int) by omega, show (lens ((segs.take j).drop a) : Int) + (segs[j].length : Int) = (lens ((segs.take (j + 1)).drop a) : Int) by omega]
  exact ih (j + 1) k (by omega) (by omega) (by omega) (by omega)
theorem least_l (h : LogOk b R segs) (hko : kept.length = os.length + 1) (hkl : kept.length ≤ 70000) : ∀ (d i a k : Nat), os.length - i = d → i ≤ os.length → kept[i]? = R[a]? → a < R.length → CP b.length R segs a (kept.drop (i + 1)) (os.drop i) → 2000000 + 70000 * d ≤ k → epitometop_TopLeast.l0 k (i : Int) s R segs s' kept os = some true := by
 intro d
 have hln := h.ln
 have hsl := h.sl
 induction d with
 | zero =>
  intro i a k hd hi hka ha hc hk
  obtain ⟨k, rfl⟩ : ∃ m, k = m + 1 := ⟨k - 1, by omega⟩
  rw [epitometop_TopLeast.l0, if_neg (by omega)]
 | succ d ih =>
  intro i a k hd hi hka ha hc hk
  obtain ⟨k, rfl⟩ : ∃ m, k = m + 2 := ⟨k - 2, by omega⟩
  have hio : i < os.length := by omega
  have hik : i + 1 < kept.length := by omega
  rw [List.drop_eq_getElem_cons hio, List.drop_eq_getElem_cons hik] at hc
  obtain ⟨t, t1, t2, t3, w, al, ea, hle, hb, hc⟩ := hc
  have htr : t < R.length := by omega
  rw [List.getElem?_eq_getElem htr] at t3
  have t4 : R[t] = kept[i + 1] := Option.some.inj t3
  rw [List.getElem?_eq_getElem ha, List.getElem?_eq_getElem (show i < kept.length by omega)] at hka
  have hka := Option.some.inj hka
  obtain ⟨q, hq⟩ : ∃ q, os[i] = q := ⟨_, rfl⟩
  rw [hq] at w al ea hle hb
  have lq := alt_len al
  have next : ∀ k', 2000000 + 70000 * d ≤ k' → epitometop_TopLeast.l0 k' ((i + 1 : Nat) : Int) s R segs s' kept os = some true := fun k' hk' => ih (i + 1) t k' (by omega) (by omega) (by rw [List.getElem?_eq_getElem hik, List.getElem?_eq_getElem htr, t4]) htr hc hk'
  have hw : Aside0 (wrap64 ((i : Int) + 1) = ((i + 1 : Nat) : Int)) := ⟨w64 (by omega) (by omega)⟩
  rw [epitometop_TopLeast.l0, if_pos (by omega), if_pos (by omega), if_pos (by omega), rdI_at kept i (by omega), hka, seek_at h.ri (by omega) a ha, Option.bind_some, hw.out, if_pos (by omega), if_pos (by omega), rdI_at kept (i + 1) hik, ← t4, seek_at h.ri (by omega) t htr, Option.bind_some, rdL_at os i hio, hq, in_A w (by omega) (by omega), Option.bind_some]
  by_cases c : (ins (ats q) : Int) > 512
  ·rw [if_pos c]
   exact next _ (by omega)
  ·obtain ⟨p, g, g1, g2⟩ := gaps_A w al (by omega) (by omega)
   rw [if_neg c, g1 (k + 1) (by omega), Option.bind_some, g2, Option.bind_some, if_pos rfl, if_pos rfl, if_pos rfl, if_pos rfl, same_A q (by omega) (k + 1) (by omega), Option.bind_some, Bool.not_true, epitometop_TopLeast.j2, if_neg (by decide)]
   have e0 : lens ((segs.take a).drop a) = 0 := by rw [List.drop_of_length_le (by rw [List.length_take]; omega)]; rfl
   have := least_1 (s := s) (s' := s') (kept := kept) h i q hio hq a t t2 hle (2000000 + 70000 * d) (by omega) next (t - a) a k rfl (Nat.le_refl _) (by omega) (by omega)
   rw [e0] at this
   exact this
end
theorem TopLeast (a0 : ByteArray) (l1 : List (List S25)) (l2 : List Int) (a2 : Int) (hset : ∀ x ∈ l2, i64ok x) : ∃ k, epitometop_TopLeast.f k a0 l1 l2 a2 = some true := by
 refine ⟨7000000, ?_⟩
 obtain ⟨b, segs, e1, hb, hbl, hh, hsl, ht⟩ := fit16_A a0 l1 7000000 (by decide)
 obtain ⟨set, e2, hs1, hs2⟩ := few_A l2 hset
 have L : LogOk b (revs segs.length) segs := ⟨hb, hh, revs_rise _ (by omega), by rw [revs_len], by omega, by omega⟩
 obtain ⟨a, ha, os, -, -, -, e3, hr, hc⟩ := compact_A L set a2 hs2 (by omega) 7000000 (by decide)
 unfold epitometop_TopLeast.f
 rw [shown_top 7000000 (by decide), Option.bind_some, e1, Option.bind_some, e2, Option.bind_some, e3, Option.bind_some, if_pos rfl, if_pos rfl]
 clear e1 e2 e3 hs1 hs2 hset
 have hR := revs_len segs.length
 generalize revs segs.length = R at *
 have hfl := List.length_filter_le (keep_Of.p (R.drop a) set) (R.drop (a + 1))
 generalize (R.drop (a + 1)).filter (keep_Of.p (R.drop a) set) = ys at *
 rw [List.length_drop] at hfl
 have hlen := CP_len _ _ _ hc
 obtain ⟨kk, ek⟩ : ∃ kk : Nat, kk = 6999999 := ⟨_, rfl⟩
 have e0 : epitometop_TopLeast.j0 7000000 (((R[a] :: ys).length : Int) != wrap64 ((os.length : Int) + 1)) (enc b) R segs (enc (txs b (segs.take a))) (R[a] :: ys) os = epitometop_TopLeast.l0 kk 0 (enc b) R segs (enc (txs b (segs.take a))) (R[a] :: ys) os := by
  rw [show (7000000 : Nat) = kk + 1 by omega, epitometop_TopLeast.j0, if_neg]
  rw [w64 (by omega) (by omega), List.length_cons]
  simp; omega
 refine e0.trans ?_
 exact least_l L (by rw [List.length_cons]; omega) (by rw [List.length_cons]; omega) os.length 0 a kk rfl (Nat.zero_le _) (by rw [List.getElem?_eq_getElem ha]; rfl) ha hc (by omega)
end Go.Proofs.YtegjegihcebimaaDoor.Pure
end
section
namespace Go.Proofs.YtegjegihcebimaaDoor.Pure
open Go.Deep Go.ChangeShapes Go.WideShapes Go.ChangeAt Go.RowKit Go.Proofs.YtegjegihcebimaaDoor.P Go.Proofs.YtegjegihcebimaaDoorW.PrintWords Go.Proofs.YtegjegihcebimaaDoorW.PrintLast Go.Proofs.YtegjegihcebimaaDoorW.PrintMore
set_option linter.unusedVariables false
theorem choose_list {α : Type} {p : Nat → α → Prop} : ∀ (n : Nat), (∀ i, i < n → ∃ y, p i y) → ∃ l : List α, l.length = n ∧ ∀ i y, l[i]? = some y → p i y
 | 0, _ => ⟨[], rfl, fun i y h => by simp at h⟩
 | n + 1, h => by
  obtain ⟨l, h1, h2⟩ := choose_list n fun i hi => h i (by omega)
  obtain ⟨y, hy⟩ := h n (by omega)
  refine ⟨l ++ [y], by simp [h1], fun i z hz => ?_⟩
  by_cases c : i < l.length
  ·rw [List.getElem?_append_left c] at hz; exact h2 i z hz
  ·rw [List.getElem?_append_right (by omega)] at hz
   have hi : i - l.length = 0 := by
    have := (List.getElem?_eq_some_iff.mp hz).1
    simp at this; omega
   rw [hi] at hz
   have : y = z := by simpa using hz
   subst this
   have : i = n := by omega
   subst this
   exact hy
section
variable {H : Type} {enc : TypeId × Value → H} {P : Program} {w : World} {base : Nat} {sp : Nat → Bool} {held : Bool}
def Opens {α : Type} (enc : TypeId × Value → H) (P : Program) (w : World) (base : Nat) (sp : Nat → Bool) (held : Bool) (d : Kd α) (t : TypeId) (Q : α → Prop) : Prop :=
 ∀ (fuel : Nat) (cs : List Value) (x : DataW H × List MemPlace), DataW.trod enc P w base sp held fuel t cs = some x → ∃ y, d.K w y cs ∧ Q y
theorem opens_int {t : TypeId} {k : IntKind} (ht : P.underlying t = some (.int k)) : Opens enc P w base sp held (Kd.int k) t (fun n => (Lit.int k n).wf = true) := by
 intro fuel cs x h
 obtain ⟨n, rfl, _, hw⟩ := DataW.trod_int ht h
 exact ⟨n, rfl, hw⟩
theorem opens_slice {α : Type} {d : Kd α} {t e e' : TypeId} {Q : α → Prop} (ht : P.underlying t = some (.slice e)) (hc : P.cellsOf e = d.sz) (h : Opens enc P w base sp held d e Q) : Opens enc P w base sp held (Kd.slice e' d) t (fun l => ∀ x ∈ l, Q x) := by
 intro fuel cs x hx
 rcases open_slice ht hx with ⟨rfl, rfl⟩ | ⟨a, len, cap, m, n, D, Pl, rfl, hb, hl, hm, hmm, rfl, hi⟩
 ·exact ⟨[], ⟨none, 0, rfl, Nat.le_refl _, Kd.C_nil d w⟩, fun x h => by cases h⟩
 ·have hlm : len ≤ m := by rw [hmm]; split <;> omega
  obtain ⟨ys, hy1, hy2⟩ := choose_list (p := fun i y => ∃ c, w.cells? base (a.add (i * d.sz)) d.sz = some c ∧ d.K w y c ∧ Q y) len (fun i hlt => by
   obtain ⟨cs', h1, h2⟩ := hi i (by omega)
   rw [hc] at h1
   obtain ⟨y, k1, k2⟩ := h _ _ _ h2
   exact ⟨y, cs', h1, k1, k2⟩)
  have hmax : maxLen ≤ 9223372036854775807 := by decide
  refine ⟨ys, ⟨some a, cap, by rw [hy1], by omega, ⟨rfl, by omega, fun _ => ⟨a, rfl, fun j p hj => ?_⟩⟩⟩, fun x hx => ?_⟩
  ·obtain ⟨c, c1, c2, _⟩ := hy2 j p hj
   obtain ⟨_, hlen, hcell⟩ := World.cells?_some c1
   refine ⟨c, hlen, c2, fun i u hu => ?_⟩
   have hlt := (List.getElem?_eq_some_iff.mp hu).1
   have := hcell i (by omega)
   rw [hu] at this
   have e : a.add (j * d.sz + i) = (a.add (j * d.sz)).add i := (Addr.add_add a (j * d.sz) i).symm
   rw [e]
   exact this
  ·obtain ⟨i, hi, rfl⟩ := List.getElem_of_mem hx
   obtain ⟨_, _, _, hq⟩ := hy2 i _ (List.getElem?_eq_getElem hi)
   exact hq
theorem open_row_of {α : Type} {d : Kd α} {r : Reach} {b0 : Nat} {t e e' : TypeId} {Q : α → Prop} {v : Value} {dd : DataW H} {ps : List MemPlace} (ht : P.underlying t = some (.slice e)) (hc : P.cellsOf e = d.sz) (h : Opens enc P w base sp held d e Q) (hval : Value.okWide P w r b0 t v) (hd : DataW.Trod enc P w base sp held t v dd ps) :
  ∃ A c l, v = .slice A l.length c ∧ l.length ≤ c ∧ d.C w A l.length l ∧ ∀ x ∈ l, Q x := by
 obtain ⟨a, len, cap, rfl⟩ := okWide_slice ht hval
 obtain ⟨fuel, hf⟩ := hd
 obtain ⟨l, ⟨A, c, e1, e2, e3⟩, hq⟩ := opens_slice (e' := e') ht hc h _ _ _ hf
 simp [Value.cells] at e1
 exact ⟨A, c, l, by rw [e1.1, e1.2.1, e1.2.2], e2, e3, hq⟩
theorem open_cell_of {α : Type} {d : Kd α} {t e e' : TypeId} {Q : α → Prop} {v : Value} {n : Nat} {y : DataW H × List MemPlace} (ht : P.underlying t = some (.slice e)) (hc : P.cellsOf e = d.sz) (h : Opens enc P w base sp held d e Q) (hd : DataW.trod enc P w base sp held n t [v] = some y) :
  ∃ A c l, v = .slice A l.length c ∧ l.length ≤ c ∧ d.C w A l.length l ∧ ∀ x ∈ l, Q x := by
 obtain ⟨l, ⟨A, c, e1, e2, e3⟩, hq⟩ := opens_slice (e' := e') ht hc h _ _ _ hd
 exact ⟨A, c, l, by simpa using e1, e2, e3, hq⟩
end
set_option maxRecDepth 100000 in
theorem opens_span {H : Type} {enc : TypeId × Value → H} {w : World} {base : Nat} {sp : Nat → Bool} {held : Bool} : Opens enc Tryd.prog w base sp held k25 25 (fun _ => True) := by
 intro fuel cs x h
 obtain ⟨y0, y1, y2, n, _, hl, h0, h1, h2⟩ := trod_struct3 Tryd.underlying25 h
 have hl : cs.length = 3 := hl.trans (by kernel_rfl)
 match cs, hl with
 | [c0, c1, c2], _ =>
  have i1 : Tryd.prog.cellsOf 3 = 1 := by kernel_rfl
  have i2 : Tryd.prog.cellsOf 9 = 1 := by kernel_rfl
  obtain ⟨a, e0, _, _⟩ := DataW.trod_int Tryd.underlying3 h0
  obtain ⟨b, e1, _, _⟩ := DataW.trod_int Tryd.underlying3 h1
  obtain ⟨s, e2, _, _⟩ := DataW.trod_string Tryd.underlying9 h2
  replace e0 : ([c0, c1, c2].drop 0).take (Tryd.prog.cellsOf 3) = _ := e0
  replace e1 : ([c0, c1, c2].drop 1).take (Tryd.prog.cellsOf 3) = _ := e1
  replace e2 : ([c0, c1, c2].drop 2).take (Tryd.prog.cellsOf 9) = _ := e2
  rw [i1] at e0 e1
  rw [i2] at e2
  simp only [List.drop_succ_cons, List.drop_zero, List.take_succ_cons, List.take_zero] at e0 e1 e2
  injection e0 with e0
  injection e1 with e1
  injection e2 with e2
  subst e0 e1 e2
  exact ⟨⟨a, b, s⟩, k25_mk w ⟨a, b, s⟩, trivial⟩
theorem opens_spans {H : Type} {enc : TypeId × Value → H} {w : World} {base : Nat} {sp : Nat → Bool} {held : Bool} : Opens enc Tryd.prog w base sp held (Kd.slice 25 k25) 27 (fun l => ∀ x ∈ l, True) :=
 opens_slice Tryd.underlying27 (by kernel_rfl) opens_span
end Go.Proofs.YtegjegihcebimaaDoor.Pure
end
