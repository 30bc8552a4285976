/- Part 18 of the proof of topLogs_holds: out of the texts that this session's programs wrote, what the theorem reaches. -/
import Derived.Test.YtegjegihcebimaaDoorZ10
import Derived.Test.YtegjegihcebimaaDoorZ12
import Derived.Test.YtegjegihcebimaaDoorZ15
import Derived.Test.YtegjegihcebimaaDoorZ17
import Derived.Test.YtegjegihcebimaaDoorZ6
section
namespace Go.Proofs.YtegjegihcebimaaDoor.Pure
open Go.RowKit Go.Proofs.YtegjegihcebimaaDoor.P Go.Proofs.YtegjegihcebimaaDoorW.PrintWords Go.Proofs.YtegjegihcebimaaDoorW.PrintLast Go.Proofs.YtegjegihcebimaaDoorW.PrintMore
set_option linter.unusedVariables false
set_option linter.unusedSimpArgs false
theorem i64ok_of {x : Int} (h : (Lit.int .i64 x).wf = true) : i64ok x := by
 simp [Lit.wf, IntKind.min, IntKind.max, IntKind.signed, IntKind.bits] at h
 unfold i64ok; omega
def cmps (n : Nat) (l : List (List S25)) : List At := l.foldl (fun a x => comp a (ats x)) (List.replicate n At.K)
def lens (l : List (List S25)) : Nat := (l.map List.length).sum
theorem lens_cons (x : List S25) (l : List (List S25)) : lens (x :: l) = x.length + lens l := by simp [lens]
theorem keep_op (n : Nat) (hn : n ≤ 1000000) : ∃ r, (∀ k, 2 ≤ k → op_Keep.f k (n : Int) = some (r, 0)) ∧ W r ∧ Alt r ∧ ats r = List.replicate n At.K ∧ r.length ≤ 1 := by
 have e : ∀ k, op_Keep.f (k + 1) (n : Int) = if (n : Int) = 0 then some ([], 0) else some ([⟨1, (n : Int), ⟨#[]⟩⟩], 0) := by
  intro k
  unfold op_Keep.f
  rw [if_neg (by omega), decide_eq_false (by omega), op_Keep.j0, if_neg (by decide)]
 cases n with
 | zero => exact ⟨[], fun k hk => by obtain ⟨k, rfl⟩ : ∃ j, k = j + 1 := ⟨k - 1, by omega⟩; rw [e, if_pos (show ((0 : Nat) : Int) = 0 from rfl)], W_nil, trivial, rfl, by simp⟩
 | succ n =>
  refine ⟨[⟨1, ((n + 1 : Nat) : Int), ⟨#[]⟩⟩], fun k hk => by obtain ⟨k, rfl⟩ : ∃ j, k = j + 1 := ⟨k - 1, by omega⟩; rw [e, if_neg (by omega)], W_cons.2 ⟨okA_K _, W_nil⟩, ⟨?_, fun y l' h => (by cases h), trivial⟩, ?_, by simp⟩
  ·unfold ne; rw [at1_K, Int.toNat_natCast, List.replicate_succ]; exact fun h => by cases h
  ·rw [ats_cons, at1_K, Int.toNat_natCast, ats_nil, List.append_nil]
theorem fuse_l : ∀ (l : List (List S25)) (a : List S25), W a → Alt a → ch (outs (ats a)) l → (∀ x ∈ l, Alt x) → (ats a).length + tot l ≤ 1000000 →
  ∃ r, (∀ k, 1000004 ≤ k → fuse_Of.l k a l = some (r, 0)) ∧ W r ∧ Alt r ∧ ats r = l.foldl (fun a x => comp a (ats x)) (ats a) ∧ r.length ≤ a.length + lens l
 | [], a, wa, na, _, _, _ => ⟨a, fun k _ => rfl, wa, na, rfl, Nat.le_refl _⟩
 | x :: l, a, wa, na, ⟨h1, h2, h3⟩, hn, ht => by
  rw [tot_cons] at ht
  have la := alt_len na
  have lx := alt_len (hn x (by simp))
  obtain ⟨r, c1, c2, c3, c4, c5⟩ := comp_A wa h1 (by omega) (by omega) (by omega) (by omega) h2.symm
  have cl := comp_len _ (ats a) (ats x) (Nat.le_refl _) h2.symm
  obtain ⟨q, d1, d2, d3, d4, d5⟩ := fuse_l l r c2 c3 (by rw [c4, cl.2.1]; exact h3) (fun y hy => hn y (by simp [hy])) (by rw [c4]; omega)
  refine ⟨q, fun k hk => ?_, d2, d3, by rw [d4, c4]; rfl, by rw [lens_cons]; omega⟩
  rw [fuse_Of.l, c1 k (by omega), Option.bind_some, if_pos rfl, d1 k hk]
theorem fold_len : ∀ (l : List (List S25)) (a : List At), ch (outs a) l → (l.foldl (fun a x => comp a (ats x)) a).length ≤ a.length + tot l ∧ ins (l.foldl (fun a x => comp a (ats x)) a) = ins a ∧ outs (l.foldl (fun a x => comp a (ats x)) a) = sz (outs a) l l.length
 | [], a, _ => ⟨Nat.le_refl _, rfl, rfl⟩
 | x :: l, a, ⟨h1, h2, h3⟩ => by
  obtain ⟨c1, c2, c3⟩ := comp_len _ a (ats x) (Nat.le_refl _) h2.symm
  rw [← c2] at h3
  obtain ⟨i1, i2, i3⟩ := fold_len l (comp a (ats x)) h3
  rw [c2] at i3
  rw [tot_cons]
  exact ⟨by rw [List.foldl_cons]; omega, by rw [List.foldl_cons]; omega, i3⟩
theorem cmps_len {n : Nat} {l : List (List S25)} (h : ch n l) : (cmps n l).length ≤ n + tot l ∧ ins (cmps n l) = n ∧ outs (cmps n l) = sz n l l.length := by
 have := fold_len l (List.replicate n At.K) (by rw [outs_K]; exact h)
 rw [List.length_replicate, ins_K, outs_K] at this
 exact this
theorem fuse_A {n : Nat} {l : List (List S25)} (h : hs n l) (hl : l.length ≤ 1000000) (ht : n + tot l ≤ 400000) : ∃ r, (∀ k, 1000004 ≤ k → fuse_Of.f k (n : Int) l = some (r, 0)) ∧ W r ∧ Alt r ∧ ats r = cmps n l ∧ (l ≠ [] → r.length ≤ lens l) := by
  obtain ⟨q, q1, q2, q3, q4, q5⟩ := keep_op n (by omega)
  have hf : ∀ r, (∀ k, 1000004 ≤ k → fuse_Of.l k q l = some (r, 0)) → ∀ k, 1000004 ≤ k → fuse_Of.f k (n : Int) l = some (r, 0) := by
    intro r hr k hk
    unfold fuse_Of.f
    rw [if_pos (by omega), q1 k (by omega), Option.bind_some, if_pos rfl, hr k hk]
  cases l with
  | nil => exact ⟨q, hf q fun k _ => rfl, q2, q3, q4, fun h => absurd rfl h⟩
  | cons x l =>
    obtain ⟨⟨h1, h2, h3⟩, hn⟩ := h
    rw [tot_cons] at ht
    have lq := alt_len q3
    have lx := alt_len (hn x (by simp))
    have nl : (ats q).length = n := by rw [q4, List.length_replicate]
    have oq : outs (ats q) = n := by rw [q4, outs_K]
    obtain ⟨r, c1, c2, c3, c4, c5⟩ := comp_A q2 h1 (by omega) (by omega) (by omega) (by omega) (by rw [oq, h2])
    have e : ats r = ats x := by rw [c4, q4]; conv => lhs; rw [← h2]
                                 exact comp_keep _
    obtain rfl : r = x := alt_uniq c2 h1 c3 (hn x (by simp)) e
    obtain ⟨p, d1, d2, d3, d4, d5⟩ := fuse_l l r h1 (hn r (by simp)) h3 (fun y hy => hn y (by simp [hy])) (by omega)
    refine ⟨p, hf p fun k hk => ?_, d2, d3, ?_, fun _ => by rw [lens_cons]; exact d5⟩
    · rw [fuse_Of.l, c1 k (by omega), Option.bind_some, if_pos rfl, d1 k hk]
    · rw [d4, cmps, List.foldl_cons, ← q4, ← c4]
theorem ch_drop : ∀ {l : List (List S25)} {n : Nat}, ch n l → ∀ a, a ≤ l.length → ch (sz n l a) (l.drop a)
 | [], n, _, a, ha => by
  obtain rfl : a = 0 := by simpa using ha
  exact trivial
 | x :: l, n, h, 0, _ => h
 | x :: l, n, ⟨_, _, h⟩, a + 1, ha => ch_drop h a (by simpa using ha)
theorem ch_take : ∀ {l : List (List S25)} {n : Nat}, ch n l → ∀ a, ch n (l.take a)
 | [], n, _, a => by rw [List.take_nil]; trivial
 | x :: l, n, h, 0 => trivial
 | x :: l, n, ⟨h1, h2, h⟩, a + 1 => ⟨h1, h2, ch_take h a⟩
theorem sz_le : ∀ (l : List (List S25)) (n a : Nat), a ≤ l.length → sz n l a + tot (l.drop a) ≤ n + tot l
 | [], n, a, ha => by
  obtain rfl : a = 0 := by simpa using ha
  exact Nat.le_refl _
 | x :: l, n, 0, _ => Nat.le_refl _
 | x :: l, n, a + 1, ha => by
  have := sz_le l (outs (ats x)) a (by simpa using ha)
  have := outs_le (ats x)
  rw [tot_cons]
  show sz (outs (ats x)) l a + tot (l.drop a) ≤ _
  omega
theorem tot_take : ∀ (l : List (List S25)) (a : Nat), tot (l.take a) ≤ tot l
 | [], a => by rw [List.take_nil]; exact Nat.le_refl _
 | x :: l, 0 => Nat.zero_le _
 | x :: l, a + 1 => by have := tot_take l a; rw [List.take_succ_cons, tot_cons, tot_cons]; omega
theorem sz_take : ∀ (l : List (List S25)) (n a t : Nat), a ≤ t → t ≤ l.length → sz n (l.take t) a = sz n l a
 | _, _, 0, _, _, _ => by unfold sz; rfl
 | [], n, a + 1, t, h1, h2 => by simp at h2; omega
 | x :: l, n, a + 1, 0, h1, _ => by omega
 | x :: l, n, a + 1, t + 1, h1, h2 => sz_take l _ a t (by omega) (by simpa using h2)
theorem hs_part {n : Nat} {l : List (List S25)} (h : hs n l) {a t : Nat} (hat : a ≤ t) (htl : t ≤ l.length) : hs (sz n l a) ((l.take t).drop a) := by
 have h1 := ch_drop (ch_take h.1 t) a (by rw [List.length_take]; omega)
 rw [sz_take l n a t hat htl] at h1
 exact ⟨h1, fun x hx => h.2 x (List.mem_of_mem_take (List.mem_of_mem_drop hx))⟩
theorem tot_part {n : Nat} {l : List (List S25)} {a t : Nat} (hat : a ≤ t) (htl : t ≤ l.length) : sz n l a + tot ((l.take t).drop a) ≤ n + tot l := by
 have h1 := sz_le (l.take t) n a (by rw [List.length_take]; omega)
 rw [sz_take l n a t hat htl] at h1
 have := tot_take l t
 omega
theorem alt_get : ∀ {l : List S25}, Alt l → ∀ (i : Nat) (h : i + 1 < l.length), (l[i]'(by omega)).f0 ≠ l[i + 1].f0
 | [], _, _, h => by simp at h
 | [x], _, i, h => by simp at h
 | x :: y :: l, ⟨_, h2, _⟩, 0, _ => h2 y l rfl
 | x :: y :: l, ⟨_, _, h3⟩, i + 1, h => by
  have := alt_get h3 i (by simpa using h)
  simpa using this
theorem is_A {l : List S25} (hw : W l) (ha : Alt l) (hl : l.length ≤ 1000000) (k : Nat) (hk : l.length + 1 ≤ k) : normal_Is.f k l = some true := by
 have go : ∀ (d i k : Nat), l.length - i = d → i ≤ l.length → d + 1 ≤ k → normal_Is.l0 k l l (l.length : Int) (i : Int) = some true := by
  intro d
  induction d with
  | zero =>
   intro i k hd hi hk
   obtain ⟨k, rfl⟩ : ∃ j, k = j + 1 := ⟨k - 1, by omega⟩
   rw [normal_Is.l0, if_neg (by omega)]
  | succ d ih =>
   intro i k hd hi hk
   obtain ⟨k, rfl⟩ : ∃ j, k = j + 1 := ⟨k - 1, by omega⟩
   have hm : l[i] ∈ l := List.getElem_mem _
   have hne := alt_ne ha _ hm
   have he : normal_empty.f l[i].f0 l[i].f1 l[i].f2 = some false := by
    have : normal_Of.e l[i] = false := by
     cases c : normal_Of.e l[i] with
     | false => rfl
     | true => exact absurd ((e_iff (hw _ hm)).1 c) hne
    unfold normal_Of.e at this
    unfold normal_empty.f
    by_cases c : l[i].f1 = 0
    ·rw [if_pos c]; rw [decide_eq_true c, Bool.true_and] at this; rw [this]
    ·rw [if_neg c]
   have next := ih (i + 1) k (by omega) (by omega) (by omega)
   rw [normal_Is.l0, if_pos (by omega), if_pos (by omega), if_pos (by omega), rd_at l i (by omega), he, Option.bind_some, if_neg (by decide), w64 (x := (i : Int) + 1) (by omega) (by omega), show (i : Int) + 1 = ((i + 1 : Nat) : Int) by omega]
   by_cases c : 0 < i
   ·have e1 : Aside0 (wrap64 ((i : Int) - 1) = ((i - 1 : Nat) : Int)) := ⟨by rw [w64 (by omega) (by omega)]; omega⟩
    have hg := alt_get ha (i - 1) (by omega)
    have e2 : l[i - 1 + 1]'(by omega) = l[i] := by congr 1; omega
    rw [e2] at hg
    rw [if_pos (by omega), e1.out, if_pos (by omega), if_pos (by omega), rd_at l (i - 1) (by omega), if_neg (fun e => hg e.symm)]
    exact next
   ·rw [if_neg (by omega)]
    exact next
 exact go l.length 0 k rfl (Nat.zero_le _) hk
def szs (l : List (List S25)) : List Int := l.map fun x => (outs (ats x) : Int)
theorem rd_cons (x : Int) (l : List Int) (i : Nat) : rd (x :: l) ((i + 1 : Nat) : Int) = rd l (i : Int) := by unfold rd; rw [Int.toNat_natCast, Int.toNat_natCast]; rfl
theorem rd_sz : ∀ (l : List (List S25)) (n a : Nat), a ≤ l.length → rd ((n : Int) :: szs l) (a : Int) = (sz n l a : Int)
 | l, n, 0, _ => by unfold sz; rfl
 | [], n, a + 1, h => by simp at h
 | x :: l, n, a + 1, h => by
  rw [rd_cons]
  exact rd_sz l _ a (by simpa using h)
theorem sizes_l (k : Nat) (hk : 1000005 ≤ k) : ∀ (l : List (List S25)) (n : Nat) (out : List Int), ch n l → (∀ x ∈ l, Alt x) → tot l ≤ 400000 → chain_sizes.l k (n : Int) l out = some (out ++ szs l)
 | [], n, out, _, _, _ => by rw [chain_sizes.l]; simp [szs]
 | x :: l, n, out, ⟨h1, h2, h3⟩, hn, ht => by
  rw [tot_cons] at ht
  have hx := hn x (by simp)
  have lx := alt_len hx
  have ol := outs_le (ats x)
  rw [chain_sizes.l, may_A h1 (by omega) (by omega) k (by omega), Option.bind_some, if_pos rfl, in_A h1 (by omega) (by omega), Option.bind_some, if_pos (by omega), out_A h1 (by omega) (by omega), Option.bind_some, if_pos (by omega), is_A h1 hx (by omega) k (by omega), Option.bind_some, if_pos rfl,
   sizes_l k hk l _ _ h3 (fun y hy => hn y (by simp [hy])) (by omega), List.append_assoc]
  rfl
def rise (R : List Int) : Prop := R.Pairwise (· < ·) ∧ ∀ x ∈ R, 0 ≤ x ∧ x ≤ 268435455
theorem putRow_l : ∀ (l : List Int) (was : Int) (out : List Int), l.Pairwise (· < ·) → (∀ x ∈ l, was < x ∧ x ≤ 268435455) → (snap_PutRow.l was out l).2 = 0
 | [], _, _, _, _ => rfl
 | x :: l, was, out, hp, h => by
  obtain ⟨p1, p2⟩ := List.pairwise_cons.1 hp
  have hx := h x (by simp)
  rw [snap_PutRow.l, if_neg (by omega)]
  exact putRow_l l x _ p2 fun y hy => ⟨p1 y hy, (h y (by simp [hy])).2⟩
theorem putRow_A {R : List Int} (h : rise R) (h0 : R ≠ []) (hl : R.length ≤ 65536) : ∃ r, snap_PutRow.f R = some (r, 0) := by
 have e : R.length ≠ 0 := fun e => h0 (List.length_eq_zero_iff.1 e)
 refine ⟨(snap_PutRow.l (-1) (number_Put.l 3 R.length []) R).1, ?_⟩
 unfold snap_PutRow.f
 rw [if_neg (by omega)]
 have := putRow_l R (-1) (number_Put.l 3 R.length []) h.1 fun x hx => by have := h.2 x hx; omega
 rw [← this]
structure LogOk (b : List Int) (R : List Int) (segs : List (List S25)) : Prop where
 rb : Runes b
 hs : hs b.length segs
 ri : rise R
 ln : R.length = segs.length + 1
 tt : b.length + tot segs ≤ 400000
 sl : segs.length ≤ 60000
theorem sizes_A {b R : List Int} {segs : List (List S25)} (h : LogOk b R segs) (k : Nat) (hk : 1000005 ≤ k) : chain_sizes.f k (enc b) R segs = some ((b.length : Int) :: szs segs, 0) := by
 have := h.tt
 have := h.sl
 have := h.ln
 have := enc_sz (t := b) (by omega)
 obtain ⟨r, hr⟩ := putRow_A h.ri (fun e => by have := h.ln; rw [e] at this; simp at this) (by omega)
 unfold chain_sizes.f
 rw [if_pos (by omega), count_big h.rb (by omega), Option.bind_some, if_pos (by omega), hr, Option.bind_some, if_pos ⟨rfl, h.ln⟩, sizes_l k hk segs _ _ h.hs.1 h.hs.2 (by omega)]
 rfl
def app : List At → List Int → List Int
 | .I c :: l, t => c :: app l t
 | .K :: l, c :: t => c :: app l t
 | .D :: l, _ :: t => app l t
 | _, _ => []
theorem app_I (t s : List Int) (l : List At) : app (t.map At.I ++ l) s = t ++ app l s := by
 induction t with
 | nil => rfl
 | cons c t ih => rw [List.map_cons, List.cons_append, app, ih]; rfl
theorem app_K (l : List At) : ∀ (n : Nat) (s : List Int), n ≤ s.length → app (List.replicate n At.K ++ l) s = s.take n ++ app l (s.drop n)
 | 0, s, _ => by simp
 | n + 1, [], h => by simp at h
 | n + 1, c :: s, h => by rw [List.replicate_succ, List.cons_append, app, app_K l n s (by simpa using h)]; rfl
theorem app_D (l : List At) : ∀ (n : Nat) (s : List Int), n ≤ s.length → app (List.replicate n At.D ++ l) s = app l (s.drop n)
 | 0, s, _ => by simp
 | n + 1, [], h => by simp at h
 | n + 1, c :: s, h => by rw [List.replicate_succ, List.cons_append, app, app_D l n s (by simpa using h)]; rfl
theorem app_len : ∀ (l : List At) (s : List Int), ins l = s.length → (app l s).length = outs l
 | [], s, _ => by rw [app]; rfl; all_goals (intros; simp_all)
 | .I c :: l, s, h => by rw [app, List.length_cons, outs_cons, app_len l s (by rw [ins_cons] at h; simpa [At.i] using h)]; simp [At.o]; omega
 | .K :: l, [], h => by rw [ins_cons] at h; simp [At.i] at h
 | .K :: l, c :: s, h => by rw [app, List.length_cons, outs_cons, app_len l s (by rw [ins_cons, List.length_cons] at h; simp only [At.i] at h; omega)]; simp [At.o]; omega
 | .D :: l, [], h => by rw [ins_cons] at h; simp [At.i] at h
 | .D :: l, c :: s, h => by rw [app, outs_cons, app_len l s (by rw [ins_cons, List.length_cons] at h; simp only [At.i] at h; omega)]; simp [At.o]
theorem to_l : ∀ (a : List S25) (rest out : List Int), W a → ins (ats a) = rest.length → Runes rest → Runes out → out.length + rest.length + (ats a).length ≤ 900000 → apply_To.l a rest out = some (out ++ app (ats a) rest) ∧ Runes (out ++ app (ats a) rest)
 | [], rest, out, _, h, _, ho, _ => by
  obtain rfl : rest = [] := List.length_eq_zero_iff.1 h.symm
  rw [apply_To.l, ats_nil, show app [] [] = [] from by rw [app]; all_goals (intros; simp_all)]
  simpa using ho
 | x :: a, rest, out, hw, h, hr, ho, hb => by
  obtain ⟨w1, w2⟩ := W_cons.1 hw
  rw [ats_cons, ins_app] at h
  rw [ats_cons, List.length_append] at hb
  rcases okA_cases w1 with ⟨n, rfl⟩ | ⟨n, rfl⟩ | ⟨t, ht, rfl⟩
  ·rw [at1_K, Int.toNat_natCast, List.length_replicate] at hb
   rw [at1_K, Int.toNat_natCast, ins_K] at h
   obtain ⟨i1, i2⟩ := to_l a (rest.drop n) (out ++ rest.take n) w2 (by rw [List.length_drop]; omega) (hr.drop n) (ho.append (hr.take n)) (by rw [List.length_append, List.length_take, List.length_drop]; omega)
   rw [apply_To.l, ats_cons, at1_K, Int.toNat_natCast, app_K _ n rest (by omega), ← List.append_assoc]
   simp only [emp_size, Int.toNat_natCast]
   rw [if_pos (by omega), if_neg (by decide), if_pos trivial]
   exact ⟨i1, i2⟩
  ·rw [at1_D, Int.toNat_natCast, List.length_replicate] at hb
   rw [at1_D, Int.toNat_natCast, ins_D] at h
   obtain ⟨i1, i2⟩ := to_l a (rest.drop n) out w2 (by rw [List.length_drop]; omega) (hr.drop n) ho (by rw [List.length_drop]; omega)
   rw [apply_To.l, ats_cons, at1_D, Int.toNat_natCast, app_D _ n rest (by omega)]
   simp only [emp_size, Int.toNat_natCast]
   rw [if_pos (by omega), if_neg (by decide), if_neg (by decide)]
   exact ⟨i1, i2⟩
  ·rw [at1_I 0 ht, List.length_map] at hb
   rw [at1_I 0 ht, ins_I] at h
   have hz := enc_sz (t := t) (by omega)
   obtain ⟨i1, i2⟩ := to_l a rest (out ++ t) w2 (by omega) hr (ho.append ht) (by rw [List.length_append]; omega)
   rw [apply_To.l, ats_cons, at1_I 0 ht, app_I, ← List.append_assoc]
   simp only [Int.toNat_zero, List.drop_zero]
   rw [if_pos (by omega), if_pos trivial, runes_enc ht]
   exact ⟨i1, i2⟩
theorem to_A {a : List S25} {s : List Int} (hw : W a) (hl : a.length ≤ 400000) (hi : ins (ats a) = s.length) (hr : Runes s) (hb : s.length + (ats a).length ≤ 900000) (k : Nat) (hk : 1000005 ≤ k) : apply_To.f k a (enc s) = some (enc (app (ats a) s), 0) ∧ Runes (app (ats a) s) := by
 obtain ⟨h1, h2⟩ := to_l a s [] hw hi hr (fun _ h => by cases h) (by simpa using hb)
 rw [List.nil_append] at h1 h2
 have hz := enc_sz (t := s) (by omega)
 refine ⟨?_, h2⟩
 unfold apply_To.f
 rw [may_A hw (by omega) (by omega) k (by omega), Option.bind_some, if_pos rfl, count_big hr (by omega), Option.bind_some, if_neg (by omega), in_A hw (by omega) (by omega), Option.bind_some, if_pos (by omega), if_pos (by omega), runes_enc hr, h1, Option.bind_some, runesBytes_enc h2]
def txs (s : List Int) (l : List (List S25)) : List Int := l.foldl (fun t x => app (ats x) t) s
theorem txs_len : ∀ (l : List (List S25)) (s : List Int), ch s.length l → (txs s l).length = sz s.length l l.length
 | [], s, _ => rfl
 | x :: l, s, ⟨h1, h2, h3⟩ => by
  have e := app_len (ats x) s h2
  rw [← e] at h3
  have := txs_len l (app (ats x) s) h3
  rw [e] at this
  exact this
theorem all_A {s : List Int} {l : List (List S25)} (h : hs s.length l) (hr : Runes s) (ht : s.length + tot l ≤ 400000) (hl : l.length ≤ 60000) (k : Nat) (hk : 1100010 ≤ k) : apply_All.f k (enc s) l = some (enc (txs s l), 0) ∧ Runes (txs s l) := by
 have go : ∀ (d i k : Nat) (t : List Int), l.length - i = d → i ≤ l.length → 1000005 + d ≤ k → ch t.length (l.drop i) → Runes t → t.length + tot (l.drop i) ≤ 400000 → apply_All.l0 k (enc t) l (l.length : Int) (i : Int) = some (enc (txs t (l.drop i)), 0) ∧ Runes (txs t (l.drop i)) := by
  intro d
  induction d with
  | zero =>
   intro i k t hd hi hk hc hrt ht
   obtain ⟨k, rfl⟩ : ∃ j, k = j + 1 := ⟨k - 1, by omega⟩
   rw [apply_All.l0, if_neg (by omega), List.drop_of_length_le (by omega)]
   exact ⟨rfl, hrt⟩
  | succ d ih =>
   intro i k t hd hi hk hc hrt ht
   obtain ⟨k, rfl⟩ : ∃ j, k = j + 1 := ⟨k - 1, by omega⟩
   have hm : l[i] ∈ l := List.getElem_mem _
   rw [List.drop_eq_getElem_cons (show i < l.length by omega)] at hc ht ⊢
   obtain ⟨c1, c2, c3⟩ := hc
   rw [tot_cons] at ht
   have la := alt_len (h.2 _ hm)
   obtain ⟨a1, a2⟩ := to_A c1 (by omega) c2 hrt (by omega) k (by omega)
   have al := app_len (ats l[i]) t c2
   have ol := outs_le (ats l[i])
   obtain ⟨i1, i2⟩ := ih (i + 1) k (app (ats l[i]) t) (by omega) (by omega) (by omega) (by rw [al]; exact c3) a2 (by omega)
   rw [apply_All.l0, if_pos (by omega), if_pos (by omega), if_pos (by omega), rdL_at l i (by omega), a1, Option.bind_some, if_pos rfl, w64 (by omega) (by omega), show (i : Int) + 1 = ((i + 1 : Nat) : Int) by omega]
   exact ⟨i1, i2⟩
 obtain ⟨k, rfl⟩ : ∃ j, k = j + 1 := ⟨k - 1, by omega⟩
 obtain ⟨g1, g2⟩ := go l.length 0 k s rfl (Nat.zero_le _) (by omega) h.1 hr ht
 have hz := enc_sz (t := s) (by omega)
 rw [List.drop_zero] at g1 g2
 refine ⟨?_, g2⟩
 have e : apply_All.j0 (k + 1) (enc s) l false = some (enc (txs s l), 0) := by rw [apply_All.j0, if_neg (by decide)]; exact g1
 unfold apply_All.f
 split
 ·rw [valid_big hr (by omega), Option.bind_some]; exact e
 ·exact e
theorem at_A {b R : List Int} {segs : List (List S25)} (h : LogOk b R segs) (i : Nat) (hi : i ≤ segs.length) (k : Nat) (hk : 1100010 ≤ k) : chain_At.f k (enc b) R segs (i : Int) = some (enc (txs b (segs.take i)), 0) ∧ Runes (txs b (segs.take i)) := by
 have := h.tt
 have := h.sl
 have := tot_take segs i
 obtain ⟨a1, a2⟩ := all_A (s := b) (l := segs.take i) ⟨ch_take h.hs.1 i, fun x hx => h.hs.2 x (List.mem_of_mem_take hx)⟩ h.rb (by omega) (by rw [List.length_take]; omega) k hk
 refine ⟨?_, a2⟩
 unfold chain_At.f chain_May.f
 rw [sizes_A h k (by omega), Option.bind_some, Option.bind_some, if_pos rfl, if_neg (by omega), if_neg (by omega), if_pos (by omega), if_pos (by omega), Int.toNat_natCast, a1]
 rfl
theorem rdI_at (l : List Int) (i : Nat) (h : i < l.length) : rd l (i : Int) = l[i] := by
 unfold rd; rw [Int.toNat_natCast, List.getD_eq_getElem?_getD, List.getElem?_eq_getElem h]; rfl
theorem rise_lt {R : List Int} (h : rise R) {i j : Nat} (hi : i < R.length) (hj : j < R.length) : R[i] < R[j] ↔ i < j := by
 constructor
 ·intro hlt
  by_cases c : i < j
  ·exact c
  ·rcases (by omega : i = j ∨ j < i) with rfl | c
   ·omega
   ·have := List.pairwise_iff_getElem.1 h.1 j i hj hi c; omega
 ·exact fun hlt => List.pairwise_iff_getElem.1 h.1 i j hi hj hlt
theorem rise_inj {R : List Int} (h : rise R) {i j : Nat} (hi : i < R.length) (hj : j < R.length) (e : R[i] = R[j]) : i = j := by
 have h1 := rise_lt h hi hj
 have h2 := rise_lt h hj hi
 omega
theorem floor_A (R : List Int) (hr : rise R) (fl : Int) (h0 : R ≠ []) (hl : R.length ≤ 70000) : ∃ a : Nat, (∀ k, R.length + 2 ≤ k → keep_Floor.f k R fl = some (a : Int)) ∧ ∃ h : a < R.length, (a = 0 ∨ R[a] ≤ fl) ∧ (∀ h1 : a + 1 < R.length, fl < R[a + 1]) := by
 have h1 : 0 < R.length := by cases R with | nil => exact absurd rfl h0 | cons => simp
 have go : ∀ (d i p : Nat), R.length - i = d → i ≤ R.length → 0 < i → p + 1 = i → (p = 0 ∨ ∃ h : p < R.length, R[p] ≤ fl) → ∃ a : Nat, (∀ k, d + 1 ≤ k → keep_Floor.l0 k fl (p : Int) R (R.length : Int) (i : Int) = some (a : Int)) ∧ ∃ h : a < R.length, (a = 0 ∨ R[a] ≤ fl) ∧ (∀ h1 : a + 1 < R.length, fl < R[a + 1]) := by
  intro d
  induction d with
  | zero =>
   intro i p hd hi hi0 hp hpr
   refine ⟨p, fun k hk => ?_, by omega, ?_, fun h => by omega⟩
   ·obtain ⟨k, rfl⟩ : ∃ j, k = j + 1 := ⟨k - 1, by omega⟩
    rw [keep_Floor.l0, if_neg (by omega)]
   ·rcases hpr with h | ⟨_, h⟩
    ·exact .inl h
    ·exact .inr h
  | succ d ih =>
   intro i p hd hi hi0 hp hpr
   by_cases c : R[i] > fl
   ·refine ⟨p, fun k hk => ?_, by omega, ?_, fun h => ?_⟩
    ·obtain ⟨k, rfl⟩ : ∃ j, k = j + 1 := ⟨k - 1, by omega⟩
     rw [keep_Floor.l0, if_pos (by omega), if_pos (by omega), if_pos (by omega), rdI_at R i (by omega), if_pos c]
    ·rcases hpr with h | ⟨_, h⟩
     ·exact .inl h
     ·exact .inr h
    ·subst hp; exact c
   ·have hil : i < R.length := by clear c hpr; omega
    have e1 : R.length - (i + 1) = d := by clear c hpr; omega
    obtain ⟨a, a1, a2⟩ := ih (i + 1) i e1 hil (Nat.succ_pos i) rfl (.inr ⟨hil, Int.not_lt.1 c⟩)
    refine ⟨a, fun k hk => ?_, a2⟩
    obtain ⟨k, rfl⟩ : ∃ j, k = j + 1 := ⟨k - 1, by omega⟩
    rw [keep_Floor.l0, if_pos (by omega), if_pos (by omega), if_pos (by omega), rdI_at R i (by omega), if_neg c, w64 (by omega) (by omega), show (i : Int) + 1 = ((i + 1 : Nat) : Int) by omega]
    exact a1 k (by omega)
 by_cases c : R[0] > fl
 ·refine ⟨0, fun k hk => ?_, h1, .inl rfl, fun h => by have := (rise_lt hr h1 h).2 (by omega); omega⟩
  obtain ⟨k, rfl⟩ : ∃ j, k = j + 1 := ⟨k - 1, by omega⟩
  unfold keep_Floor.f
  rw [keep_Floor.l0, if_pos (by omega), if_pos (by omega), if_pos (by omega), show (0 : Int) = ((0 : Nat) : Int) from rfl, rdI_at R 0 h1, if_pos c]
 ·obtain ⟨a, a1, h, a2, a3⟩ := go (R.length - 1) 1 0 rfl (by omega) (by omega) rfl (.inl rfl)
  refine ⟨a, fun k hk => ?_, h, a2, a3⟩
  obtain ⟨k, rfl⟩ : ∃ j, k = j + 1 := ⟨k - 1, by omega⟩
  unfold keep_Floor.f
  rw [keep_Floor.l0, if_pos (by omega), if_pos (by omega), if_pos (by omega), show (0 : Int) = ((0 : Nat) : Int) from rfl, rdI_at R 0 h1, if_neg c, show wrap64 (((0 : Nat) : Int) + 1) = ((1 : Nat) : Int) by simp [wrap64]]
  exact a1 k (by omega)
theorem to_at {R : List Int} (h : rise R) : ∀ (d i j : Nat) (hj : j < R.length), j - i = d → i ≤ j → compact_Of.to R[j] (R.drop i) i = some j := by
 intro d
 induction d with
 | zero =>
  intro i j hj hd hi
  obtain rfl : i = j := by omega
  rw [List.drop_eq_getElem_cons hj, compact_Of.to, if_pos rfl]
 | succ d ih =>
  intro i j hj hd hi
  rw [List.drop_eq_getElem_cons (show i < R.length by omega), compact_Of.to, if_neg (fun e => by have := rise_inj h _ _ e; omega), ih (i + 1) j hj (by omega) (by omega)]
theorem filter_next (p : Int → Bool) (R : List Int) : ∀ (d i : Nat), R.length - i = d → (R.drop i).filter p = [] ∧ (∀ j (h : j < R.length), i ≤ j → p R[j] = false) ∨ ∃ t, ∃ h : t < R.length, i ≤ t ∧ p R[t] = true ∧ (R.drop i).filter p = R[t] :: (R.drop (t + 1)).filter p ∧ ∀ j (h : j < R.length), i ≤ j → j < t → p R[j] = false := by
 intro d
 induction d with
 | zero => intro i hd; exact .inl ⟨by rw [List.drop_of_length_le (by omega)]; rfl, fun j h hi => by omega⟩
 | succ d ih =>
  intro i hd
  have hi : i < R.length := by omega
  by_cases c : p R[i] = true
  ·exact .inr ⟨i, hi, Nat.le_refl _, c, by rw [List.drop_eq_getElem_cons hi, List.filter_cons, if_pos c], fun j _ h1 h2 => by omega⟩
  ·have e : (R.drop i).filter p = (R.drop (i + 1)).filter p := by rw [List.drop_eq_getElem_cons hi, List.filter_cons, if_neg c]
   have cf : p R[i] = false := by simpa using c
   rcases ih (i + 1) (by omega) with ⟨h1, h2⟩ | ⟨t, ht, h1, h2, h3, h4⟩
   ·refine .inl ⟨by rw [e, h1], fun j hj hij => ?_⟩
    by_cases z : j = i
    ·subst z; exact cf
    ·exact h2 j hj (by omega)
   ·refine .inr ⟨t, ht, by omega, h2, by rw [e, h3], fun j hj hij hjt => ?_⟩
    by_cases z : j = i
    ·subst z; exact cf
    ·exact h4 j hj (by omega) hjt
def CP (n : Nat) (R : List Int) (segs : List (List S25)) : Nat → List Int → List (List S25) → Prop
 | a, [], [] => a = segs.length
 | a, y :: ys, o :: os => ∃ t, a < t ∧ t ≤ segs.length ∧ R[t]? = some y ∧ W o ∧ Alt o ∧ ats o = cmps (sz n segs a) ((segs.take t).drop a) ∧ o.length ≤ lens ((segs.take t).drop a) ∧ (ats o).length ≤ 400000 ∧ CP n R segs t ys os
 | _, _, _ => False
theorem CP_len {n : Nat} {R : List Int} {segs : List (List S25)} : ∀ (ys : List Int) (os : List (List S25)) (a : Nat), CP n R segs a ys os → os.length = ys.length
 | [], [], _, _ => rfl
 | y :: ys, o :: os, a, ⟨t, _, _, _, _, _, _, _, _, h⟩ => by rw [List.length_cons, List.length_cons, CP_len ys os t h]
theorem compact_l {b R : List Int} {segs : List (List S25)} (h : LogOk b R segs) (p : Int → Bool) (hp : ∀ j (hj : j < R.length), j + 1 = R.length → p R[j] = true) (k : Nat) (hk : 1000005 ≤ k) : ∀ (d a : Nat), R.length - a = d → a < R.length →
  ∃ os, compact_Of.l k ((b.length : Int) :: szs segs) R segs a ((R.drop (a + 1)).filter p) = some os ∧ CP b.length R segs a ((R.drop (a + 1)).filter p) os := by
 intro d
 have hln := h.ln
 have htt := h.tt
 have hsl := h.sl
 induction d using Nat.strongRecOn with
 | _ d ih =>
  intro a hd ha
  rcases filter_next p R _ (a + 1) rfl with ⟨e, hno⟩ | ⟨t, ht, h1, h2, e, _⟩
  ·rw [e]
   refine ⟨[], rfl, ?_⟩
   by_cases c : a + 1 = R.length
   ·show a = segs.length; omega
   ·have e1 := hno (R.length - 1) (by omega) (by omega)
    rw [hp (R.length - 1) (by omega) (by omega)] at e1
    cases e1
  ·obtain ⟨os, o1, o2⟩ := ih (R.length - t) (by omega) t rfl ht
   have ta := tot_part (n := b.length) (l := segs) (a := a) (t := t) (by omega) (by omega)
   obtain ⟨r, f1, f2, f3, f4, f5⟩ := fuse_A (hs_part h.hs (a := a) (t := t) (by omega) (by omega)) (by rw [List.length_drop, List.length_take]; omega) (by omega)
   have hne : (segs.take t).drop a ≠ [] := fun e => by have := congrArg List.length e; rw [List.length_drop, List.length_take, List.length_nil] at this; omega
   rw [e]
   refine ⟨r :: os, ?_, t, by omega, by omega, List.getElem?_eq_getElem ht, f2, f3, f4, f5 hne, by rw [f4]; have := (cmps_len (hs_part h.hs (a := a) (t := t) (by omega) (by omega)).1).1; omega, o2⟩
   rw [compact_Of.l, to_at h.ri _ a t ht rfl (by omega), Option.bind_some, if_pos ⟨by omega, by rw [List.length_cons, szs, List.length_map]; omega⟩, rd_sz segs _ a (by omega), f1 k (by omega), Option.bind_some, if_pos rfl, o1]
   rfl
theorem compact_A {b R : List Int} {segs : List (List S25)} (h : LogOk b R segs) (set : List Int) (fl : Int) (hset : ∀ x ∈ set, i64ok x) (hl : set.length ≤ 60000) (k : Nat) (hk : 1100010 ≤ k) :
  ∃ a : Nat, ∃ ha : a < R.length, ∃ os, (∀ k, R.length + 2 ≤ k → keep_Floor.f k R fl = some (a : Int)) ∧ (a = 0 ∨ R[a] ≤ fl) ∧ (∀ h1 : a + 1 < R.length, fl < R[a + 1]) ∧
   compact_Of.f k (enc b) R segs set fl = some (enc (txs b (segs.take a)), R[a] :: (R.drop (a + 1)).filter (keep_Of.p (R.drop a) set), os, 0) ∧ Runes (txs b (segs.take a)) ∧ CP b.length R segs a ((R.drop (a + 1)).filter (keep_Of.p (R.drop a) set)) os := by
 have hln := h.ln
 have hsl := h.sl
 obtain ⟨a, f1, ha, f2, f3⟩ := floor_A R h.ri fl (fun e => by rw [e] at hln; simp at hln) (by omega)
 have hp : ∀ j (hj : j < R.length), j + 1 = R.length → keep_Of.p (R.drop a) set R[j] = true := by
  intro j hj e
  have hd : (R.drop a).length = j - a + 1 := by rw [List.length_drop]; omega
  have : rd (R.drop a) (((R.drop a).length : Int) - 1) = R[j] := by
   rw [hd, show ((j - a + 1 : Nat) : Int) - 1 = ((j - a : Nat) : Int) by omega, rdI_at _ _ (by omega), List.getElem_drop]
   congr 1; omega
  unfold keep_Of.p
  rw [this]; simp
 obtain ⟨os, c1, c2⟩ := compact_l h (keep_Of.p (R.drop a) set) hp k (by omega) _ a rfl ha
 obtain ⟨a1, a2⟩ := at_A h a (by omega) k hk
 refine ⟨a, ha, os, f1, f2, f3, ?_, a2, c2⟩
 have e0 : rd (R.drop a) 0 = R[a] := by rw [List.drop_eq_getElem_cons ha]; rfl
 have ek : (R.drop a).filter (keep_Of.p (R.drop a) set) = R[a] :: (R.drop (a + 1)).filter (keep_Of.p (R.drop a) set) := by
  conv => lhs; arg 2; rw [List.drop_eq_getElem_cons ha]
  rw [List.filter_cons, if_pos]
  unfold keep_Of.p
  rw [e0]; simp
 have ho : ∀ x ∈ R, i64ok x := fun x hx => by have := h.ri.2 x hx; unfold i64ok; omega
 unfold compact_Of.f
 rw [if_pos ⟨by omega, by omega⟩]
 unfold chain_Sizes.f
 rw [sizes_A h k (by omega), Option.bind_some, Option.bind_some, if_pos rfl, f1 k (by omega), Option.bind_some, a1, Option.bind_some, if_pos rfl]
 unfold keep_Of.f
 rw [f1 k (by omega), Option.bind_some, if_pos ⟨by omega, by omega, by omega, by omega, ho, hset⟩, Option.bind_some, Int.toNat_natCast, ek]
 have hfl := List.length_filter_le (keep_Of.p (R.drop a) set) (R.drop (a + 1))
 rw [List.length_drop] at hfl
 rw [if_pos ⟨by omega, by simp, by rw [List.length_cons]; omega⟩]
 show ((compact_Of.l k ((b.length : Int) :: szs segs) R segs a ((R.drop (a + 1)).filter (keep_Of.p (R.drop a) set))).bind _) = _
 rw [c1]
 rfl
theorem revs_at (m i : Nat) (h : i < (revs m).length) : (revs m)[i] = (i : Int) := by simp [revs]
theorem revs_rise (m : Nat) (hm : m ≤ 100000) : rise (revs m) := by
 refine ⟨List.pairwise_iff_getElem.2 fun i j hi hj hij => by rw [revs_at, revs_at]; omega, fun x hx => ?_⟩
 obtain ⟨i, hi, rfl⟩ := List.getElem_of_mem hx
 rw [revs_at]
 rw [revs_len] at hi
 omega
theorem same_A (l : List S25) (hl : l.length ≤ 1000000) (k : Nat) (hk : l.length + 1 ≤ k) : epitomeref04_Same.f k l l = some true := by
 have go : ∀ (d i k : Nat), l.length - i = d → i ≤ l.length → d + 1 ≤ k → epitomeref04_Same.l0 k l l (i : Int) = some true := by
  intro d
  induction d with
  | zero =>
   intro i k hd hi hk
   obtain ⟨k, rfl⟩ : ∃ j, k = j + 1 := ⟨k - 1, by omega⟩
   rw [epitomeref04_Same.l0, if_neg (by omega)]
  | succ d ih =>
   intro i k hd hi hk
   obtain ⟨k, rfl⟩ : ∃ j, k = j + 1 := ⟨k - 1, by omega⟩
   rw [epitomeref04_Same.l0, if_pos (by omega), if_pos (by omega), if_pos (by omega), if_neg (by simp), w64 (by omega) (by omega), show (i : Int) + 1 = ((i + 1 : Nat) : Int) by omega]
   exact ih (i + 1) k (by omega) (by omega) (by omega)
 unfold epitomeref04_Same.f
 rw [if_pos rfl]
 exact go l.length 0 k rfl (Nat.zero_le _) hk
def ovr (a s : List At) : List At :=
 match a, s with
 | a, .I c :: s => .K :: ovr a s
 | .I c :: a, s => .I c :: ovr a s
 | .K :: a, .K :: s => .K :: ovr a s
 | .D :: a, .K :: s => .D :: ovr a s
 | .K :: a, .D :: s => ovr a s
 | .D :: a, .D :: s => ovr a s
 | _, _ => []
termination_by a.length + s.length
theorem ovr_I (a s : List At) (c : Int) : ovr a (.I c :: s) = .K :: ovr a s := by rw [ovr]
theorem ovr_aI (a s : List At) (c : Int) (h : noI s) : ovr (.I c :: a) s = .I c :: ovr a s := by rw [ovr]; exact fun c l e => h c l e
theorem ovr_KK (a s : List At) : ovr (.K :: a) (.K :: s) = .K :: ovr a s := by rw [ovr]
theorem ovr_DK (a s : List At) : ovr (.D :: a) (.K :: s) = .D :: ovr a s := by rw [ovr]
theorem ovr_KD (a s : List At) : ovr (.K :: a) (.D :: s) = ovr a s := by rw [ovr]
theorem ovr_DD (a s : List At) : ovr (.D :: a) (.D :: s) = ovr a s := by rw [ovr]
theorem ovr_nil : ovr [] [] = [] := by rw [ovr] <;> (intros; simp_all)
theorem ovr_rI (a s : List At) : ∀ t : List Int, ovr a (t.map At.I ++ s) = List.replicate t.length At.K ++ ovr a s
 | [] => rfl
 | c :: t => by rw [List.map_cons, List.cons_append, ovr_I, ovr_rI a s t, List.length_cons, List.replicate_succ]; rfl
theorem ovr_ra (a s : List At) (h : noI s) : ∀ t : List Int, ovr (t.map At.I ++ a) s = t.map At.I ++ ovr a s
 | [] => rfl
 | c :: t => by rw [List.map_cons, List.cons_append, ovr_aI _ _ _ h, ovr_ra a s h t]; rfl
theorem ovr_rKK (a s : List At) : ∀ n : Nat, ovr (List.replicate n At.K ++ a) (List.replicate n At.K ++ s) = List.replicate n At.K ++ ovr a s
 | 0 => rfl
 | n + 1 => by rw [List.replicate_succ, List.cons_append, List.cons_append, ovr_KK, ovr_rKK a s n]; rfl
theorem ovr_rDK (a s : List At) : ∀ n : Nat, ovr (List.replicate n At.D ++ a) (List.replicate n At.K ++ s) = List.replicate n At.D ++ ovr a s
 | 0 => rfl
 | n + 1 => by rw [List.replicate_succ, List.replicate_succ, List.cons_append, List.cons_append, ovr_DK, ovr_rDK a s n]; rfl
theorem ovr_rKD (a s : List At) : ∀ n : Nat, ovr (List.replicate n At.K ++ a) (List.replicate n At.D ++ s) = ovr a s
 | 0 => rfl
 | n + 1 => by rw [List.replicate_succ, List.replicate_succ, List.cons_append, List.cons_append, ovr_KD, ovr_rKD a s n]
theorem ovr_rDD (a s : List At) : ∀ n : Nat, ovr (List.replicate n At.D ++ a) (List.replicate n At.D ++ s) = ovr a s
 | 0 => rfl
 | n + 1 => by rw [List.replicate_succ, List.cons_append, List.cons_append, ovr_DD, ovr_rDD a s n]
theorem noI_or (l : List At) : noI l ∨ ∃ c l', l = .I c :: l' := by
 cases l with
 | nil => exact .inl fun c l' e => by cases e
 | cons x l =>
  cases x with
  | K => exact .inl fun c l' e => by cases e
  | D => exact .inl fun c l' e => by cases e
  | I c => exact .inr ⟨c, l, rfl⟩
theorem ovr_len : ∀ (n : Nat) (a s : List At), a.length + s.length ≤ n → ins a = ins s → ins (ovr a s) = outs s ∧ (ovr a s).length ≤ a.length + s.length ∧ outs (ovr a s) ≤ outs a + outs s
 | 0, a, s, h, _ => by
  obtain rfl : a = [] := List.length_eq_zero_iff.1 (by omega)
  obtain rfl : s = [] := List.length_eq_zero_iff.1 (by omega)
  rw [ovr_nil]; simp [ins, outs]
 | n + 1, a, s, h, hio => by
  rcases noI_or s with c | ⟨c, s', rfl⟩
  ·cases a with
   | nil =>
    cases s with
    | nil => rw [ovr_nil]; simp [ins, outs]
    | cons y s =>
     exfalso
     rw [ins_nil, ins_cons] at hio
     cases y with
     | K => simp only [At.i] at hio; omega
     | D => simp only [At.i] at hio; omega
     | I c' => exact c c' s rfl
   | cons x a =>
    rw [List.length_cons] at h
    cases x with
    | I c' =>
     obtain ⟨h1, h2, h3⟩ := ovr_len n a s (by omega) (by rw [ins_cons] at hio; simpa [At.i] using hio)
     rw [ovr_aI _ _ _ c, ins_cons, outs_cons, outs_cons, h1, List.length_cons, List.length_cons]
     simp only [At.i, At.o, true_and]; omega
    | K =>
     cases s with
     | nil => exfalso; rw [ins_cons, ins_nil] at hio; simp only [At.i] at hio; omega
     | cons y s =>
      rw [List.length_cons] at h
      rw [ins_cons, ins_cons] at hio
      cases y with
      | K =>
       obtain ⟨h1, h2, h3⟩ := ovr_len n a s (by omega) (by simpa [At.i] using hio)
       rw [ovr_KK, ins_cons, outs_cons, outs_cons, outs_cons, h1, List.length_cons, List.length_cons, List.length_cons]
       simp only [At.i, At.o, true_and]; omega
      | D =>
       obtain ⟨h1, h2, h3⟩ := ovr_len n a s (by omega) (by simpa [At.i] using hio)
       rw [ovr_KD, outs_cons, outs_cons, h1, List.length_cons, List.length_cons]
       simp only [At.o]; omega
      | I c' => exact absurd rfl (c c' s)
    | D =>
     cases s with
     | nil => exfalso; rw [ins_cons, ins_nil] at hio; simp only [At.i] at hio; omega
     | cons y s =>
      rw [List.length_cons] at h
      rw [ins_cons, ins_cons] at hio
      cases y with
      | K =>
       obtain ⟨h1, h2, h3⟩ := ovr_len n a s (by omega) (by simpa [At.i] using hio)
       rw [ovr_DK, ins_cons, outs_cons, outs_cons, outs_cons, h1, List.length_cons, List.length_cons, List.length_cons]
       simp only [At.i, At.o, true_and]; omega
      | D =>
       obtain ⟨h1, h2, h3⟩ := ovr_len n a s (by omega) (by simpa [At.i] using hio)
       rw [ovr_DD, outs_cons, outs_cons, h1, List.length_cons, List.length_cons]
       simp only [At.o]; omega
      | I c' => exact absurd rfl (c c' s)
  ·rw [List.length_cons] at h
   rw [ins_cons] at hio
   obtain ⟨h1, h2, h3⟩ := ovr_len n a s' (by omega) (by simpa [At.i] using hio)
   rw [ovr_I, ins_cons, outs_cons, outs_cons, h1, List.length_cons, List.length_cons]
   simp only [At.i, At.o, true_and]; omega
theorem ovr_keep : ∀ (a : List At), ovr a (List.replicate (ins a) At.K) = a
 | [] => ovr_nil
 | .I c :: a => by
  have e : ins (.I c :: a) = ins a := by rw [ins_cons]; simp [At.i]
  rw [e, ovr_aI, ovr_keep a]
  intro c' l' e
  cases hn : ins a with
  | zero => rw [hn] at e; cases e
  | succ n => rw [hn, List.replicate_succ] at e; injection e with e _; cases e
 | .K :: a => by rw [ins_cons]; simp only [At.i]; rw [Nat.add_comm, List.replicate_succ, ovr_KK, ovr_keep a]
 | .D :: a => by rw [ins_cons]; simp only [At.i]; rw [Nat.add_comm, List.replicate_succ, ovr_DK, ovr_keep a]
theorem ovr_comp : ∀ (n : Nat) (a s t : List At), a.length + s.length + t.length ≤ n → ins a = ins s → outs s = ins t → ovr a (comp s t) = ovr (ovr a s) t
 | 0, a, s, t, h, _, _ => by
  obtain rfl : a = [] := List.length_eq_zero_iff.1 (by omega)
  obtain rfl : s = [] := List.length_eq_zero_iff.1 (by omega)
  obtain rfl : t = [] := List.length_eq_zero_iff.1 (by omega)
  rw [comp_nil, ovr_nil, ovr_nil]
 | n + 1, a, s, t, h, has, hst => by
  rcases noI_or t with ct | ⟨c, t, rfl⟩
  ·cases s with
   | nil =>
    cases t with
    | nil =>
     rw [comp_nil]
     have e : ovr a [] = a := by have := ovr_keep a; rw [has] at this; exact this
     rw [e, e]
    | cons y t =>
     exfalso
     rw [outs_nil, ins_cons] at hst
     cases y with
     | K => simp only [At.i] at hst; omega
     | D => simp only [At.i] at hst; omega
     | I c' => exact ct c' t rfl
   | cons x s =>
    rw [List.length_cons] at h
    cases x with
    | D =>
     have nD : ∀ l, noI (At.D :: l) := fun l c l' e => by cases e
     rw [comp_D _ _ ct]
     cases a with
     | nil => exfalso; rw [ins_nil, ins_cons] at has; simp only [At.i] at has; omega
     | cons y a =>
      rw [List.length_cons] at h
      rw [ins_cons, ins_cons] at has
      rw [outs_cons] at hst
      cases y with
      | I c' =>
       have ih := ovr_comp n a (.D :: s) t (by rw [List.length_cons]; omega) (by rw [ins_cons]; simpa [At.i] using has) (by rw [outs_cons]; exact hst)
       rw [comp_D _ _ ct] at ih
       rw [ovr_aI _ _ _ (nD _), ovr_aI _ _ _ (nD _), ovr_aI _ _ _ ct, ih]
      | K => rw [ovr_KD, ovr_KD]; exact ovr_comp n a s t (by omega) (by simpa [At.i] using has) (by simpa [At.o] using hst)
      | D => rw [ovr_DD, ovr_DD]; exact ovr_comp n a s t (by omega) (by simpa [At.i] using has) (by simpa [At.o] using hst)
    | K =>
     have nK : ∀ l, noI (At.K :: l) := fun l c l' e => by cases e
     have nD : ∀ l, noI (At.D :: l) := fun l c l' e => by cases e
     cases t with
     | nil => exfalso; rw [outs_cons, ins_nil] at hst; simp only [At.o] at hst; omega
     | cons z t =>
      rw [List.length_cons] at h
      rw [outs_cons, ins_cons] at hst
      cases a with
      | nil => exfalso; rw [ins_nil, ins_cons] at has; simp only [At.i] at has; omega
      | cons y a =>
       rw [List.length_cons] at h
       rw [ins_cons, ins_cons] at has
       cases z with
       | I c' => exact absurd rfl (ct c' t)
       | K =>
        rw [comp_KK]
        cases y with
        | I c' =>
         have ih := ovr_comp n a (.K :: s) (.K :: t) (by rw [List.length_cons, List.length_cons]; omega) (by rw [ins_cons]; simpa [At.i] using has) (by rw [outs_cons, ins_cons]; exact hst)
         rw [comp_KK] at ih
         rw [ovr_aI _ _ _ (nK _), ovr_aI _ _ _ (nK _), ovr_aI _ _ _ (nK _), ih]
        | K => rw [ovr_KK, ovr_KK, ovr_KK, ovr_comp n a s t (by omega) (by simpa [At.i] using has) (by simpa [At.o, At.i] using hst)]
        | D => rw [ovr_DK, ovr_DK, ovr_DK, ovr_comp n a s t (by omega) (by simpa [At.i] using has) (by simpa [At.o, At.i] using hst)]
       | D =>
        rw [comp_KD]
        cases y with
        | I c' =>
         have ih := ovr_comp n a (.K :: s) (.D :: t) (by rw [List.length_cons, List.length_cons]; omega) (by rw [ins_cons]; simpa [At.i] using has) (by rw [outs_cons, ins_cons]; exact hst)
         rw [comp_KD] at ih
         rw [ovr_aI _ _ _ (nD _), ovr_aI _ _ _ (nK _), ovr_aI _ _ _ (nD _), ih]
        | K => rw [ovr_KD, ovr_KK, ovr_KD, ovr_comp n a s t (by omega) (by simpa [At.i] using has) (by simpa [At.o, At.i] using hst)]
        | D => rw [ovr_DD, ovr_DK, ovr_DD, ovr_comp n a s t (by omega) (by simpa [At.i] using has) (by simpa [At.o, At.i] using hst)]
    | I c =>
     rw [ins_cons] at has
     cases t with
     | nil => exfalso; rw [outs_cons, ins_nil] at hst; simp only [At.o] at hst; omega
     | cons z t =>
      rw [List.length_cons] at h
      rw [outs_cons, ins_cons] at hst
      cases z with
      | I c' => exact absurd rfl (ct c' t)
      | K => rw [comp_IK, ovr_I, ovr_I, ovr_KK, ovr_comp n a s t (by omega) (by simpa [At.i] using has) (by simpa [At.o, At.i] using hst)]
      | D => rw [comp_ID, ovr_I, ovr_KD, ovr_comp n a s t (by omega) (by simpa [At.i] using has) (by simpa [At.o, At.i] using hst)]
  ·rw [List.length_cons] at h
   rw [ins_cons] at hst
   rw [comp_I, ovr_I, ovr_I, ovr_comp n a s t (by omega) has (by simpa [At.i] using hst)]
theorem app_comp : ∀ (n : Nat) (s t : List At) (u : List Int), s.length + t.length ≤ n → ins s = u.length → outs s = ins t → app (comp s t) u = app t (app s u)
 | 0, s, t, u, h, hu, _ => by
  obtain rfl : s = [] := List.length_eq_zero_iff.1 (by omega)
  obtain rfl : t = [] := List.length_eq_zero_iff.1 (by omega)
  obtain rfl : u = [] := List.length_eq_zero_iff.1 (by rw [← hu]; rfl)
  rw [comp_nil]; rfl
 | n + 1, s, t, u, h, hu, hst => by
  rcases noI_or t with ct | ⟨c, t, rfl⟩
  ·cases s with
   | nil =>
    obtain rfl : u = [] := List.length_eq_zero_iff.1 (by rw [← hu]; rfl)
    cases t with
    | nil => rw [comp_nil]; rfl
    | cons y t =>
     exfalso
     rw [outs_nil, ins_cons] at hst
     cases y with
     | K => simp only [At.i] at hst; omega
     | D => simp only [At.i] at hst; omega
     | I c' => exact ct c' t rfl
   | cons x s =>
    rw [List.length_cons] at h
    cases x with
    | D =>
     cases u with
     | nil => exfalso; rw [ins_cons] at hu; simp only [At.i, List.length_nil] at hu; omega
     | cons d u =>
      rw [ins_cons, List.length_cons] at hu
      rw [outs_cons] at hst
      rw [comp_D _ _ ct]
      show app (comp s t) u = app t (app s u)
      exact app_comp n s t u (by omega) (by simp only [At.i] at hu; omega) (by simpa [At.o] using hst)
    | K =>
     cases u with
     | nil => exfalso; rw [ins_cons] at hu; simp only [At.i, List.length_nil] at hu; omega
     | cons d u =>
      rw [ins_cons, List.length_cons] at hu
      cases t with
      | nil => exfalso; rw [outs_cons, ins_nil] at hst; simp only [At.o] at hst; omega
      | cons z t =>
       rw [List.length_cons] at h
       rw [outs_cons, ins_cons] at hst
       have ih := fun e => app_comp n s t u (by omega) (by simp only [At.i] at hu; omega) e
       cases z with
       | I c' => exact absurd rfl (ct c' t)
       | K => rw [comp_KK]; show d :: app (comp s t) u = d :: app t (app s u); rw [ih (by simpa [At.o, At.i] using hst)]
       | D => rw [comp_KD]; show app (comp s t) u = app t (app s u); rw [ih (by simpa [At.o, At.i] using hst)]
    | I c =>
     rw [ins_cons] at hu
     cases t with
     | nil => exfalso; rw [outs_cons, ins_nil] at hst; simp only [At.o] at hst; omega
     | cons z t =>
      rw [List.length_cons] at h
      rw [outs_cons, ins_cons] at hst
      have ih := fun e => app_comp n s t u (by omega) (by simp only [At.i] at hu; omega) e
      cases z with
      | I c' => exact absurd rfl (ct c' t)
      | K => rw [comp_IK, app, app, app, ih (by simpa [At.o, At.i] using hst)]
      | D => rw [comp_ID, app, app, ih (by simpa [At.o, At.i] using hst)]
  ·rw [List.length_cons] at h
   rw [ins_cons] at hst
   rw [comp_I, app, app, app_comp n s t u (by omega) hu (by simpa [At.i] using hst)]
theorem app_keep : ∀ u : List Int, app (List.replicate u.length At.K) u = u
 | [] => rfl
 | c :: u => by rw [List.length_cons, List.replicate_succ, app, app_keep u]
theorem restN_A {f : Int} {n m : Nat} {l : List S25} (hf : f = 1 ∨ f = 3) (hm : m ≤ n) (h : W l) (hn : ∀ y ∈ l, ne y) : W (restN f (n : Int) (m : Int) ⟨#[]⟩ l) ∧ (∀ y ∈ restN f (n : Int) (m : Int) ⟨#[]⟩ l, ne y) ∧ ats (restN f (n : Int) (m : Int) ⟨#[]⟩ l) = List.replicate (n - m) (atk f) ++ ats l ∧ (restN f (n : Int) (m : Int) ⟨#[]⟩ l).length ≤ l.length + 1 ∧ (n = m → (restN f (n : Int) (m : Int) ⟨#[]⟩ l).length = l.length) := by
 by_cases c : n = m
 ·subst c
  rw [restN_eq']
  exact ⟨h, hn, by rw [Nat.sub_self]; rfl, by omega, fun _ => rfl⟩
 ·rw [restN_ne' (by omega)]
  have e : (n : Int) - (m : Int) = ((n - m : Nat) : Int) := by omega
  rw [e]
  have ok : okA ⟨f, ((n - m : Nat) : Int), ⟨#[]⟩⟩ := by rcases hf with rfl | rfl; exact okA_K _; exact okA_D _
  have ea : at1 ⟨f, ((n - m : Nat) : Int), ⟨#[]⟩⟩ = List.replicate (n - m) (atk f) := by rcases hf with rfl | rfl <;> rfl
  refine ⟨W_cons.2 ⟨ok, h⟩, fun y hy => ?_, by rw [ats_cons, ea], by simp, fun e => absurd e c⟩
  rcases List.mem_cons.1 hy with rfl | hy
  ·unfold ne
   rw [ea]
   intro e
   have := congrArg List.length e
   simp at this
   omega
  ·exact hn y hy
theorem ol_put' (k : Nat) (a s : List S25) (t : List Int) (out : List S25) (ht : Runes t) (hs : t.length ≤ 1000000) (ho : out.length < 1000000000) :
  over_Of.l (k + 1) a (⟨2, 0, enc t⟩ :: s) out = over_Of.l k a s (out ++ [sK t.length]) := by
 have e : span_Out.f 2 0 (enc t) = some (t.length : Int) := by
  have := out_1 (x := ⟨2, 0, enc t⟩) (okA_I ht) (by rw [at1_I 0 ht, List.length_map]; exact hs)
  rw [at1_I 0 ht, outs_I] at this
  exact this
 rw [over_Of.l, if_pos ho]
 cases a with
 | nil => rw [over_Of.st, if_pos rfl, e, Option.bind_some]
 | cons x a => rw [over_Of.st, if_pos rfl, e, Option.bind_some]
theorem over_l : ∀ (m : Nat) (a s out : List S25), W a → (∀ y ∈ a, ne y) → W s → (∀ y ∈ s, ne y) → a.length + s.length ≤ m → (ats a).length ≤ 1000000 → (ats s).length ≤ 1000000 → out.length + m ≤ 100000000 → ins (ats a) = ins (ats s) →
  ∃ r, (∀ k, m + 1 ≤ k → over_Of.l k a s out = some (out ++ r)) ∧ W r ∧ ats r = ovr (ats a) (ats s) ∧ r.length ≤ a.length + s.length := by
 intro m
 induction m with
 | zero =>
  intro a s out _ _ _ _ hm _ _ ho _
  obtain rfl : a = [] := List.length_eq_zero_iff.1 (by omega)
  obtain rfl : s = [] := List.length_eq_zero_iff.1 (by omega)
  refine ⟨[], fun k hk => ?_, W_nil, ovr_nil.symm, by simp⟩
  obtain ⟨k, rfl⟩ : ∃ j, k = j + 1 := ⟨k - 1, by omega⟩
  rw [ol_end k out (by omega), List.append_nil]
 | succ m ih =>
  intro a s out wa na ws ns hm ba bs ho hio
  have aput : ∀ (t : List Int) (a' : List S25) (_ : a = ⟨2, 0, enc t⟩ :: a') (_ : Runes t) (_ : noI (ats s)) (_ : ∀ k, over_Of.l (k + 1) a s out = over_Of.l k a' s (out ++ [⟨2, 0, enc t⟩])),
    ∃ r, (∀ k, m + 1 + 1 ≤ k → over_Of.l k a s out = some (out ++ r)) ∧ W r ∧ ats r = ovr (ats a) (ats s) ∧ r.length ≤ a.length + s.length := by
   rintro t a' rfl ht hno step
   obtain ⟨w1, w2⟩ := W_cons.1 wa
   rw [ats_cons, at1_I 0 ht] at hio ba ⊢
   rw [ins_app, ins_I] at hio
   rw [List.length_append] at ba
   rw [List.length_cons] at hm
   obtain ⟨r, h1, h2, h3, h4⟩ := ih a' s (out ++ [⟨2, 0, enc t⟩]) w2 (fun y hy => na y (by simp [hy])) ws ns (by omega) (by omega) bs (by rw [List.length_append, List.length_singleton]; omega) (by omega)
   refine ⟨⟨2, 0, enc t⟩ :: r, fun k hk => ?_, W_cons.2 ⟨okA_I ht, h2⟩, ?_, by rw [List.length_cons, List.length_cons]; omega⟩
   ·obtain ⟨k, rfl⟩ : ∃ j, k = j + 1 := ⟨k - 1, by omega⟩
    rw [step k, h1 k (by omega), List.append_assoc]; rfl
   ·rw [ats_cons, at1_I 0 ht, h3, ovr_ra _ _ hno]
  cases s with
  | nil =>
   cases a with
   | nil =>
    refine ⟨[], fun k hk => ?_, W_nil, ovr_nil.symm, by simp⟩
    obtain ⟨k, rfl⟩ : ∃ j, k = j + 1 := ⟨k - 1, by omega⟩
    rw [ol_end k out (by omega), List.append_nil]
   | cons x a =>
    have hx := na x (by simp)
    rcases okA_cases (W_cons.1 wa).1 with ⟨n, rfl⟩ | ⟨n, rfl⟩ | ⟨t, ht, rfl⟩
    ·exfalso
     rw [ats_cons, at1_K, ins_app, ins_K, ats_nil, ins_nil, Int.toNat_natCast] at hio
     unfold ne at hx; rw [at1_K, show ((n : Int)).toNat = 0 by omega] at hx; exact hx rfl
    ·exfalso
     rw [ats_cons, at1_D, ins_app, ins_D, ats_nil, ins_nil, Int.toNat_natCast] at hio
     unfold ne at hx; rw [at1_D, show ((n : Int)).toNat = 0 by omega] at hx; exact hx rfl
    ·exact aput t a rfl ht (fun c l' e => by cases e) fun k => ol_a0 k a 0 _ out (by omega)
  | cons y s =>
   obtain ⟨y1, y2⟩ := W_cons.1 ws
   have hy := ns y (by simp)
   have ns' : ∀ z ∈ s, ne z := fun z hz => ns z (by simp [hz])
   have both : ∀ (g : Int) (p : Nat), (g = 1 ∨ g = 3) → y = ⟨g, (p : Int), ⟨#[]⟩⟩ → 0 < p → ∃ r, (∀ k, m + 1 + 1 ≤ k → over_Of.l k a (y :: s) out = some (out ++ r)) ∧ W r ∧ ats r = ovr (ats a) (ats (y :: s)) ∧ r.length ≤ a.length + (y :: s).length := by
    rintro g p hg rfl hp
    have g2 : g ≠ 2 := by rcases hg with rfl | rfl <;> decide
    have eg : at1 (⟨g, (p : Int), ⟨#[]⟩⟩ : S25) = List.replicate p (atk g) := by rcases hg with rfl | rfl <;> rfl
    have ig : ins (List.replicate p (atk g)) = p := by rcases hg with rfl | rfl; exact ins_K p; exact ins_D p
    have nog : noI (List.replicate p (atk g) ++ ats s) := noI_rep (by rcases hg with rfl | rfl <;> (intro c e; cases e)) hp _
    cases a with
    | nil => exfalso; rw [ats_nil, ins_nil, ats_cons, eg, ins_app, ig] at hio; omega
    | cons x a =>
     obtain ⟨x1, x2⟩ := W_cons.1 wa
     have hx := na x (by simp)
     have na' : ∀ z ∈ a, ne z := fun z hz => na z (by simp [hz])
     have num : ∀ (f : Int) (n : Nat), (f = 1 ∨ f = 3) → x = ⟨f, (n : Int), ⟨#[]⟩⟩ → 0 < n → ∃ r, (∀ k, m + 1 + 1 ≤ k → over_Of.l k (x :: a) (⟨g, (p : Int), ⟨#[]⟩⟩ :: s) out = some (out ++ r)) ∧ W r ∧ ats r = ovr (ats (x :: a)) (ats (⟨g, (p : Int), ⟨#[]⟩⟩ :: s)) ∧ r.length ≤ (x :: a).length + ((⟨g, (p : Int), ⟨#[]⟩⟩ : S25) :: s).length := by
      rintro f n hf rfl hn
      have f2 : f ≠ 2 := by rcases hf with rfl | rfl <;> decide
      have ef : at1 (⟨f, (n : Int), ⟨#[]⟩⟩ : S25) = List.replicate n (atk f) := by rcases hf with rfl | rfl <;> rfl
      have jf : ins (List.replicate n (atk f)) = n := by rcases hf with rfl | rfl; exact ins_K n; exact ins_D n
      rw [ats_cons, ef] at hio ba ⊢
      rw [ats_cons, eg] at hio bs ⊢
      rw [ins_app, ins_app, jf, ig] at hio
      rw [List.length_append, List.length_replicate] at ba bs
      rw [List.length_cons, List.length_cons] at hm
      obtain ⟨a1, a2, a3, a4, a5⟩ := restN_A hf (Nat.min_le_left n p) x2 na'
      obtain ⟨b1, b2, b3, b4, b5⟩ := restN_A hg (Nat.min_le_right n p) y2 ns'
      have jf' : ins (List.replicate (n - min n p) (atk f)) = n - min n p := by rcases hf with rfl | rfl; exact ins_K _; exact ins_D _
      have ig' : ins (List.replicate (p - min n p) (atk g)) = p - min n p := by rcases hg with rfl | rfl; exact ins_K _; exact ins_D _
      have hl : (restN f (n : Int) ((min n p : Nat) : Int) ⟨#[]⟩ a).length + (restN g (p : Int) ((min n p : Nat) : Int) ⟨#[]⟩ s).length ≤ a.length + s.length + 1 := by
       rcases (by omega : n = min n p ∨ p = min n p) with e | e
       ·have := a5 e; omega
       ·have := b5 e; omega
      have go := fun o ho => ih (restN f (n : Int) ((min n p : Nat) : Int) ⟨#[]⟩ a) (restN g (p : Int) ((min n p : Nat) : Int) ⟨#[]⟩ s) o a1 a2 b1 b2 (by omega) (by rw [a3, List.length_append, List.length_replicate]; omega) (by rw [b3, List.length_append, List.length_replicate]; omega) ho (by rw [a3, b3, ins_app, ins_app, jf', ig']; omega)
      rcases hg with rfl | rfl
      ·obtain ⟨r, h1, h2, h3, h4⟩ := go (out ++ [⟨f, ((min n p : Nat) : Int), ⟨#[]⟩⟩]) (by rw [List.length_append, List.length_singleton]; omega)
       refine ⟨⟨f, ((min n p : Nat) : Int), ⟨#[]⟩⟩ :: r, fun k hk => ?_, W_cons.2 ⟨by rcases hf with rfl | rfl; exact okA_K _; exact okA_D _, h2⟩, ?_, by simp only [List.length_cons]; omega⟩
       ·obtain ⟨k, rfl⟩ : ∃ j, k = j + 1 := ⟨k - 1, by omega⟩
        rw [ol_K k a s f n p ⟨#[]⟩ ⟨#[]⟩ out f2 (by omega) (by omega) (by omega) (by omega) (by omega), mn_nat, h1 k (by omega), List.append_assoc]; rfl
       ·have e1 : at1 (⟨f, ((min n p : Nat) : Int), ⟨#[]⟩⟩ : S25) = List.replicate (min n p) (atk f) := by rcases hf with rfl | rfl <;> rfl
        rw [ats_cons, e1, h3, a3, b3, rep_split (atk f) (Nat.min_le_left n p), rep_split (n := p) (atk 1) (Nat.min_le_right n p), List.append_assoc, List.append_assoc]
        rcases hf with rfl | rfl
        ·exact (ovr_rKK _ _ _).symm
        ·exact (ovr_rDK _ _ _).symm
      ·obtain ⟨r, h1, h2, h3, h4⟩ := go out (by omega)
       refine ⟨r, fun k hk => ?_, h2, ?_, by simp only [List.length_cons]; omega⟩
       ·obtain ⟨k, rfl⟩ : ∃ j, k = j + 1 := ⟨k - 1, by omega⟩
        rw [ol_D k a s f n p ⟨#[]⟩ ⟨#[]⟩ out f2 (by omega) (by omega) (by omega) (by omega) (by omega), mn_nat, h1 k (by omega)]
       ·rw [h3, a3, b3, rep_split (atk f) (Nat.min_le_left n p), rep_split (n := p) (atk 3) (Nat.min_le_right n p), List.append_assoc, List.append_assoc]
        rcases hf with rfl | rfl
        ·exact (ovr_rKD _ _ _).symm
        ·exact (ovr_rDD _ _ _).symm
     rcases okA_cases x1 with ⟨n, rfl⟩ | ⟨n, rfl⟩ | ⟨t, ht, rfl⟩
     ·exact num 1 n (.inl rfl) rfl (by unfold ne at hx; rw [at1_K] at hx; cases n with | zero => exact absurd rfl hx | succ n => omega)
     ·exact num 3 n (.inr rfl) rfl (by unfold ne at hx; rw [at1_D] at hx; cases n with | zero => exact absurd rfl hx | succ n => omega)
     ·exact aput t a rfl ht (by rw [ats_cons, eg]; exact nog) fun k => ol_a k a s 0 g (p : Int) _ _ out g2 (by omega)
   rcases okA_cases y1 with ⟨p, rfl⟩ | ⟨p, rfl⟩ | ⟨t, ht, rfl⟩
   ·exact both 1 p (.inl rfl) rfl (by unfold ne at hy; rw [at1_K] at hy; cases p with | zero => exact absurd rfl hy | succ n => omega)
   ·exact both 3 p (.inr rfl) rfl (by unfold ne at hy; rw [at1_D] at hy; cases p with | zero => exact absurd rfl hy | succ n => omega)
   ·rw [ats_cons, at1_I 0 ht] at hio bs ⊢
    rw [ins_app, ins_I] at hio
    rw [List.length_append, List.length_map] at bs
    rw [List.length_cons] at hm
    obtain ⟨r, h1, h2, h3, h4⟩ := ih a s (out ++ [sK t.length]) wa na y2 ns' (by omega) ba (by omega) (by rw [List.length_append, List.length_singleton]; omega) (by omega)
    refine ⟨sK t.length :: r, fun k hk => ?_, W_cons.2 ⟨okA_K _, h2⟩, ?_, by rw [List.length_cons, List.length_cons]; omega⟩
    ·obtain ⟨k, rfl⟩ : ∃ j, k = j + 1 := ⟨k - 1, by omega⟩
     rw [ol_put' k a s t out ht (by omega) (by omega), h1 k (by omega), List.append_assoc]; rfl
    ·rw [ats_cons, at1_K, Int.toNat_natCast, h3, ovr_rI]
theorem over_A {a s : List S25} (wa : W a) (ws : W s) (hab : (ats a).length + (ats s).length ≤ 1000000) (ll : a.length + s.length ≤ 1000000) (hio : ins (ats a) = ins (ats s)) :
  ∃ r, (∀ k, a.length + s.length + 4 ≤ k → over_Of.f k a s = some (r, 0)) ∧ W r ∧ Alt r ∧ ats r = ovr (ats a) (ats s) := by
 obtain ⟨w1, n1, e1, l1⟩ := norm_A wa (by omega)
 obtain ⟨w2, n2, e2, l2⟩ := norm_A ws (by omega)
 have ol := ovr_len _ (ats a) (ats s) (Nat.le_refl _) hio
 obtain ⟨r, h1, h2, h3, h4⟩ := over_l ((normal_Of.n a).length + (normal_Of.n s).length) _ _ [] w1 (alt_ne n1) w2 (alt_ne n2) (Nat.le_refl _) (by rw [e1]; omega) (by rw [e2]; omega) (by simp only [List.length_nil]; omega) (by rw [e1, e2]; exact hio)
 rw [e1, e2] at h3
 obtain ⟨w3, n3, e3, l3⟩ := norm_A h2 (by rw [h3]; omega)
 refine ⟨normal_Of.n r, fun k hk => ?_, w3, n3, by rw [e3, h3]⟩
 unfold over_Of.f
 rw [may_A wa (by omega) (by omega) k (by omega), Option.bind_some, if_pos rfl, may_A ws (by omega) (by omega) k (by omega), Option.bind_some, if_pos rfl, in_A wa (by omega) (by omega), Option.bind_some, in_A ws (by omega) (by omega), Option.bind_some, if_pos (by omega), normal_A wa (by omega) (by omega), Option.bind_some, normal_A ws (by omega) (by omega), Option.bind_some,
  h1 k (by omega), Option.bind_some, List.nil_append, normal_A h2 (by rw [h3]; omega) (by omega)]
 rfl
def ovrs (a : List At) (l : List (List S25)) : List At := l.foldl (fun a x => ovr a (ats x)) a
theorem chain_l' (k : Nat) (hk : 1000005 ≤ k) : ∀ (l : List (List S25)) (n : Nat), ch n l → (∀ x ∈ l, Alt x) → tot l ≤ 400000 → ∃ q : Int, fuse_Chain.l k (n : Int) l = some (q, 0)
 | [], n, _, _, _ => ⟨n, rfl⟩
 | x :: l, n, ⟨h1, h2, h3⟩, hn, ht => by
  rw [tot_cons] at ht
  have lx := alt_len (hn x (by simp))
  obtain ⟨q, hq⟩ := chain_l' k hk l _ h3 (fun y hy => hn y (by simp [hy])) (by omega)
  refine ⟨q, ?_⟩
  rw [fuse_Chain.l]
  unfold fuse_next.f
  rw [may_A h1 (by omega) (by omega) k (by omega), Option.bind_some, if_pos rfl, in_A h1 (by omega) (by omega), Option.bind_some, if_pos (by omega), out_A h1 (by omega) (by omega), Option.bind_some, Option.bind_some, if_pos rfl, hq]
theorem thr_l : ∀ (l : List (List S25)) (a : List S25), W a → Alt a → ch (ins (ats a)) l → (∀ x ∈ l, Alt x) → (ats a).length + tot l ≤ 1000000 → ∃ r, (∀ k, 1000004 ≤ k → through_Of.l k a l = some r) ∧ W r ∧ Alt r ∧ ats r = ovrs (ats a) l
 | [], a, wa, na, _, _, _ => ⟨a, fun k _ => rfl, wa, na, rfl⟩
 | x :: l, a, wa, na, ⟨h1, h2, h3⟩, hn, ht => by
  rw [tot_cons] at ht
  have la := alt_len na
  have lx := alt_len (hn x (by simp))
  obtain ⟨r, c1, c2, c3, c4⟩ := over_A wa h1 (by omega) (by omega) h2.symm
  have ol := ovr_len _ (ats a) (ats x) (Nat.le_refl _) h2.symm
  obtain ⟨q, d1, d2, d3, d4⟩ := thr_l l r c2 c3 (by rw [c4, ol.1]; exact h3) (fun y hy => hn y (by simp [hy])) (by rw [c4]; omega)
  refine ⟨q, fun k hk => ?_, d2, d3, by rw [d4, c4]; rfl⟩
  rw [through_Of.l, c1 k (by omega), Option.bind_some, d1 k hk]
theorem thr_A {n : Nat} {l : List (List S25)} {a : List S25} (wa : W a) (h : hs n l) (hi : ins (ats a) = n) (hl : l.length ≤ 60000) (la : a.length ≤ 100000) (ht : (ats a).length + tot l ≤ 400000) : ∃ r, (∀ k, 1000005 ≤ k → through_Of.f k a l = some (r, 0)) ∧ W r ∧ Alt r ∧ ats r = ovrs (ats a) l := by
 obtain ⟨w1, n1, e1, l1⟩ := norm_A wa (by omega)
 have := ins_le (ats a)
 obtain ⟨r, h1, h2, h3, h4⟩ := thr_l l (normal_Of.n a) w1 n1 (by rw [e1, hi]; exact h.1) h.2 (by rw [e1]; omega)
 refine ⟨r, fun k hk => ?_, h2, h3, by rw [h4, e1]⟩
 obtain ⟨q, hq⟩ := chain_l' k hk l n h.1 h.2 (by omega)
 obtain ⟨kp, p1, _⟩ := keep_op n (by omega)
 unfold through_Of.f through_may.f fuse_Chain.f
 rw [if_pos (by omega), may_A wa (by omega) (by omega) k (by omega), Option.bind_some, if_pos rfl, in_A wa (by omega) (by omega), Option.bind_some, hi, if_pos (by omega), p1 k (by omega), Option.bind_some, if_pos rfl, hq, Option.bind_some, Option.bind_some, if_pos rfl, normal_A wa (by omega) (by omega), Option.bind_some, h1 k (by omega), Option.bind_some]
theorem sz_zero (n : Nat) (l : List (List S25)) : sz n l 0 = n := by cases l <;> rfl
theorem fold_ovr : ∀ (l : List (List S25)) (acc x : List At), ch (outs acc) l → ins x = ins acc → ovr x (l.foldl (fun a x => comp a (ats x)) acc) = ovrs (ovr x acc) l
 | [], _, _, _, _ => rfl
 | y :: l, acc, x, ⟨h1, h2, h3⟩, hx => by
  obtain ⟨c1, c2, c3⟩ := comp_len _ acc (ats y) (Nat.le_refl _) h2.symm
  rw [← c2] at h3
  rw [List.foldl_cons, fold_ovr l (comp acc (ats y)) x h3 (by rw [c1]; exact hx), ovr_comp _ x acc (ats y) (Nat.le_refl _) hx h2.symm]
  rfl
theorem ovr_cmps {n : Nat} {l : List (List S25)} {x : List At} (h : ch n l) (hx : ins x = n) : ovr x (cmps n l) = ovrs x l := by
 have := fold_ovr l (List.replicate n At.K) x (by rw [outs_K]; exact h) (by rw [ins_K]; exact hx)
 rw [← hx, ovr_keep, hx] at this
 exact this
theorem fold_app : ∀ (l : List (List S25)) (acc : List At) (u : List Int), ch (outs acc) l → ins acc = u.length → app (l.foldl (fun a x => comp a (ats x)) acc) u = txs (app acc u) l
 | [], _, _, _, _ => rfl
 | y :: l, acc, u, ⟨h1, h2, h3⟩, hu => by
  obtain ⟨c1, c2, c3⟩ := comp_len _ acc (ats y) (Nat.le_refl _) h2.symm
  rw [← c2] at h3
  rw [List.foldl_cons, fold_app l (comp acc (ats y)) u h3 (by rw [c1]; exact hu), app_comp _ acc (ats y) u (Nat.le_refl _) hu h2.symm]
  rfl
theorem app_cmps {n : Nat} {l : List (List S25)} {u : List Int} (h : ch n l) (hu : u.length = n) : app (cmps n l) u = txs u l := by
 have := fold_app l (List.replicate n At.K) u (by rw [outs_K]; exact h) (by rw [ins_K]; exact hu.symm)
 rw [← hu, app_keep, hu] at this
 exact this
theorem cmps_cons {n : Nat} {x : List S25} {l : List (List S25)} (h : ins (ats x) = n) : cmps n (x :: l) = l.foldl (fun a x => comp a (ats x)) (ats x) := by
 unfold cmps
 rw [List.foldl_cons, ← h, comp_keep]
theorem cmps_tot {n : Nat} {l : List (List S25)} (h : ch n l) (hl : l ≠ []) : (cmps n l).length ≤ tot l := by
 cases l with
 | nil => exact absurd rfl hl
 | cons x l =>
  obtain ⟨h1, h2, h3⟩ := h
  rw [cmps_cons h2, tot_cons]
  exact (fold_len l (ats x) h3).1
theorem ovrs_app (x : List At) (a b : List (List S25)) : ovrs x (a ++ b) = ovrs (ovrs x a) b := List.foldl_append ..
theorem txs_app (u : List Int) (a b : List (List S25)) : txs u (a ++ b) = txs (txs u a) b := List.foldl_append ..
theorem ovrs_ins : ∀ (l : List (List S25)) (n : Nat) (x : List At), ch n l → ins x = n → ins (ovrs x l) = sz n l l.length
 | [], n, x, _, h => h
 | y :: l, n, x, ⟨h1, h2, h3⟩, hx => by
  have ol := ovr_len _ x (ats y) (Nat.le_refl _) (by rw [hx, h2])
  exact ovrs_ins l _ (ovr x (ats y)) h3 ol.1
theorem part_app (segs : List (List S25)) {a t : Nat} (h : a ≤ t) : (segs.take t).drop a ++ segs.drop t = segs.drop a := by
 by_cases c : t ≤ segs.length
 ·rw [← List.drop_append_of_le_length (by rw [List.length_take]; omega), List.take_append_drop]
 ·rw [List.take_of_length_le (by omega), List.drop_of_length_le (l := segs) (i := t) (by omega), List.append_nil]
theorem sz_app : ∀ (l r : List (List S25)) (n i : Nat), sz n (l ++ r) (l.length + i) = sz (sz n l l.length) r i
 | [], r, n, i => by rw [List.length_nil, Nat.zero_add]; rfl
 | x :: l, r, n, i => by
  have := sz_app l r (outs (ats x)) i
  rw [show (x :: l).length + i = (l.length + i) + 1 by rw [List.length_cons]; omega]
  exact this
theorem sz_part {n : Nat} (segs : List (List S25)) {a t : Nat} (h : a ≤ t) (ht : t ≤ segs.length) : sz (sz n segs a) ((segs.take t).drop a) ((segs.take t).drop a).length = sz n segs t := by
 have e1 : segs.take a ++ (segs.take t).drop a = segs.take t := by
  have : segs.take a = (segs.take t).take a := by rw [List.take_take]; congr 1; omega
  rw [this, List.take_append_drop]
 have la : (segs.take a).length = a := by rw [List.length_take]; omega
 have lp : ((segs.take t).drop a).length = t - a := by rw [List.length_drop, List.length_take]; omega
 have h1 := sz_app (segs.take a) ((segs.take t).drop a) n ((segs.take t).drop a).length
 rw [e1, la, sz_take segs n a a (Nat.le_refl _) (by omega), lp, show a + (t - a) = t by omega, sz_take segs n t t (Nat.le_refl _) ht] at h1
 rw [lp]
 exact h1.symm
theorem tot_app (a b : List (List S25)) : tot (a ++ b) = tot a + tot b := by simp [tot]
section
variable {n : Nat} {R : List Int} {segs : List (List S25)}
theorem CP_hs (h : hs n segs) : ∀ (ys : List Int) (os : List (List S25)) (a : Nat), a ≤ segs.length → CP n R segs a ys os → hs (sz n segs a) os ∧ tot os ≤ tot (segs.drop a) ∧ sz (sz n segs a) os os.length = sz n segs segs.length
 | [], [], a, ha, hc => by
  have hc : a = segs.length := hc
  refine ⟨⟨trivial, fun _ h => by cases h⟩, Nat.zero_le _, ?_⟩
  subst hc; rfl
 | y :: ys, o :: os, a, ha, ⟨t, t1, t2, t3, w, al, ea, hle, hb, hc⟩ => by
  have hp := hs_part h (a := a) (t := t) (by omega) t2
  obtain ⟨l1, l2, l3⟩ := cmps_len hp.1
  rw [sz_part segs (by omega) t2] at l3
  obtain ⟨i1, i2, i3⟩ := CP_hs h ys os t t2 hc
  have hne : (segs.take t).drop a ≠ [] := fun e => by have := congrArg List.length e; rw [List.length_drop, List.length_take, List.length_nil] at this; omega
  have lt := cmps_tot hp.1 hne
  refine ⟨⟨⟨w, by rw [ea, l2], by rw [ea, l3]; exact i1.1⟩, fun x hx => ?_⟩, ?_, ?_⟩
  ·rcases List.mem_cons.1 hx with rfl | hx
   ·exact al
   ·exact i1.2 x hx
  ·rw [tot_cons, ea, ← part_app segs (a := a) (t := t) (by omega), tot_app]; omega
  ·show sz (outs (ats o)) os os.length = _
   rw [ea, l3]; exact i3
theorem CP_ovrs (h : hs n segs) : ∀ (ys : List Int) (os : List (List S25)) (a : Nat) (x : List At), a ≤ segs.length → CP n R segs a ys os → ins x = sz n segs a → ovrs x os = ovrs x (segs.drop a)
 | [], [], a, x, ha, hc, _ => by
  have hc : a = segs.length := hc
  rw [List.drop_of_length_le (by omega)]
 | y :: ys, o :: os, a, x, ha, ⟨t, t1, t2, t3, w, al, ea, hle, hb, hc⟩, hx => by
  have hp := hs_part h (a := a) (t := t) (by omega) t2
  have e := ovr_cmps hp.1 hx
  have hi := ovrs_ins _ _ x hp.1 hx
  rw [sz_part segs (by omega) t2] at hi
  show ovrs (ovr x (ats o)) os = _
  rw [ea, e, CP_ovrs h ys os t (ovrs x ((segs.take t).drop a)) t2 hc hi, ← ovrs_app, part_app segs (by omega)]
theorem CP_at (h : hs n segs) : ∀ (ys : List Int) (os : List (List S25)) (a : Nat) (r : Int) (u : List Int) (i : Nat), a ≤ segs.length → R[a]? = some r → CP n R segs a ys os → u.length = sz n segs a → i ≤ os.length →
  ∃ t, a ≤ t ∧ t ≤ segs.length ∧ (r :: ys)[i]? = R[t]? ∧ CP n R segs t (ys.drop i) (os.drop i) ∧ txs u (os.take i) = txs u ((segs.take t).drop a) ∧ sz (sz n segs a) os i = sz n segs t
 | ys, os, a, r, u, 0, ha, hr, hc, hu, _ => by
  refine ⟨a, Nat.le_refl _, ha, by rw [hr]; rfl, hc, ?_, sz_zero _ _⟩
  rw [List.drop_of_length_le (by rw [List.length_take]; omega)]; rfl
 | [], [], a, r, u, i + 1, ha, hr, hc, hu, hi => by simp at hi
 | y :: ys, o :: os, a, r, u, i + 1, ha, hr, ⟨t, t1, t2, t3, w, al, ea, hle, hb, hc⟩, hu, hi => by
  have hp := hs_part h (a := a) (t := t) (by omega) t2
  have e := app_cmps hp.1 hu
  have hl := txs_len _ u (by rw [hu]; exact hp.1)
  rw [hu, sz_part segs (by omega) t2] at hl
  obtain ⟨q, q1, q2, q3, q4, q5, q6⟩ := CP_at h ys os t y (txs u ((segs.take t).drop a)) i t2 t3 hc hl (by simpa using hi)
  obtain ⟨l1, l2, l3⟩ := cmps_len hp.1
  rw [sz_part segs (by omega) t2] at l3
  refine ⟨q, by omega, q2, q3, q4, ?_, ?_⟩
  ·show txs (app (ats o) u) (os.take i) = _
   rw [ea, e, q5, ← txs_app]
   congr 1
   have e2 : (segs.take t).drop a = ((segs.take q).take t).drop a := by rw [List.take_take]; congr 2; omega
   rw [e2]
   exact part_app (segs.take q) (by omega)
  ·show sz (outs (ats o)) os i = _
   rw [ea, l3, q6]
end
theorem CP_log {b R : List Int} {segs : List (List S25)} (h : LogOk b R segs) {a : Nat} (ha : a < R.length) {p : Int → Bool} {os : List (List S25)} (hc : CP b.length R segs a ((R.drop (a + 1)).filter p) os) (hr : Runes (txs b (segs.take a))) :
  LogOk (txs b (segs.take a)) (R[a] :: (R.drop (a + 1)).filter p) os ∧ (txs b (segs.take a)).length = sz b.length segs a := by
 have hln := h.ln
 have hsl := h.sl
 have htt := h.tt
 obtain ⟨c1, c2, c3⟩ := CP_hs h.hs _ os a (by omega) hc
 have hl := txs_len (segs.take a) b (ch_take h.hs.1 a)
 rw [List.length_take, sz_take segs _ _ a (by omega) (by omega), show min a segs.length = a by omega] at hl
 have sl := sz_le segs b.length a (by omega)
 have cl := CP_len _ _ _ hc
 have fl := List.length_filter_le p (R.drop (a + 1))
 rw [List.length_drop] at fl
 refine ⟨⟨hr, by rw [hl]; exact c1, ?_, by rw [List.length_cons, cl], by rw [hl]; omega, by omega⟩, hl⟩
 have hsub : (R[a] :: (R.drop (a + 1)).filter p).Sublist R := by
  have h1 : ((R.drop (a + 1)).filter p).Sublist (R.drop (a + 1)) := List.filter_sublist
  have h2 : (R[a] :: R.drop (a + 1)).Sublist R := by rw [← List.drop_eq_getElem_cons ha]; exact List.drop_sublist a R
  exact (h1.cons_cons _).trans h2
 exact ⟨h.ri.1.sublist hsub, fun x hx => h.ri.2 x (hsub.subset hx)⟩
theorem noI_K (l : List At) : noI (At.K :: l) := fun c l' e => by cases e
theorem noI_D (l : List At) : noI (At.D :: l) := fun c l' e => by cases e
theorem noI_0 : noI [] := fun c l' e => by cases e
theorem ins0 {l : List At} (h : noI l) (e : ins l = 0) : l = [] := by
 cases l with
 | nil => rfl
 | cons x l => cases x with
  | K => rw [ins_cons] at e; simp only [At.i] at e; omega
  | D => rw [ins_cons] at e; simp only [At.i] at e; omega
  | I c => exact absurd rfl (h c l)
theorem comp_assoc : ∀ (n : Nat) (x y z : List At), x.length + y.length + z.length ≤ n → outs x = ins y → outs y = ins z → comp (comp x y) z = comp x (comp y z)
 | 0, x, y, z, h, _, _ => by
  obtain rfl : x = [] := List.length_eq_zero_iff.1 (by omega)
  obtain rfl : y = [] := List.length_eq_zero_iff.1 (by omega)
  obtain rfl : z = [] := List.length_eq_zero_iff.1 (by omega)
  rw [comp_nil, comp_nil]
 | n + 1, x, y, z, h, h1, h2 => by
  rcases noI_or z with cz | ⟨c, z, rfl⟩
  ·cases y with
   | nil =>
    have ez := ins0 cz (by rw [← h2]; rfl)
    subst ez
    cases x with
    | nil => rw [comp_nil, comp_nil]
    | cons a x => cases a with
     | D =>
      rw [List.length_cons] at h
      rw [outs_cons] at h1
      simp only [At.o] at h1
      have ih := comp_assoc n x [] [] (by omega) (by omega) rfl
      rw [comp_D _ _ noI_0, comp_D _ _ noI_0, ih, comp_nil, comp_D _ _ noI_0]
     | K => rw [outs_cons, ins_nil] at h1; simp only [At.o] at h1; omega
     | I c => rw [outs_cons, ins_nil] at h1; simp only [At.o] at h1; omega
   | cons b y =>
    rw [List.length_cons] at h
    rw [outs_cons] at h2
    cases b with
    | I c =>
     simp only [At.o] at h2
     rw [ins_cons] at h1; simp only [At.i] at h1
     cases z with
     | nil => rw [ins_nil] at h2; omega
     | cons d z =>
      rw [List.length_cons] at h
      rw [ins_cons] at h2
      cases d with
      | I e => exact absurd rfl (cz e z)
      | K => simp only [At.i] at h2; rw [comp_I, comp_IK, comp_IK, comp_I, comp_assoc n x y z (by omega) (by omega) (by omega)]
      | D => simp only [At.i] at h2; rw [comp_I, comp_ID, comp_ID, comp_assoc n x y z (by omega) (by omega) (by omega)]
    | D =>
     simp only [At.o] at h2
     cases x with
     | nil => rw [outs_nil, ins_cons] at h1; simp only [At.i] at h1; omega
     | cons a x =>
      rw [List.length_cons] at h
      rw [outs_cons] at h1
      cases a with
      | D =>
       simp only [At.o] at h1
       have ih := comp_assoc n x (.D :: y) z (by rw [List.length_cons]; omega) (by omega) (by rw [outs_cons]; simp only [At.o]; omega)
       rw [comp_D _ _ (noI_D y), comp_D _ _ cz, ih, comp_D y _ cz, comp_D _ _ (noI_D _)]
      | K => rw [ins_cons] at h1; simp only [At.o, At.i] at h1; rw [comp_KD, comp_D _ _ cz, comp_D _ _ cz, comp_KD, comp_assoc n x y z (by omega) (by omega) (by omega)]
      | I c => rw [ins_cons] at h1; simp only [At.o, At.i] at h1; rw [comp_ID, comp_D _ _ cz, comp_ID, comp_assoc n x y z (by omega) (by omega) (by omega)]
    | K =>
     simp only [At.o] at h2
     cases z with
     | nil => rw [ins_nil] at h2; omega
     | cons d z =>
      rw [List.length_cons] at h
      cases d with
      | I e => exact absurd rfl (cz e z)
      | K =>
       rw [ins_cons] at h2; simp only [At.i] at h2
       cases x with
       | nil => rw [outs_nil, ins_cons] at h1; simp only [At.i] at h1; omega
       | cons a x =>
        rw [List.length_cons] at h
        rw [outs_cons] at h1
        cases a with
        | D =>
         simp only [At.o] at h1
         have ih := comp_assoc n x (.K :: y) (.K :: z) (by rw [List.length_cons, List.length_cons]; omega) (by omega) (by rw [outs_cons, ins_cons]; simp only [At.o, At.i]; omega)
         rw [comp_D _ _ (noI_K y), comp_D _ _ (noI_K z), ih, comp_KK, comp_D _ _ (noI_K _)]
        | K => rw [ins_cons] at h1; simp only [At.o, At.i] at h1; rw [comp_KK, comp_KK, comp_KK, comp_KK, comp_assoc n x y z (by omega) (by omega) (by omega)]
        | I c => rw [ins_cons] at h1; simp only [At.o, At.i] at h1; rw [comp_IK, comp_IK, comp_KK, comp_IK, comp_assoc n x y z (by omega) (by omega) (by omega)]
      | D =>
       rw [ins_cons] at h2; simp only [At.i] at h2
       cases x with
       | nil => rw [outs_nil, ins_cons] at h1; simp only [At.i] at h1; omega
       | cons a x =>
        rw [List.length_cons] at h
        rw [outs_cons] at h1
        cases a with
        | D =>
         simp only [At.o] at h1
         have ih := comp_assoc n x (.K :: y) (.D :: z) (by rw [List.length_cons, List.length_cons]; omega) (by omega) (by rw [outs_cons, ins_cons]; simp only [At.o, At.i]; omega)
         rw [comp_D _ _ (noI_K y), comp_D _ _ (noI_D z), ih, comp_KD, comp_D _ _ (noI_D _)]
        | K => rw [ins_cons] at h1; simp only [At.o, At.i] at h1; rw [comp_KK, comp_KD, comp_KD, comp_KD, comp_assoc n x y z (by omega) (by omega) (by omega)]
        | I c => rw [ins_cons] at h1; simp only [At.o, At.i] at h1; rw [comp_IK, comp_ID, comp_KD, comp_ID, comp_assoc n x y z (by omega) (by omega) (by omega)]
  ·rw [List.length_cons] at h
   rw [ins_cons] at h2; simp only [At.i] at h2
   rw [comp_I, comp_I, comp_I, comp_assoc n x y z (by omega) h1 (by omega)]
theorem fold_split : ∀ (l : List (List S25)) (a b : List At), outs a = ins b → ch (outs b) l → l.foldl (fun a x => comp a (ats x)) (comp a b) = comp a (l.foldl (fun a x => comp a (ats x)) b)
 | [], a, b, _, _ => rfl
 | x :: l, a, b, h, ⟨h1, h2, h3⟩ => by
  obtain ⟨c1, c2, c3⟩ := comp_len _ b (ats x) (Nat.le_refl _) h2.symm
  rw [← c2] at h3
  rw [List.foldl_cons, List.foldl_cons, comp_assoc _ a b (ats x) (Nat.le_refl _) h h2.symm]
  exact fold_split l a (comp b (ats x)) (by rw [h, c1]) h3
theorem fold_cmps {a : List At} {l : List (List S25)} (h : ch (outs a) l) : l.foldl (fun a x => comp a (ats x)) a = comp a (cmps (outs a) l) := by
 have e : comp a (List.replicate (outs a) At.K) = a := by
  have go : ∀ l : List At, comp l (List.replicate (outs l) At.K) = l := by
   intro l
   induction l with
   | nil => exact comp_nil
   | cons x l ih => cases x with
    | K =>
     rw [outs_cons]; simp only [At.o]
     rw [Nat.add_comm, List.replicate_succ, comp_KK, ih]
    | I c =>
     rw [outs_cons]; simp only [At.o]
     rw [Nat.add_comm, List.replicate_succ, comp_IK, ih]
    | D =>
     rw [outs_cons]; simp only [At.o]
     rw [Nat.zero_add, comp_D, ih]
     intro c l' e
     cases hn : outs l with
     | zero => rw [hn] at e; cases e
     | succ n => rw [hn, List.replicate_succ] at e; cases e
  exact go a
 have := fold_split l a (List.replicate (outs a) At.K) (by rw [ins_K]) (by rw [outs_K]; exact h)
 rw [e] at this
 exact this
theorem cmps_app {n : Nat} {p q : List (List S25)} (h : ch n (p ++ q)) (hp : ch n p) (hq : ch (sz n p p.length) q) : cmps n (p ++ q) = comp (cmps n p) (cmps (sz n p p.length) q) := by
 have e : cmps n (p ++ q) = q.foldl (fun a x => comp a (ats x)) (cmps n p) := by unfold cmps; rw [List.foldl_append]
 have l := (cmps_len hp).2.2
 rw [e, fold_cmps (by rw [l]; exact hq), l]
theorem cmps_one {n : Nat} {x : List S25} (h : ins (ats x) = n) : cmps n [x] = ats x := by rw [cmps_cons h]; rfl
theorem sz_drop (l : List (List S25)) (n i k : Nat) (h : i ≤ l.length) : sz n l (i + k) = sz (sz n l i) (l.drop i) k := by
 have e := sz_app (l.take i) (l.drop i) n k
 rw [List.take_append_drop, List.length_take, Nat.min_eq_left h, sz_take l n i i (Nat.le_refl _) h] at e
 exact e
theorem lens_app (a b : List (List S25)) : lens (a ++ b) = lens a + lens b := by simp [lens]
section
variable {n : Nat} {R : List Int} {segs : List (List S25)}
theorem CP_to (h : hs n segs) : ∀ (ys : List Int) (os : List (List S25)) (a : Nat) (r : Int) (i : Nat), a ≤ segs.length → R[a]? = some r → CP n R segs a ys os → i ≤ os.length →
  ∃ t, a + i ≤ t ∧ t ≤ segs.length ∧ (r :: ys)[i]? = R[t]? ∧ CP n R segs t (ys.drop i) (os.drop i) ∧ sz (sz n segs a) os i = sz n segs t ∧ cmps (sz n segs a) (os.take i) = cmps (sz n segs a) ((segs.take t).drop a) ∧ lens (os.take i) ≤ lens ((segs.take t).drop a)
 | ys, os, a, r, 0, ha, hr, hc, _ => by
  have e : (segs.take a).drop a = [] := List.drop_of_length_le (by rw [List.length_take]; omega)
  exact ⟨a, Nat.le_refl _, ha, by rw [hr]; rfl, hc, sz_zero _ _, by rw [e]; rfl, by rw [e]; exact Nat.le_refl _⟩
 | [], [], a, r, i + 1, ha, hr, hc, hi => by simp at hi
 | y :: ys, o :: os, a, r, i + 1, ha, hr, ⟨t, t1, t2, t3, w, al, ea, hle, hb, hc⟩, hi => by
  obtain ⟨q, q1, q2, q3, q4, q5, q6, q7⟩ := CP_to h ys os t y i t2 t3 hc (by simpa using hi)
  have hp := hs_part h (a := a) (t := t) (by omega) t2
  have hq := hs_part h (a := t) (t := q) (by omega) q2
  have hpq := hs_part h (a := a) (t := q) (by omega) q2
  obtain ⟨l1, l2, l3⟩ := cmps_len hp.1
  have sp := sz_part (n := n) segs (a := a) (t := t) (by omega) t2
  rw [sp] at l3
  have e2 : (segs.take t).drop a ++ (segs.take q).drop t = (segs.take q).drop a := by
   have : (segs.take t).drop a = ((segs.take q).take t).drop a := by rw [List.take_take]; congr 2; omega
   rw [this]
   exact part_app (segs.take q) (by omega)
  obtain ⟨i1, i2, i3⟩ := CP_hs h ys os t t2 hc
  refine ⟨q, by omega, q2, q3, q4, ?_, ?_, ?_⟩
  ·show sz (outs (ats o)) os i = _
   rw [ea, l3, q5]
  ·have hq' : ch (sz (sz n segs a) ((segs.take t).drop a) ((segs.take t).drop a).length) ((segs.take q).drop t) := by rw [sp]; exact hq.1
   rw [← e2, cmps_app (by rw [e2]; exact hpq.1) hp.1 hq', sp, List.take_succ_cons, cmps_cons (by rw [ea, l2]), fold_cmps (by rw [ea, l3]; exact ch_take i1.1 i), ea, l3, q6]
  ·rw [← e2, lens_app, List.take_succ_cons, lens_cons]; omega
theorem CP_trans (h : hs n segs) : ∀ (zs : List Int) (ps : List (List S25)) (ys : List Int) (os : List (List S25)) (a : Nat) (r : Int), a ≤ segs.length → R[a]? = some r → CP n R segs a ys os → ∀ (i : Nat), i ≤ os.length → CP (sz n segs a) (r :: ys) os i zs ps →
  ∀ t, a + i ≤ t → t ≤ segs.length → CP n R segs t (ys.drop i) (os.drop i) → (r :: ys)[i]? = R[t]? → sz (sz n segs a) os i = sz n segs t → CP n R segs t zs ps
 | [], [], ys, os, a, r, ha, hr, hc, i, hi, hin, t, t1, t2, ht, hv, hz => by
  have e : i = os.length := hin
  subst e
  have l := CP_len _ _ _ hc
  rw [List.drop_of_length_le (Nat.le_refl _), List.drop_of_length_le (by omega)] at ht
  exact ht
 | z :: zs, p :: ps, ys, os, a, r, ha, hr, hc, i, hi, ⟨j, j1, j2, j3, w, al, ea, hle, hb, hin⟩, t, t1, t2, ht, hv, hz => by
  have hl := CP_len _ _ _ hc
  have hvi : ∃ v, (r :: ys)[i]? = some v := ⟨_, List.getElem?_eq_getElem (by rw [List.length_cons]; omega)⟩
  obtain ⟨v, hvi⟩ := hvi
  obtain ⟨q, q1, q2, q3, q4, q5, q6, q7⟩ := CP_to h (ys.drop i) (os.drop i) t v (j - i) t2 (by rw [← hv, hvi]) ht (by rw [List.length_drop]; omega)
  have e1 : (ys.drop i).drop (j - i) = ys.drop j := by rw [List.drop_drop]; congr 1; omega
  have e2 : (os.drop i).drop (j - i) = os.drop j := by rw [List.drop_drop]; congr 1; omega
  have e3 : (os.drop i).take (j - i) = (os.take j).drop i := by rw [List.take_drop, show i + (j - i) = j by omega]
  have e4 : (v :: ys.drop i)[j - i]? = (r :: ys)[j]? := by
   have : v :: ys.drop i = (r :: ys).drop i := by
    rw [List.drop_eq_getElem_cons (show i < (r :: ys).length by rw [List.length_cons]; omega)]
    rw [List.getElem?_eq_getElem (by rw [List.length_cons]; omega)] at hvi
    rw [Option.some.inj hvi]; rfl
   rw [this, List.getElem?_drop]; congr 1; omega
  rw [e1, e2] at q4
  rw [e3] at q6 q7
  rw [e4, j3] at q3
  rw [hz] at ea
  have hzj : sz (sz n segs a) os j = sz n segs q := by
   have := sz_drop os (sz n segs a) i (j - i) (by omega)
   rw [show i + (j - i) = j by omega] at this
   rw [this, hz, q5]
  refine ⟨q, by omega, q2, q3.symm, w, al, by rw [ea, q6], by omega, hb, ?_⟩
  exact CP_trans h zs ps ys os a r ha hr hc j j2 hin q (by omega) q2 q4 (by rw [j3, q3]) hzj
end
theorem idx_mem {R : List Int} (h : rise R) (t : Nat) (ht : t < R.length) : seek_Find.idx R[t] R 0 = if t + 1 = R.length then -1 else ((t + 1 : Nat) : Int) := by
 rcases seek_Find.idx_spec R[t] R 0 with ⟨e, hall⟩ | ⟨q, hq, e, hgt, hle⟩
 ·have hl := hall R[R.length - 1] (List.getElem_mem _)
  have := (rise_lt h ht (show R.length - 1 < R.length by omega))
  rw [if_pos (by omega)]; exact e
 ·rw [List.getD_eq_getElem?_getD, List.getElem?_eq_getElem hq] at hgt
  have h1 := (rise_lt h ht hq).1 hgt
  have h2 : ¬ t + 1 < q := by
   intro c
   have := hle (R[t + 1]'(by omega)) (by rw [List.mem_take_iff_getElem]; exact ⟨t + 1, by omega, rfl⟩)
   have := (rise_lt h ht (show t + 1 < R.length by omega)).2 (by omega)
   omega
  rw [if_neg (by omega)]
  have : q = t + 1 := by omega
  subst this
  simpa using e
theorem seek_at {R : List Int} (h : rise R) (hl : R.length ≤ 100000) (t : Nat) (ht : t < R.length) : seek_Find.f R R[t] = some ((t : Int), R[t], 0) := by
 have hi := idx_mem h t ht
 have hab : seek_Find.ab R R[t] = ((t + 1 : Nat) : Int) := by
  unfold seek_Find.ab
  rw [hi]
  by_cases c : t + 1 = R.length
  ·rw [if_pos c, if_pos (by decide)]; omega
  ·rw [if_neg c, if_neg (by omega)]
 unfold seek_Find.f
 rw [hab, if_pos (by omega), if_neg (by omega)]
 have e1 : ((t + 1 : Nat) : Int) - 1 = (t : Int) := by omega
 rw [if_neg, if_neg (by omega), e1, rdI_at R t ht, if_pos rfl]
 rintro ⟨c1, c2⟩
 apply c2
 have : (R.length : Int) - 1 = (t : Int) := by omega
 rw [this, rdI_at R t ht]
theorem ovrs_len' : ∀ (l : List (List S25)) (n : Nat) (x : List At), ch n l → ins x = n → (ovrs x l).length ≤ x.length + tot l
 | [], n, x, _, h => Nat.le_add_right _ _
 | y :: l, n, x, ⟨h1, h2, h3⟩, hx => by
  have ol := ovr_len _ x (ats y) (Nat.le_refl _) (by rw [hx, h2])
  have := ovrs_len' l _ (ovr x (ats y)) h3 ol.1
  rw [tot_cons]
  show (ovrs (ovr x (ats y)) l).length ≤ _
  omega
theorem rise_snoc {R : List Int} {v : Int} (h : rise R) (hv : ∀ x ∈ R, x < v) (h0 : 0 ≤ v) (h1 : v ≤ 268435455) : rise (R ++ [v]) := by
 refine ⟨List.pairwise_append.2 ⟨h.1, List.pairwise_singleton _ _, fun a ha b hb => ?_⟩, fun x hx => ?_⟩
 ·rw [List.mem_singleton.1 hb]; exact hv a ha
 ·rcases List.mem_append.1 hx with hx | hx
  ·exact h.2 x hx
  ·rw [List.mem_singleton.1 hx]; exact ⟨h0, h1⟩
theorem log_snoc {b R : List Int} {S : List (List S25)} (L : LogOk b R S) {y : List S25} {v : Int} (wy : W y) (ay : Alt y) (hy : ins (ats y) = sz b.length S S.length) (hv : ∀ x ∈ R, x < v) (h0 : 0 ≤ v) (h1 : v ≤ 268435455) (ht : b.length + tot S + (ats y).length ≤ 400000) (hs : S.length < 60000) : LogOk b (R ++ [v]) (S ++ [y]) := by
 refine ⟨L.rb, ⟨ch_snoc L.hs.1 wy hy, fun x hx => ?_⟩, rise_snoc L.ri hv h0 h1, ?_, by rw [tot_snoc]; omega, by rw [List.length_append, List.length_singleton]; omega⟩
 ·rcases List.mem_append.1 hx with hx | hx
  ·exact L.hs.2 x hx
  ·rw [List.mem_singleton.1 hx]; exact ay
 ·have := L.ln
  rw [List.length_append, List.length_append, List.length_singleton, List.length_singleton]; omega
theorem szs_snoc (S : List (List S25)) (y : List S25) : szs (S ++ [y]) = szs S ++ [(outs (ats y) : Int)] := by simp [szs]
theorem after_ok {h : Int} (h0 : 0 ≤ h) (h1 : h < 268435455) : server_after.f h = some (h + 1, 0) := by
 unfold server_after.f
 rw [if_neg (by omega), w64 (by omega) (by omega)]
theorem sub_A {b R : List Int} {S : List (List S25)} (L : LogOk b R S) {x : List S25} (wx : W x) {i : Nat} (hi : i ≤ S.length) (hx : ins (ats x) = sz b.length S i) (lx : x.length ≤ 1000) (hb : (ats x).length + tot (S.drop i) ≤ 390000) (hd : Int) (hh : ∃ h : S.length < R.length, R[S.length] = hd) (h1 : hd < 268435455) (rq near : Int) (hf : seek_Find.f R rq = some ((i : Int), near, 0)) :
  ∃ y, SubOk 7000000 R S ((b.length : Int) :: szs S) rq x i near (sz b.length S i : Int) hd (hd + 1) y (outs (ats y) : Int) ∧ W y ∧ Alt y ∧ ats y = ovrs (ats x) (S.drop i) ∧ ins (ats y) = sz b.length S S.length ∧ (ats y).length ≤ (ats x).length + tot (S.drop i) := by
 have hln := L.ln; have hsl := L.sl; have htt := L.tt
 have hd' := ch_drop L.hs.1 i hi
 have ht := tot_take S i
 obtain ⟨y, y1, y2, y3, y4⟩ := thr_A (n := sz b.length S i) (l := S.drop i) wx ⟨hd', fun z hz => L.hs.2 z (List.mem_of_mem_drop hz)⟩ hx (by rw [List.length_drop]; omega) (by omega) (by omega)
 have yl := ovrs_len' (S.drop i) _ (ats x) hd' hx
 have yi := ovrs_ins (S.drop i) _ (ats x) hd' hx
 rw [← y4] at yl yi
 have e := sz_app (S.take i) (S.drop i) b.length (S.drop i).length
 have lt : (S.take i).length = i := by rw [List.length_take]; omega
 rw [List.take_append_drop, lt, sz_take S _ i i (Nat.le_refl _) hi, List.length_drop, show i + (S.length - i) = S.length by omega] at e
 rw [List.length_drop, ← e] at yi
 have al := alt_len y3
 have ol := outs_le (ats y)
 obtain ⟨hr, eh⟩ := hh
 have h0 : 0 ≤ hd := by rw [← eh]; exact (L.ri.2 _ (List.getElem_mem _)).1
 refine ⟨y, ⟨may_A wx (by omega) (by omega) _ (by omega), hf, hi, by rw [in_A wx (by omega) (by omega), hx], rd_sz S b.length i hi, by rw [rdI_at _ _ hr, eh], after_ok h0 h1, y1 _ (by decide), out_A y2 (by omega) (by omega), by omega, hln, by rw [List.length_cons, szs, List.length_map], by omega, by omega⟩, y2, y3, y4, yi, yl⟩
theorem sz_left (l r : List (List S25)) (n a : Nat) (h : a ≤ l.length) : sz n (l ++ r) a = sz n l a := by
 rw [← sz_take (l ++ r) n a l.length h (by rw [List.length_append]; omega), List.take_left' rfl]
section
variable {n : Nat} {R : List Int} {segs : List (List S25)}
theorem CP_snoc {y : List S25} {v : Int} (hR : R.length = segs.length + 1) (wy : W y) (ay : Alt y) (hy : ins (ats y) = sz n segs segs.length) (hb : (ats y).length ≤ 400000) : ∀ (ys : List Int) (os : List (List S25)) (a : Nat), CP n R segs a ys os → CP n (R ++ [v]) (segs ++ [y]) a (ys ++ [v]) (os ++ [y])
 | [], [], a, hc => by
  have hc : a = segs.length := hc
  subst hc
  refine ⟨segs.length + 1, by omega, by rw [List.length_append, List.length_singleton]; exact Nat.le_refl _, ?_, wy, ay, ?_, ?_, hb, ?_⟩
  ·rw [List.getElem?_append_right (by omega), hR]; simp
  ·rw [sz_left _ _ _ _ (Nat.le_refl _), List.take_of_length_le (by rw [List.length_append, List.length_singleton]; exact Nat.le_refl _), List.drop_left' rfl, cmps_one hy]
  ·rw [List.take_of_length_le (by rw [List.length_append, List.length_singleton]; exact Nat.le_refl _), List.drop_left' rfl]; simp [lens]
  ·show segs.length + 1 = _
   rw [List.length_append, List.length_singleton]
 | z :: ys, o :: os, a, ⟨t, t1, t2, t3, w, al, ea, hle, hbo, hc⟩ => by
  have e : ((segs ++ [y]).take t).drop a = (segs.take t).drop a := by rw [List.take_append_of_le_length t2]
  refine ⟨t, t1, by rw [List.length_append]; omega, ?_, w, al, ?_, by rw [e]; exact hle, hbo, CP_snoc hR wy ay hy hb ys os t hc⟩
  ·rw [List.getElem?_append_left (by omega)]; exact t3
  ·rw [sz_left _ _ _ _ (by omega), e]; exact ea
theorem CP_uniq (hr : rise R) : ∀ (ys : List Int) (os ps : List (List S25)) (a : Nat), CP n R segs a ys os → CP n R segs a ys ps → os = ps
 | [], [], [], a, _, _ => rfl
 | y :: ys, o :: os, p :: ps, a, ⟨t, t1, t2, t3, w, al, ea, hle, hb, hc⟩, ⟨t', t1', t2', t3', w', al', ea', hle', hb', hc'⟩ => by
  have ht : t < R.length := (List.getElem?_eq_some_iff.1 t3).1
  have ht' : t' < R.length := (List.getElem?_eq_some_iff.1 t3').1
  have e : t = t' := rise_inj hr ht ht' (by rw [(List.getElem?_eq_some_iff.1 t3).2, (List.getElem?_eq_some_iff.1 t3').2])
  subst e
  rw [alt_uniq w w' al al' (by rw [ea, ea']), CP_uniq hr ys os ps t hc hc']
 | [], _ :: _, _, _, h, _ => by cases h
 | [], [], _ :: _, _, _, h => by cases h
 | _ :: _, [], _, _, h, _ => by cases h
 | _ :: _, _ :: _, [], _, _, h => by cases h
theorem CP_mem : ∀ (ys : List Int) (os : List (List S25)) (a : Nat), CP n R segs a ys os → ∀ x ∈ ys, ∃ t, a < t ∧ R[t]? = some x
 | [], _, _, _, x, hx => by cases hx
 | y :: ys, o :: os, a, ⟨t, t1, t2, t3, w, al, ea, hle, hb, hc⟩, x, hx => by
  rcases List.mem_cons.1 hx with rfl | hx
  ·exact ⟨t, t1, t3⟩
  ·obtain ⟨q, q1, q2⟩ := CP_mem ys os t hc x hx
   exact ⟨q, by omega, q2⟩
 | _ :: _, [], _, h, _, _ => by cases h
theorem CP_last (hR : R.length = segs.length + 1) (ys : List Int) (os : List (List S25)) (a : Nat) (r : Int) (ha : a ≤ segs.length) (hr : R[a]? = some r) (h : hs n segs) (hc : CP n R segs a ys os) : (r :: ys)[os.length]? = R[segs.length]? := by
 obtain ⟨t, t1, t2, t3, t4, _⟩ := CP_to h ys os a r os.length ha hr hc (Nat.le_refl _)
 have l := CP_len _ _ _ hc
 rw [List.drop_of_length_le (Nat.le_refl _), List.drop_of_length_le (by omega)] at t4
 have e : t = segs.length := t4
 rw [t3, e]
end
theorem sorted_ext : ∀ {l m : List Int}, l.Pairwise (· < ·) → m.Pairwise (· < ·) → (∀ x, x ∈ l ↔ x ∈ m) → l = m
 | [], [], _, _, _ => rfl
 | [], y :: m, _, _, h => absurd ((h y).2 (by simp)) (by simp)
 | x :: l, [], _, _, h => absurd ((h x).1 (by simp)) (by simp)
 | x :: l, y :: m, hl, hm, h => by
  obtain ⟨l1, l2⟩ := List.pairwise_cons.1 hl
  obtain ⟨m1, m2⟩ := List.pairwise_cons.1 hm
  have e : x = y := by
   have hx := (h x).1 (by simp)
   have hy := (h y).2 (by simp)
   rcases List.mem_cons.1 hx with e | hx
   ·exact e
   ·rcases List.mem_cons.1 hy with e | hy
    ·exact e.symm
    ·have := m1 x hx
     have := l1 y hy
     omega
  subst e
  rw [sorted_ext l2 m2 fun z => ?_]
  have hz := h z
  constructor
  ·intro hm
   have := l1 z hm
   rcases List.mem_cons.1 (hz.1 (by simp [hm])) with e | h
   ·omega
   ·exact h
  ·intro hm
   have := m1 z hm
   rcases List.mem_cons.1 (hz.2 (by simp [hm])) with e | h
   ·omega
   ·exact h
theorem seek_no {R : List Int} (h0 : R ≠ []) (hl : R.length ≤ 100000) {r : Int} (hr : r ∉ R) : ∃ i near er, seek_Find.f R r = some (i, near, er) ∧ er ≠ 0 := by
 have hne : R.length ≠ 0 := fun e => h0 (List.length_eq_zero_iff.1 e)
 unfold seek_Find.f
 rw [if_pos (by omega), if_neg hne]
 split
 ·exact ⟨_, _, _, rfl, by decide⟩
 ·rename_i c1
  split
  ·exact ⟨_, _, _, rfl, by decide⟩
  ·rename_i c2
   refine ⟨_, _, _, rfl, ?_⟩
   have hab : 0 ≤ seek_Find.ab R r - 1 ∧ seek_Find.ab R r - 1 < (R.length : Int) := by
    unfold seek_Find.ab at c2 ⊢
    rcases seek_Find.idx_spec r R 0 with ⟨e, _⟩ | ⟨k, hk, e, _⟩
    ·have e : seek_Find.idx r R 0 = -1 := e
     rw [e] at c2 ⊢
     rw [if_pos (by decide)] at c2 ⊢
     omega
    ·have e : seek_Find.idx r R 0 = ((0 + k : Nat) : Int) := e
     rw [e] at c2 ⊢
     rw [if_neg (by omega)] at c2 ⊢
     omega
   have hn : rd R (seek_Find.ab R r - 1) ≠ r := by
    intro e
    obtain ⟨j, hj⟩ : ∃ j : Nat, seek_Find.ab R r - 1 = (j : Int) := ⟨(seek_Find.ab R r - 1).toNat, by omega⟩
    rw [hj] at e hab
    rw [rdI_at R j (by omega)] at e
    exact hr (e ▸ List.getElem_mem _)
   rw [if_neg hn]
   decide
theorem sameRow_A (l : List Int) (hl : l.length ≤ 1000000) (k : Nat) (hk : l.length + 1 ≤ k) : epitomeref15_SameRow.f k l l = some true := by
 have go : ∀ (d i k : Nat), l.length - i = d → i ≤ l.length → d + 1 ≤ k → epitomeref15_SameRow.l0 k l l (i : Int) = some true := by
  intro d
  induction d with
  | zero =>
   intro i k hd hi hk
   obtain ⟨k, rfl⟩ : ∃ j, k = j + 1 := ⟨k - 1, by omega⟩
   rw [epitomeref15_SameRow.l0, if_neg (by omega)]
  | succ d ih =>
   intro i k hd hi hk
   obtain ⟨k, rfl⟩ : ∃ j, k = j + 1 := ⟨k - 1, by omega⟩
   rw [epitomeref15_SameRow.l0, if_pos (by omega), if_pos (by omega), if_pos (by omega), if_pos rfl, w64 (by omega) (by omega), show (i : Int) + 1 = ((i + 1 : Nat) : Int) by omega]
   exact ih (i + 1) k (by omega) (by omega) (by omega)
 unfold epitomeref15_SameRow.f
 rw [if_pos rfl]
 exact go l.length 0 k rfl (Nat.zero_le _) hk
theorem same16_A (b : ByteArray) (R : List Int) (l : List (List S25)) (hR : R.length ≤ 100000) (hl : l.length ≤ 100000) (hx : ∀ x ∈ l, x.length ≤ 1000000) (k : Nat) (hk : 1200000 ≤ k) : epitomeref16_Same.f k b R l b R l = some true := by
 have go : ∀ (d i k : Nat), l.length - i = d → i ≤ l.length → 1000002 + d ≤ k → epitomeref16_Same.l0 k (i : Int) b R l b R l = some true := by
  intro d
  induction d with
  | zero =>
   intro i k hd hi hk
   obtain ⟨k, rfl⟩ : ∃ j, k = j + 1 := ⟨k - 1, by omega⟩
   rw [epitomeref16_Same.l0, if_neg (by omega)]
  | succ d ih =>
   intro i k hd hi hk
   obtain ⟨k, rfl⟩ : ∃ j, k = j + 1 := ⟨k - 1, by omega⟩
   have hm := hx l[i] (List.getElem_mem _)
   rw [epitomeref16_Same.l0, if_pos (by omega), if_pos (by omega), if_pos (by omega), rdL_at l i (by omega), same_A l[i] hm k (by omega), Option.bind_some, if_pos rfl, w64 (by omega) (by omega), show (i : Int) + 1 = ((i + 1 : Nat) : Int) by omega]
   exact ih (i + 1) k (by omega) (by omega) (by omega)
 obtain ⟨k, rfl⟩ : ∃ j, k = j + 1 := ⟨k - 1, by omega⟩
 unfold epitomeref16_Same.f
 rw [if_pos rfl, if_pos rfl, sameRow_A R (by omega) (k + 1) (by omega), Option.bind_some, epitomeref16_Same.j0, if_neg (by decide)]
 exact go l.length 0 k rfl (Nat.zero_le _) (by omega)
end Go.Proofs.YtegjegihcebimaaDoor.Pure
end
