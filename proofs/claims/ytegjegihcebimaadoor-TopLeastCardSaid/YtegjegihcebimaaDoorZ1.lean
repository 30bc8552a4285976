/- Part 1 of the proof of topLeast_holds: out of the texts that this session's programs wrote, what the theorem reaches. -/
import Derived.Test.YtegjegihcebimaaDoorZ0
section
namespace Go.Proofs.YtegjegihcebimaaDoor.P
open Go.RowKit Go.Proofs.YtegjegihcebimaaDoorW.PrintWords Go.Proofs.YtegjegihcebimaaDoorW.PrintLast Go.Proofs.YtegjegihcebimaaDoorW.PrintMore
attribute [local go_sem] max2_int min2_int max_two min_two max_three min_three max_four min_four
set_option linter.unusedVariables false
set_option linter.unusedSimpArgs false
def encP (x : S25) : List Value := [.int .i64 x.f0, .int .i64 x.f1, .string x.f2]
def encS : List S25 → List Value
 | [] => []
 | x :: l => encP x ++ encS l
theorem encS_len : ∀ l : List S25, (encS l).length = l.length * 3
 | [] => rfl
 | x :: l => by rw [encS, List.length_append, encS_len l, List.length_cons]; simp only [encP, List.length_cons, List.length_nil]; omega
theorem encS_append : ∀ a b : List S25, encS (a ++ b) = encS a ++ encS b
 | [], b => rfl
 | x :: a, b => by rw [List.cons_append, encS, encS, encS_append a b, List.append_assoc]
theorem encS_take : ∀ (l : List S25) (i : Nat), encS (l.take i) = (encS l).take (i * 3)
 | [], i => by simp [encS]
 | x :: l, 0 => by simp [encS]
 | x :: l, i + 1 => by
  rw [List.take_succ_cons, encS, encS, encS_take l i, show (i + 1) * 3 = i * 3 + 1 + 1 + 1 by omega]
  simp [encP]
theorem encS_drop : ∀ (l : List S25) (i : Nat), encS (l.drop i) = (encS l).drop (i * 3)
 | [], i => by simp [encS]
 | x :: l, 0 => by simp [encS]
 | x :: l, i + 1 => by
  rw [List.drop_succ_cons, encS, encS_drop l i, show (i + 1) * 3 = i * 3 + 1 + 1 + 1 by omega]
  simp [encP]
theorem encS_one : ∀ (l : List S25), ∀ v ∈ encS l, v.oneCell' = true
 | [], v, h => by simp [encS] at h
 | x :: l, v, h => by
  rw [encS] at h
  rcases List.mem_append.mp h with h | h
  ·simp only [encP, List.mem_cons, List.not_mem_nil, or_false] at h
   rcases h with rfl | rfl | rfl <;> rfl
  ·exact encS_one l v h
theorem reps_encS (w : World) (base : Nat) (ok : Nat → Prop) (l : List S25) : Reps (k25.M w base ok) 3 l (encS l) := by
 refine ⟨encS_len l, fun j p hj => ?_⟩
 have hlt : j < l.length := (List.getElem?_eq_some_iff.mp hj).1
 have e : ((encS l).drop (j * 3)).take 3 = encP p := by
  rw [← encS_drop, List.drop_eq_getElem_cons hlt, encS]
  have : l[j] = p := (List.getElem?_eq_some_iff.mp hj).2
  rw [this, List.take_left' (by rfl)]
 rw [e]
 exact k25_mkM w base ok p
theorem reps_eq {w : World} {base : Nat} {ok : Nat → Prop} : ∀ {l : List S25} {inner : List Value}, Reps (k25.M w base ok) 3 l inner → inner = encS l := by
 intro l
 induction l with
 | nil => intro inner h; exact List.eq_nil_of_length_eq_zero (by have := h.1; simpa using this)
 | cons x l ih =>
  intro inner h
  have h0 := k25_openM (h.2 0 x rfl)
  rw [Nat.zero_mul, List.drop_zero] at h0
  have hr : Reps (k25.M w base ok) 3 l (inner.drop 3) := by
   refine ⟨by rw [List.length_drop, h.1, List.length_cons]; omega, fun j p hj => ?_⟩
   have := h.2 (j + 1) p (by simpa using hj)
   rw [List.drop_drop, show 3 + j * 3 = (j + 1) * 3 by omega]
   exact this
  rw [encS, ← ih hr]
  conv => lhs; rw [← List.take_append_drop 3 inner, h0]
  rfl
theorem own_spans {w : World} {base : Nat} {ok : Nat → Prop} {v : Value} {l : List S25} (h : Kd.R k25 25 w base ok v l) : w.ownsRow base 25 3 v l.length (encS l) := by
 obtain ⟨inner, ho, hr⟩ := h.2
 rw [← reps_eq hr]; exact ho
theorem spans_own {w : World} {base : Nat} {ok : Nat → Prop} {v : Value} {l : List S25} (h : w.ownsRow base 25 3 v l.length (encS l)) (hok : ∀ k, v.ownBlock = some k → ok k) : Kd.R k25 25 w base ok v l :=
 ⟨hok, encS l, h, reps_encS _ _ _ _⟩
theorem spans_set {w : World} {base g cap : Nat} {l m : List S25} {o : Nat} (h : w.ownsRow base 25 3 (.slice (some ⟨g, 0, none⟩) l.length cap) l.length (encS l)) (ho : o + m.length ≤ l.length) :
  (w.setCells g (o * 3) (encS m)).ownsRow base 25 3 (.slice (some ⟨g, 0, none⟩) l.length cap) l.length (encS (l.take o ++ m ++ l.drop (o + m.length))) ∧ w.grownBy (w.setCells g (o * 3) (encS m)) (some g) := by
 obtain ⟨h1, h2⟩ := h
 rcases h2 with ⟨e, _⟩ | ⟨g', cap', cur, e, hb, hh, hn, hc, hs, ht⟩
 ·cases e
 ·injection e with e1 e2 e3
  injection e1 with e1
  injection e1 with e1
  subst e1; subst e3
  have hl := encS_len m
  obtain ⟨cur', h3, h4, h5⟩ := setCells_row (encS m) (o * 3) w cur hh (by rw [hl, hs]; omega)
  obtain ⟨s1, s2, s3, s4⟩ := setCells_same g (encS m) (o * 3) w
  refine ⟨⟨?_, .inr ⟨g, cap, cur', rfl, hb, h3, hn, hc, by rw [h4, hs], ?_⟩⟩, ⟨s1, s2, s3, by rw [s4]; exact Nat.le_refl _, fun k _ hk => setCells_far _ _ k (fun he => hk (by rw [he]))⟩⟩
  ·rw [encS_len, List.length_append, List.length_append, List.length_take, List.length_drop]; omega
  ·rw [h5, encS_append, encS_append, encS_take, encS_drop, ← ht, hl]
   have hcl : cur.toList.length = cap * 3 := by rw [Array.length_toList, hs]
   rw [List.take_append, List.take_append, List.take_take, List.length_append, List.length_take, List.take_take]
   rw [List.take_of_length_le (l := encS m) (by rw [hl]; omega)]
   rw [show min (l.length * 3) (o * 3) = o * 3 by omega, show min (o * 3) (l.length * 3) = o * 3 by omega]
   congr 1
   rw [show l.length * 3 - (min (o * 3) cur.toList.length + (encS m).length) = l.length * 3 - (o * 3 + m.length * 3) by rw [hl, hcl]; omega, ← List.drop_take]
   rw [show (o + m.length) * 3 = o * 3 + m.length * 3 by omega]
section
variable {ops : Array Oper} {rest : List Oper} {o : Oper} {a : Act} {Q : Exit → Act → World → Prop} {W : World}
theorem run_copy_spans (w : World) (ty : TypeId) (b n dCap : Nat) (ad : Addr) (sCap : Nat) (ys : List S25) (hn : ys.length = n) (h0 : 0 < n)
  (hsrc : ∀ j v, (encS ys)[j]? = some v → w.cell? (ad.add j) = some v) (hc : ∀ j, j < n * 3 → (w.cell? ⟨b, j, none⟩).isSome = true) (hf : ∀ j, j < n * 3 → w.frozen? ⟨b, j, none⟩ = false) :
  (Builtin.copy_ #[27, 27] ty #[.slice (some ⟨b, 0, none⟩) n dCap, .slice (some ad) n sCap]).run Tryd.prog w = .ok (goInt n) (w.setCells b 0 (encS ys)) := by
 have hlen := encS_len ys
 have hl := run_loadCells_list (P := Tryd.prog) w ad (encS ys) hsrc
 have hst := run_storeCells_cells (P := Tryd.prog) b 0 (encS ys) 0 w (by intro j hj; simpa using hc j (by rw [hlen, hn] at hj; exact hj)) (by intro j hj; simpa using hf j (by rw [hlen, hn] at hj; exact hj)) (encS_one ys)
 simp only [Nat.add_zero] at hst
 rw [hlen, hn] at hl
 obtain ⟨i, hi, hz⟩ := Option.map_eq_some_iff.1 info25
 simp only [Prod.mk.injEq] at hz
 have hs : i.size = 3 := hz.2.1
 simp [Builtin.copy_, run_underlying Tryd.underlying27, Builtin.lenOf, Builtin.firstCells, sizeOf, typeInfo, hi, hs, hl, hst]
theorem spans_copy (base : Nat) (hgd : o.guard = none) (s x : Operand) (ho : o.op = .call { callee := .builtin .copy, args := #[s, x], argTypes := #[27, 27] })
  (v : Value) (xs ys : List S25) (A : Option Addr) (c : Nat) (ok : Nat → Prop) (hs : a.eval s = v) (hx : a.eval x = .slice A ys.length c) (HO : Kd.R k25 25 W base ok v xs) (HR : Kd.C k25 W A ys.length ys) (hl : xs.length = ys.length)
  (h : ∀ w1, Kd.R k25 25 w1 base ok v ys → W.grownBy w1 v.ownBlock → wpList Tryd.prog ops Q rest (a.put o.dst (.int .i64 (ys.length : Int))) w1) : wpList Tryd.prog ops Q (o :: rest) a W := by
 have hown := own_spans HO
 have fin : ∀ w1, (Builtin.copy_ #[27, 27] o.type #[v, .slice A ys.length c]).run Tryd.prog W = .ok (goInt (ys.length : Int)) w1 → Kd.R k25 25 w1 base ok v ys → W.grownBy w1 v.ownBlock → wpList Tryd.prog ops Q (o :: rest) a W := by
  intro w1 hr hrow hg
  refine wpList_plain hgd fun K hK => ?_
  unfold Oper.wp execOp
  simp only [ho, resolve, invoke, builtin, Sem.run_bind, Sem.run_pure, Result.andThen_ok, List.map_toArray, List.map_cons, List.map_nil, hs, hx, hr]
  exact hK _ _ (h w1 hrow hg)
 rcases Nat.eq_zero_or_pos ys.length with h0 | hp
 ·have hy : ys = [] := List.eq_nil_of_length_eq_zero h0
  have hxs : xs = [] := List.eq_nil_of_length_eq_zero (by omega)
  subst hy; subst hxs
  refine fin W ?_ HO (World.grownBy.refl W _)
  obtain ⟨A', c', hv⟩ := own_slice hown
  rw [hv]
  obtain ⟨i, hi, hz⟩ := Option.map_eq_some_iff.1 info25
  have hl0 : ∀ (x : Addr), (loadCells x 0).run Tryd.prog W = .ok #[] W := fun x => by simpa using run_loadCells_list (P := Tryd.prog) W x [] (by simp)
  cases A' <;> cases A <;> simp [Builtin.copy_, run_underlying Tryd.underlying27, Builtin.lenOf, Builtin.firstCells, sizeOf, typeInfo, hi, storeCells, hl0]
 ·obtain ⟨ad, hA, hc⟩ := HR.2.2 (by omega)
  rcases hown.2 with ⟨_, hx0⟩ | ⟨g, cap, cur, hv, hb, hh, hnc, hcm, hcs, htake⟩
  ·omega
  have hsrc : ∀ j u, (encS ys)[j]? = some u → W.cell? (ad.add j) = some u := by
   intro j u hu
   have hjl : j < ys.length * 3 := by
    have := (List.getElem?_eq_some_iff.mp hu).1
    rwa [encS_len] at this
   have hq : j / 3 < ys.length := by omega
   obtain ⟨cs, hcl, hK, hcell⟩ := hc (j / 3) _ (List.getElem?_eq_getElem hq)
   have e := k25_open hK
   have he : (encS ys)[j]? = cs[j % 3]? := by
    have e1 : ((encS ys).drop (j / 3 * 3))[j % 3]? = (encS ys)[j]? := by rw [List.getElem?_drop]; congr 1; omega
    rw [← e1, ← encS_drop, List.drop_eq_getElem_cons hq, encS, List.getElem?_append_left (by show j % 3 < 3; omega), e]; rfl
   have := hcell (j % 3) u (by rw [← he]; exact hu)
   rwa [show j / 3 * k25.sz + j % 3 = j by show j / 3 * 3 + j % 3 = j; omega] at this
  have hown2 := hown
  rw [hv] at hown2
  have hr := run_copy_spans W o.type g ys.length cap ad c ys rfl hp hsrc (fun j hj => by rw [cell_of_row W g _ cur 25 (0, 0) hh]; simp; omega) (fun j _ => blk_frozen hh _)
  have hset := spans_set (m := ys) (o := 0) hown2 (by omega)
  rw [Nat.zero_mul, List.take_zero, List.nil_append, List.drop_of_length_le (by omega), List.append_nil] at hset
  refine fin _ (by rw [hv, hA, hl, hr]) (spans_own ?_ HO.1) ?_
  ·rw [hv, ← hl]; exact hset.1
  ·rw [hv]; exact hset.2
theorem zero_spans (n : Nat) : (Builtin.zeroCells #[.int .i64 0, .int .i64 0, .string ⟨#[]⟩] n).toList = encS (List.replicate n z25) := by
 induction n with
 | zero => simp [Builtin.zeroCells, encS]
 | succ n ih =>
  rw [List.replicate_succ, encS, ← ih]
  simp [Builtin.zeroCells, encP, z25]
  apply List.ext_getElem
  ·simp; omega
  ·intro i h1 h2
   simp
   match i with
   | 0 => rfl
   | 1 => rfl
   | 2 => rfl
   | i + 3 => simp
theorem spans_store (base : Nat) (hN : o.dst = none) (hgd : o.guard = none) (p x : Operand) (ho : o.op = .store 25 p x) {g cap : Nat} (i : Nat) (xs : List S25) (y : S25) (ok : Nat → Prop)
  (haddr : a.eval p = .pointer (some ⟨g, i * 3, none⟩)) (hx : a.eval x = .agg #[.int .i64 y.f0, .int .i64 y.f1, .string y.f2]) (HO : Kd.R k25 25 W base ok (.slice (some ⟨g, 0, none⟩) xs.length cap) xs) (hi : i < xs.length)
  (h : ∀ w1, Kd.R k25 25 w1 base ok (.slice (some ⟨g, 0, none⟩) xs.length cap) (xs.set i y) → W.grownBy w1 (some g) → wpList Tryd.prog ops Q rest a w1) : wpList Tryd.prog ops Q (o :: rest) a W := by
 obtain ⟨c, hcl, hM, hcc, _⟩ := Kd.R_elem HO z25 (i : Int) (by omega) (by omega)
 have hbase : base ≤ W.heap.size := by
  obtain ⟨_, inner, hown, _⟩ := HO
  have h1 := own_base hown g rfl
  have h2 := own_lt hown g rfl
  omega
 refine Kd.R_store k25 (w0 := W) base hN hgd 25 p x ho 25 (g := g) (n := xs.length) (cap := cap) (o' := i * 3) (i : Int) 0 xs y (.agg #[.int .i64 y.f0, .int .i64 y.f1, .string y.f2]) (encP y) c ok (fun _ => False) haddr (by simp; rfl) hx rfl (by kernel_rfl) (by intro q hq; exact encS_one [y] q (by simpa [encS] using hq)) HO (by omega) (by omega) hcl hcc (by show 3 ≤ 3; omega) ?_ (fun _ hk => hk.elim) ?_ ?_
 ·have e : c.take 0 ++ encP y ++ c.drop (0 + (encP y).length) = encP y := by
   rw [List.take_zero, List.nil_append, List.drop_of_length_le (by rw [hcl]; show 3 ≤ 0 + 3; omega), List.append_nil]
  rw [e]; exact k25_mkM _ _ _ y
 ·exact ⟨rfl, rfl, rfl, Nat.le_refl _, fun _ _ => rfl⟩
 ·intro w1 h1 _ hg
  rw [Int.toNat_natCast] at h1
  exact h w1 h1 hg
set_option maxRecDepth 100000 in
theorem spans_clear (base : Nat) (hgd : o.guard = none) (s : Operand) (ho : o.op = .call { callee := .builtin .clear, args := #[s], argTypes := #[27] }) {g cap c : Nat} (i m : Nat) (xs : List S25) (ok : Nat → Prop)
  (hs : a.eval s = .slice (some ⟨g, i * 3, none⟩) m c) (hm : 0 < m) (HO : Kd.R k25 25 W base ok (.slice (some ⟨g, 0, none⟩) xs.length cap) xs) (hi : i + m = xs.length)
  (h : ∀ w1, Kd.R k25 25 w1 base ok (.slice (some ⟨g, 0, none⟩) xs.length cap) (xs.take i ++ List.replicate m z25) → W.grownBy w1 (some g) → wpList Tryd.prog ops Q rest (a.put o.dst (.tuple #[])) w1) : wpList Tryd.prog ops Q (o :: rest) a W := by
 have hown := own_spans HO
 have hset := spans_set (m := List.replicate m z25) (o := i) hown (by rw [List.length_replicate]; omega)
 rw [List.length_replicate, List.drop_of_length_le (l := xs) (by omega), List.append_nil] at hset
 have hlen : (xs.take i ++ List.replicate m z25).length = xs.length := by rw [List.length_append, List.length_take, List.length_replicate]; omega
 have hrun : (Builtin.clear_ #[27] o.type #[.slice (some ⟨g, i * 3, none⟩) m c]).run Tryd.prog W = .ok (.tuple #[]) (W.setCells g (i * 3) (encS (List.replicate m z25))) := by
  rcases hown.2 with ⟨e, _⟩ | ⟨g', cap', cur, hv, hb, hh, hnc, hcm, hcs, htake⟩
  ·cases e
  injection hv with e1 e2 e3
  injection e1 with e1
  injection e1 with e1
  subst e1; subst e3
  have hl : (encS (List.replicate m z25)).length = m * 3 := by rw [encS_len, List.length_replicate]
  have hst := run_storeCells_cells (P := Tryd.prog) g (i * 3) (encS (List.replicate m z25)) 0 W (fun j hj => by rw [cell_of_row W g _ cur 25 (0, 0) hh]; simp; rw [hl] at hj; omega) (fun j _ => blk_frozen hh _) (encS_one _)
  simp only [Nat.add_zero] at hst
  obtain ⟨i0, hi0, hz⟩ := Option.map_eq_some_iff.1 info25
  simp only [Prod.mk.injEq] at hz
  have hzv : (zeroValue 25).run Tryd.prog W = .ok (.agg #[.int .i64 0, .int .i64 0, .string ⟨#[]⟩]) W := by
   simp [zeroValue, typeInfo, hi0, hz.1]
  obtain ⟨m', rfl⟩ : ∃ m', m = m' + 1 := ⟨m - 1, by omega⟩
  have hzc := zero_spans (m' + 1)
  simp [Builtin.clear_, run_underlying Tryd.underlying27, hzv, Value.cells, hzc, hst]
 refine wpList_plain hgd fun K hK => ?_
 unfold Oper.wp execOp
 simp only [ho, resolve, invoke, builtin, Sem.run_bind, Sem.run_pure, Result.andThen_ok, List.map_toArray, List.map_cons, List.map_nil, hs, hrun]
 refine hK _ _ (h _ (spans_own ?_ HO.1) hset.2)
 rw [hlen]; exact hset.1
end
def normal_Of.e (x : S25) : Bool := decide (x.f1 = 0) && (x.f2.toList == ([] : List UInt8))
theorem normal_Of.e_f (x : S25) : normal_empty.f x.f0 x.f1 x.f2 = some (normal_Of.e x) := by
 unfold normal_empty.f normal_Of.e
 by_cases c : x.f1 = 0 <;> simp [c]
def normal_Of.idx : List S25 → Int → Int
 | [], _ => -1
 | x :: l, i => if normal_Of.e x = true then i else normal_Of.idx l (i + 1)
def normal_Of.keep (l : List S25) : List S25 := l.filter fun x => !normal_Of.e x
theorem normal_Of.idx_spec : ∀ (l : List S25) (i : Nat), (normal_Of.idx l (i : Int) = -1 ∧ normal_Of.keep l = l) ∨ ∃ k, k < l.length ∧ normal_Of.idx l (i : Int) = ((i + k : Nat) : Int) ∧ normal_Of.keep (l.take (k + 1)) = l.take k
 | [], _ => .inl ⟨rfl, rfl⟩
 | x :: l, i => by
  by_cases h : normal_Of.e x = true
  ·refine .inr ⟨0, by simp, by simp [normal_Of.idx, h], by simp [normal_Of.keep, h]⟩
  ·have e1 : normal_Of.idx (x :: l) (i : Int) = normal_Of.idx l ((i + 1 : Nat) : Int) := by rw [normal_Of.idx, if_neg h]; rfl
   rw [e1]
   rcases normal_Of.idx_spec l (i + 1) with ⟨a, b⟩ | ⟨k, hk, a, b⟩
   ·refine .inl ⟨a, ?_⟩
    unfold normal_Of.keep at b ⊢
    rw [List.filter_cons_of_pos (by simpa using h), b]
   ·refine .inr ⟨k + 1, by simpa using hk, by rw [a]; congr 1; omega, ?_⟩
    unfold normal_Of.keep at b ⊢
    rw [List.take_succ_cons, List.filter_cons_of_pos (by simpa using h), b, List.take_succ_cons]
theorem normal_Of.idx_next (l : List S25) (j : Nat) (h : j < l.length) : normal_Of.idx (l.drop j) (j : Int) = if normal_Of.e (rd_T25 l (j : Int)) = true then (j : Int) else normal_Of.idx (l.drop (j + 1)) ((j + 1 : Nat) : Int) := by
 rw [op_sum.next l j h, normal_Of.idx]; rfl
set_option maxHeartbeats 8000000 in
set_option maxRecDepth 100000 in
theorem normal_Of.index (A0 : Option Addr) (c0 : Nat) (l0 : List S25) (w : World) (hr0 : Kd.C k25 w A0 l0.length l0) (hs : l0.length < 9223372036854775807) :
  Calls Tryd.prog 90 #[.slice A0 l0.length c0, .func (Fn.func 74) #[] #[]] w fun e w' => e = .returned (.int .i64 (normal_Of.idx l0 0)) ∧ Below w.heap.size w w' := by
 have HR0 := am hr0; have HZ := am hs
 obtain ⟨r, hr⟩ : ∃ r, normal_Of.idx l0 0 = r := ⟨_, rfl⟩
 rw [hr]
 have H := am hr
 clear hr0 hs hr
 go_enter Tryd.func90, Tryd.ntmps90
 go_wp2
 go_loopw [5, 8] (fun _ v8 wr => ∃ j : Nat, v8 = .int .i64 j ∧ j ≤ l0.length ∧ Aside0 (normal_Of.idx (l0.drop j) (j : Int) = r) ∧ Aside0 (Below w.heap.size w wr)) (fun _ v8 _ => l0.length - (intOf v8).toNat)
 case atStart => exact ⟨0, rfl, Nat.zero_le _, H, ⟨Below.refl _ _⟩⟩
 case round =>
  clear H
  obtain ⟨j, rfl, hj, HA, HB⟩ := hrel
  by_cases hlt : j < l0.length
  ·have hltb : decide ((j : Int) < (l0.length : Int)) = true := decide_eq_true (by omega)
   have HL := am hlt
   have h := HA.out
   clear HA
   rw [normal_Of.idx_next l0 j hlt] at h
   obtain ⟨ad, rfl, hx0, hx1, hx2⟩ := at_T25 (Kd.C_below HR0.out HB.out) (j : Int) (by omega) (by omega)
   rw [Int.toNat_natCast] at hx0 hx1 hx2
   have p1 : (0 ≤ (j : Int)) = True := eq_true (by omega)
   have p2 : ((j : Int) < (l0.length : Int)) = True := eq_true (by omega)
   have p3 : (j < l0.length) = True := eq_true hlt
   have HV := am (normal_Of.e_f (rd_T25 l0 (j : Int)))
   have ew : wrap64 ((j : Int) + 1) = ((j + 1 : Nat) : Int) := by have := HZ.out; unfold wrap64; omega
   by_cases he : normal_Of.e (rd_T25 l0 (j : Int)) = true
   ·rw [if_pos he] at h
    rw [he] at HV
    subst h
    clear hlt he
    go_wp2_with (go_at_call 74; (with_reducible refine (normal_empty.calls _ _ _ true _ HV.out).mono ?_); rintro e w1 ⟨rfl, hb⟩; have HB1 := am (below_then HB.out HB.out.size hb); clear hb)
    go_ret
    exact ⟨rfl, HB1.out⟩
   ·rw [if_neg he] at h
    rw [Bool.eq_false_iff.mpr he] at HV
    have HE := am h
    clear hlt he h
    go_wp2_with (go_at_call 74; (with_reducible refine (normal_empty.calls _ _ _ false _ HV.out).mono ?_); rintro e w1 ⟨rfl, hb⟩; have HB1 := am (below_then HB.out HB.out.size hb); clear hb)
    go_round
    case measure => exact op_sum.less HL.out ew
    case rel => exact ⟨j + 1, by rw [ew], HL.out, HE, HB1⟩
  ·have hltb : decide ((j : Int) < (l0.length : Int)) = false := decide_eq_false (by omega)
   have h := HA.out
   clear HA
   rw [List.drop_of_length_le (by omega), normal_Of.idx] at h
   subst h
   go_wp2
   go_ret
   exact ⟨rfl, HB.out⟩
theorem normal_Of.keep_take (l : List S25) (j : Nat) (h : j < l.length) : normal_Of.keep (l.take (j + 1)) = normal_Of.keep (l.take j) ++ (if normal_Of.e (rd_T25 l (j : Int)) = true then [] else [rd_T25 l (j : Int)]) := by
 have e : rd_T25 l (j : Int) = l[j] := by
  unfold rd_T25
  rw [Int.toNat_natCast, List.getD_eq_getElem?_getD, List.getElem?_eq_getElem h]; rfl
 rw [e, List.take_succ_eq_append_getElem h]
 unfold normal_Of.keep
 rw [List.filter_append]
 by_cases c : normal_Of.e l[j] = true <;> simp [c]
theorem rd_drop {ys l : List S25} {j : Nat} (h : ys.drop j = l.drop j) (hj : j < l.length) : rd_T25 ys (j : Int) = rd_T25 l (j : Int) := by
 unfold rd_T25
 rw [Int.toNat_natCast, List.getD_eq_getElem?_getD, List.getD_eq_getElem?_getD]
 have e := congrArg (·[0]?) h
 simp only [List.getElem?_drop, Nat.add_zero] at e
 rw [e]
theorem set_take (ys : List S25) (i : Nat) (y : S25) (h : i < ys.length) : (ys.set i y).take (i + 1) = ys.take i ++ [y] := by
 rw [List.take_set, List.take_succ_eq_append_getElem h, List.set_append_right _ _ (by rw [List.length_take]; omega), List.length_take, Nat.min_eq_left (by omega), Nat.sub_self]; rfl
theorem set_drop (ys : List S25) (i j : Nat) (y : S25) (h : i < j) : (ys.set i y).drop j = ys.drop j := by
 rw [List.drop_set, if_pos h]
def normal_Of.J (w0 : World) (g cap : Nat) (l : List S25) (i j : Nat) (wr : World) : Prop :=
 i < j ∧ j ≤ l.length ∧ ∃ ys : List S25, ys.length = l.length ∧ ys.take i = normal_Of.keep (l.take j) ∧ ys.drop j = l.drop j ∧ Kd.R k25 25 wr w0.heap.size (fun _ => True) (.slice (some ⟨g, 0, none⟩) l.length cap) ys ∧ Below w0.heap.size w0 wr
set_option maxHeartbeats 8000000 in
set_option maxRecDepth 100000 in
theorem normal_Of.del (l : List S25) (v : Value) (w0 w : World) (hO : Kd.R k25 25 w w0.heap.size (fun _ => True) v l) (hB : Below w0.heap.size w0 w) (hs : l.length < 9223372036854775807) :
  Calls Tryd.prog 73 #[v, .func (Fn.func 74) #[] #[]] w fun e w' => ∃ A m c, e = .returned (.slice A m c) ∧ Kd.R k25 25 w' w0.heap.size (fun _ => True) (.slice A m c) (normal_Of.keep l) ∧ Below w0.heap.size w0 w' := by
 obtain ⟨A0, c0, rfl, hc0, hC⟩ := Kd.R_reads hO
 have HI := am (normal_Of.index A0 c0 l w hC hs)
 have HO := am hO; have HB := am hB; have HZ := am hs
 clear hO hB hs hC
 rcases normal_Of.idx_spec l 0 with ⟨e1, e2⟩ | ⟨k, hk, e1, e2⟩
 ·rw [show ((0 : Nat) : Int) = 0 from rfl] at e1
  rw [e1] at HI
  rw [e2]
  clear e1 e2
  go_enter Tryd.func73, Tryd.ntmps73
  go_wp2_with (go_at_call 90; (with_reducible refine HI.out.mono ?_); rintro e w1 ⟨rfl, hb⟩; have HO1 := am (Kd.R_below HO.out hb); have HB1 := am (below_then HB.out HB.out.size hb); clear hb)
  go_ret
  exact ⟨_, _, _, rfl, HO1.out, HB1.out⟩
 ·rw [show ((0 : Nat) : Int) = 0 from rfl, Nat.zero_add] at e1
  rw [e1] at HI
  have hne : ((k : Int) == -1) = false := beq_eq_false_iff_ne.mpr (by omega)
  have ew : wrap64 ((k : Int) + 1) = ((k + 1 : Nat) : Int) := by have := HZ.out; unfold wrap64; omega
  obtain ⟨g, cap, hv, hg1, hg2, _⟩ := Kd.R_form HO.out (by omega)
  injection hv with h1 h2 h3
  subst h1; subst h3
  have HG := am hg1
  have HE2 := am e2
  have HK := am hk
  clear e1 e2 hg1 hg2 hk
  go_enter Tryd.func73, Tryd.ntmps73
  go_wp2_with (go_at_call 90; (with_reducible refine HI.out.mono ?_); rintro e w1 ⟨rfl, hb⟩; have HO1 := am (Kd.R_below HO.out hb); have HB1 := am (below_then HB.out HB.out.size hb); clear hb)
  go_loopw [5, 6, 7] (fun v5 v6 _ wr => ∃ i j : Nat, v5 = .int .i64 i ∧ v6 = .int .i64 j ∧ Aside0 (normal_Of.J w0 g c0 l i j wr)) (fun _ v6 _ _ => l.length - (intOf v6).toNat)
  case atStart => exact ⟨k, k + 1, rfl, by rw [ew], ⟨by have := HK.out; refine ⟨by omega, by omega, l, rfl, HE2.out.symm, rfl, HO1.out, HB1.out⟩⟩⟩
  case round =>
   clear ew
   obtain ⟨i, j, rfl, rfl, HJ⟩ := hrel
   obtain ⟨hij, hj, ys, hyl, hyt, hyd, hO, hB⟩ := HJ.out
   clear HJ
   have HO := am hO; have HB := am hB; have HYL := am hyl; have HYT := am hyt; have HYD := am hyd; have HIJ := am hij; have HJJ := am hj
   clear hB hyt
   by_cases hlt : j < l.length
   ·have hltb : decide ((j : Int) < (l.length : Int)) = true := decide_eq_true (by omega)
    have HL := am hlt
    rw [← hyl] at hO
    obtain ⟨ad, had, hx0, hx1, hx2⟩ := at_T25 (Kd.R_reads' hO).2.2 (j : Int) (by omega) (by omega)
    injection had with had
    subst had
    rw [Int.toNat_natCast, add_plain] at hx0 hx1 hx2
    rw [rd_drop hyd hlt] at hx0 hx1 hx2
    have p1 : (0 ≤ (j : Int)) = True := eq_true (by omega)
    have p2 : ((j : Int) < (l.length : Int)) = True := eq_true (by omega)
    have p3 : (j < l.length) = True := eq_true hlt
    have HV := am (normal_Of.e_f (rd_T25 l (j : Int)))
    have ew : wrap64 ((j : Int) + 1) = ((j + 1 : Nat) : Int) := by have := HZ.out; unfold wrap64; omega
    have ew2 : wrap64 ((i : Int) + 1) = ((i + 1 : Nat) : Int) := by have := HZ.out; unfold wrap64; omega
    have q1 : (0 ≤ (i : Int)) = True := eq_true (by omega)
    have q2 : ((i : Int) < (l.length : Int)) = True := eq_true (by omega)
    have q3 : (i < l.length) = True := eq_true (by omega)
    have hnext := normal_Of.keep_take l j hlt
    clear hO hyd
    by_cases he : normal_Of.e (rd_T25 l (j : Int)) = true
    ·rw [if_pos he, List.append_nil] at hnext
     rw [he] at HV
     have HN := am hnext
     clear hlt he hnext hij hj hyl
     go_wp2_with (go_at_call 74; (with_reducible refine (normal_empty.calls _ _ _ true _ HV.out).mono ?_); rintro e w1 ⟨rfl, hb⟩; have HO1 := am (Kd.R_below (Kd.R_alloc HO.out _) hb); have HB1 := am (below_then (below_alloc HB.out _) (below_alloc HB.out _).size hb); clear hb)
     go_round
     case measure => exact op_sum.less HL.out ew
     case rel => exact ⟨i, j + 1, rfl, by rw [ew], ⟨by have := HIJ.out; have := HL.out; exact ⟨by omega, by omega, ys, HYL.out, by rw [HN.out]; exact HYT.out, by rw [← List.drop_drop, HYD.out, List.drop_drop], HO1.out, HB1.out⟩⟩⟩
    ·rw [if_neg he] at hnext
     rw [Bool.eq_false_iff.mpr he] at HV
     have HN := am hnext
     clear hlt he hnext hij hj hyl
     go_wp2_with (first | (go_at_call 74; (with_reducible refine (normal_empty.calls _ _ _ false _ HV.out).mono ?_); rintro e w1 ⟨rfl, hb⟩; have HO1 := am (Kd.R_below (Kd.R_alloc HO.out _) hb); have HB1 := am (below_then (below_alloc HB.out _) (below_alloc HB.out _).size hb); have hs := blk_below (heap_alloc_new wr _) hb; clear hb; have s0 := blk_cell hs 0; have s1 := blk_cell hs 1; have s2 := blk_cell hs 2; clear hs) | ((with_reducible refine gate_store (t := 25) (p := 33) rfl ?_); refine spans_store w0.heap.size rfl rfl (.tmp 33) (.tmp 32) rfl (g := g) (cap := c0) i ys (rd_T25 l (j : Int)) (fun _ => True) rfl rfl (by rw [HYL.out]; exact HO1.out) (by have := HIJ.out; have := HL.out; have := HYL.out; omega) ?_; intro w2 h2 hg2; rw [HYL.out] at h2; have HO2 := am h2; have HB2 := am (HB1.out.grown hg2 HB1.out.size (fun k_ e_ => by injection e_ with e_; rw [← e_]; exact HG.out)); clear h2 hg2 HO1 HB1))
     go_round
     case measure => exact op_sum.less HL.out ew
     case rel => exact ⟨i + 1, j + 1, by rw [ew2], by rw [ew], ⟨by have := HIJ.out; have := HL.out; have := HYL.out; exact ⟨by omega, by omega, ys.set i (rd_T25 l (j : Int)), by rw [List.length_set]; exact HYL.out, by rw [HN.out, set_take _ _ _ (by omega), HYT.out], by rw [set_drop _ _ _ _ (by omega), ← List.drop_drop, HYD.out, List.drop_drop], HO2.out, HB2.out⟩⟩⟩
   ·have hltb : decide ((j : Int) < (l.length : Int)) = false := decide_eq_false (by omega)
    have hjl : j = l.length := by omega
    subst hjl
    obtain ⟨i0, hi0, _, hsz, _⟩ := info_parts info25
    have hcut1 := cut_from (P := Tryd.prog) 27 25 .i64 Tryd.underlying27 hi0 3 hsz (some ⟨g, 0, none⟩) l.length c0 (i : Int) (by omega) (by omega)
    have hcut2 := cut_to (P := Tryd.prog) 27 25 .i64 Tryd.underlying27 hi0 (some ⟨g, 0, none⟩) l.length c0 (i : Int) (by omega) (by omega) (Kd.R_reads' hO).2.1
    have hne : ¬ c0 = ((i : Int)).toNat := by omega
    rw [if_neg hne] at hcut1
    simp only [Int.toNat_natCast, Option.map_some, add_plain] at hcut1 hcut2
    have hyt := HYT.out
    have hyl2 := HYL.out
    rw [List.take_length] at hyt
    have HYK := am hyt
    clear hi0 hsz hne hyt hyd hO hlt hj hij hyl hyl2
    go_wp2_with ((with_reducible refine gate_builtin (b := .clear) (xs := #[.tmp 38]) rfl ?_); refine spans_clear w0.heap.size rfl (.tmp 38) rfl (g := g) (cap := c0) (c := c0 - i) i (l.length - i) ys (fun _ => True) rfl (by have := HIJ.out; omega) (by rw [HYL.out]; exact HO.out) (by have := HIJ.out; have := HYL.out; omega) ?_; intro w2 h2 hg2; rw [HYL.out] at h2; have HO2 := am h2; have HB2 := am (HB.out.grown hg2 HB.out.size (fun k_ e_ => by injection e_ with e_; rw [← e_]; exact HG.out)); clear h2 hg2)
    go_ret
    refine ⟨_, _, _, rfl, ?_, HB2.out⟩
    have hR := Kd.R_take (m := i) HO2.out (by have := HIJ.out; have := HYL.out; rw [List.length_append, List.length_take, List.length_replicate]; omega)
    rw [List.take_left' (by have := HIJ.out; have := HYL.out; rw [List.length_take]; omega), HYK.out] at hR
    exact hR
def normal_Of.step (d : List S25) (x : S25) : List S25 := if d.length = 0 then [x] else if x.f0 = (rd_T25 d ((d.length - 1 : Nat) : Int)).f0 then d.set (d.length - 1) ⟨(rd_T25 d ((d.length - 1 : Nat) : Int)).f0, wrap64 ((rd_T25 d ((d.length - 1 : Nat) : Int)).f1 + x.f1), (rd_T25 d ((d.length - 1 : Nat) : Int)).f2 ++ x.f2⟩ else d ++ [x]
def normal_Of.n (l : List S25) : List S25 := (normal_Of.keep l).foldl normal_Of.step []
def normal_Of.t : List S25 → Nat
 | [] => 0
 | x :: l => x.f2.size + normal_Of.t l
def normal_Of.f (l0 : List S25) : Option (List S25) := if l0.length < 1000000000 ∧ normal_Of.t l0 < 140737488355328 then some (normal_Of.n l0) else none
theorem normal_Of.t_append : ∀ a b : List S25, normal_Of.t (a ++ b) = normal_Of.t a + normal_Of.t b
 | [], b => by simp [normal_Of.t]
 | x :: a, b => by rw [List.cons_append, normal_Of.t, normal_Of.t, normal_Of.t_append a b]; omega
theorem normal_Of.t_get : ∀ (l : List S25) (i : Nat), i < l.length → (rd_T25 l (i : Int)).f2.size ≤ normal_Of.t l
 | [], _, h => by simp at h
 | x :: l, 0, _ => by
  rw [normal_Of.t]; show x.f2.size ≤ _; omega
 | x :: l, i + 1, h => by
  have ih := normal_Of.t_get l i (by simpa using h)
  have e : rd_T25 (x :: l) ((i + 1 : Nat) : Int) = rd_T25 l (i : Int) := by
   unfold rd_T25; rw [Int.toNat_natCast, Int.toNat_natCast, List.getD_cons_succ]
  rw [e, normal_Of.t]; omega
theorem normal_Of.t_keep : ∀ l : List S25, normal_Of.t (normal_Of.keep l) ≤ normal_Of.t l
 | [] => Nat.le_refl _
 | x :: l => by
  have ih := normal_Of.t_keep l
  unfold normal_Of.keep at ih ⊢
  by_cases c : normal_Of.e x = true
  ·rw [List.filter_cons_of_neg (by simpa using c), normal_Of.t]; omega
  ·rw [List.filter_cons_of_pos (by simpa using c), normal_Of.t, normal_Of.t]; omega
theorem normal_Of.set_last (d : List S25) (y : S25) (h : 0 < d.length) : d.set (d.length - 1) y = d.take (d.length - 1) ++ [y] := by
 have e := set_take d (d.length - 1) y (by omega)
 rw [show d.length - 1 + 1 = d.length by omega, List.take_of_length_le (by rw [List.length_set]; omega)] at e
 exact e
theorem normal_Of.t_split (d : List S25) (h : 0 < d.length) : normal_Of.t (d.take (d.length - 1)) + (rd_T25 d ((d.length - 1 : Nat) : Int)).f2.size = normal_Of.t d := by
 have e : d = d.take (d.length - 1) ++ [rd_T25 d ((d.length - 1 : Nat) : Int)] := by
  conv => lhs; rw [← List.take_append_drop (d.length - 1) d]
  rw [op_sum.next d (d.length - 1) (by omega), List.drop_of_length_le (by omega)]
 conv => rhs; rw [e]
 rw [normal_Of.t_append]; simp [normal_Of.t]
theorem normal_Of.step_t (d : List S25) (x : S25) : normal_Of.t (normal_Of.step d x) = normal_Of.t d + x.f2.size := by
 unfold normal_Of.step
 by_cases c : d.length = 0
 ·rw [if_pos c]
  obtain rfl : d = [] := List.eq_nil_of_length_eq_zero c
  simp [normal_Of.t]
 ·rw [if_neg c]
  split
  ·rw [normal_Of.set_last d _ (by omega), normal_Of.t_append]
   have := normal_Of.t_split d (by omega)
   simp only [normal_Of.t, ByteArray.size_append]; omega
  ·rw [normal_Of.t_append]; simp [normal_Of.t]
theorem normal_Of.step_len (d : List S25) (x : S25) : 0 < (normal_Of.step d x).length ∧ (normal_Of.step d x).length ≤ d.length + 1 := by
 unfold normal_Of.step
 by_cases c : d.length = 0
 ·rw [if_pos c]; simp
 ·rw [if_neg c]
  split
  ·rw [List.length_set]; omega
  ·rw [List.length_append]; simp
def normal_Of.d (q : List S25) (j : Nat) : List S25 := (q.take j).foldl normal_Of.step []
theorem normal_Of.d_next (q : List S25) (j : Nat) (h : j < q.length) : normal_Of.d q (j + 1) = normal_Of.step (normal_Of.d q j) (rd_T25 q (j : Int)) := by
 unfold normal_Of.d
 have e : rd_T25 q (j : Int) = q[j] := by
  unfold rd_T25
  rw [Int.toNat_natCast, List.getD_eq_getElem?_getD, List.getElem?_eq_getElem h]; rfl
 rw [e, List.take_succ_eq_append_getElem h, List.foldl_append]; rfl
theorem normal_Of.d_facts (q : List S25) : ∀ j, j ≤ q.length → (normal_Of.d q j).length ≤ j ∧ (0 < j → 0 < (normal_Of.d q j).length) ∧ normal_Of.t (normal_Of.d q j) = normal_Of.t (q.take j)
 | 0, _ => ⟨by simp [normal_Of.d], fun h => absurd h (by omega), by simp [normal_Of.d, normal_Of.t]⟩
 | j + 1, h => by
  obtain ⟨h1, h2, h3⟩ := normal_Of.d_facts q j (by omega)
  rw [normal_Of.d_next q j (by omega)]
  have s := normal_Of.step_len (normal_Of.d q j) (rd_T25 q (j : Int))
  refine ⟨by omega, fun _ => s.1, ?_⟩
  rw [normal_Of.step_t, h3]
  have e : q.take (j + 1) = q.take j ++ [rd_T25 q (j : Int)] := by
   rw [List.take_succ_eq_append_getElem (by omega)]
   unfold rd_T25
   rw [Int.toNat_natCast, List.getD_eq_getElem?_getD, List.getElem?_eq_getElem (by omega)]; rfl
  rw [e, normal_Of.t_append]; simp [normal_Of.t]
def normal_Of.I (w0 : World) (A : Option Addr) (c : Nat) (q : List S25) (j la : Nat) (wr : World) : Prop :=
 j ≤ q.length ∧ la = (normal_Of.d q j).length - 1 ∧ ∃ ys : List S25, ys.length = q.length ∧ ys.take (normal_Of.d q j).length = normal_Of.d q j ∧ ys.drop j = q.drop j ∧ Kd.R k25 25 wr w0.heap.size (fun _ => True) (.slice A q.length c) ys ∧ Below w0.heap.size w0 wr
theorem normal_Of.la_facts {n j la dl : Nat} (hlt : j < n) (hla : la = dl - 1) (df1 : dl ≤ j) (df2 : 0 < j → 0 < dl) (z : ¬ j = 0) :
  0 < dl ∧ la < dl ∧ la < n ∧ (0 ≤ (la : Int)) = True ∧ ((la : Int) < (n : Int)) = True ∧ (la < n) = True ∧ (((j : Int) == 0) = false) ∧ 0 ≤ (la : Int) ∧ (la : Int) < (n : Int) := by
 have h := df2 (by omega)
 exact ⟨h, by omega, by omega, eq_true (by omega), eq_true (by omega), eq_true (by omega), beq_eq_false_iff_ne.mpr (by omega), by omega, by omega⟩
theorem normal_Of.last_eq {ys d : List S25} {la : Nat} (hyt : ys.take d.length = d) (h : la < d.length) : rd_T25 ys (la : Int) = rd_T25 d (la : Int) := by
 unfold rd_T25
 rw [Int.toNat_natCast]
 conv => rhs; rw [← hyt]
 rw [List.getD_eq_getElem?_getD, List.getD_eq_getElem?_getD, List.getElem?_take, if_pos h]
theorem normal_Of.last_cells {w : World} {base g cap : Nat} {ys d : List S25} {la : Nat} (hO : Kd.R k25 25 w base (fun _ => True) (.slice (some ⟨g, 0, none⟩) ys.length cap) ys) (hyt : ys.take d.length = d) (h : la < d.length) (h2 : la < ys.length) :
  w.cell? ⟨g, la * 3, none⟩ = some (.int .i64 (rd_T25 d (la : Int)).f0) ∧ w.cell? ⟨g, la * 3 + 1, none⟩ = some (.int .i64 (rd_T25 d (la : Int)).f1) ∧ w.cell? ⟨g, la * 3 + 2, none⟩ = some (.string (rd_T25 d (la : Int)).f2) ∧
   w.frozen? ⟨g, la * 3, none⟩ = false ∧ w.frozen? ⟨g, la * 3 + 1, none⟩ = false ∧ w.frozen? ⟨g, la * 3 + 2, none⟩ = false := by
 obtain ⟨cs, hcl, hM, hcc, hfr⟩ := Kd.R_elem hO z25 (la : Int) (by omega) (by omega)
 obtain rfl := k25_openM hM
 rw [Int.toNat_natCast] at hcc hfr
 have e : ys.getD la z25 = rd_T25 d (la : Int) := by
  rw [← normal_Of.last_eq hyt h]; unfold rd_T25; rw [Int.toNat_natCast]
 rw [e] at hcc
 exact ⟨hcc 0 _ rfl, hcc 1 _ rfl, hcc 2 _ rfl, hfr 0, hfr 1, hfr 2⟩
theorem spans_f1 {W : World} {base g cap : Nat} {ys : List S25} {la : Nat} (v : Int) (hO : Kd.R k25 25 W base (fun _ => True) (.slice (some ⟨g, 0, none⟩) ys.length cap) ys) (h : la < ys.length) :
  Kd.R k25 25 (W.setCell ⟨g, la * 3 + 1, none⟩ (.int .i64 v)) base (fun _ => True) (.slice (some ⟨g, 0, none⟩) ys.length cap) (ys.set la ⟨(rd_T25 ys (la : Int)).f0, v, (rd_T25 ys (la : Int)).f2⟩) ∧ W.grownBy (W.setCell ⟨g, la * 3 + 1, none⟩ (.int .i64 v)) (some g) := by
 obtain ⟨cs, hcl, hM, hcc, hfr⟩ := Kd.R_elem hO z25 (la : Int) (by omega) (by omega)
 obtain rfl := k25_openM hM
 have hp := Kd.R_seg hO (la : Int) (by omega) (by omega) (seg := [.int .i64 v]) (j := 1) hcl hcc (show 2 ≤ 3 from by decide) (x' := (⟨(rd_T25 ys (la : Int)).f0, v, (rd_T25 ys (la : Int)).f2⟩ : S25)) (k25_mkM _ _ _ (⟨(rd_T25 ys (la : Int)).f0, v, (rd_T25 ys (la : Int)).f2⟩ : S25)) (fun _ hk => hk)
 exact hp
theorem spans_f2 {W : World} {base g cap : Nat} {ys : List S25} {la : Nat} (v : ByteArray) (hO : Kd.R k25 25 W base (fun _ => True) (.slice (some ⟨g, 0, none⟩) ys.length cap) ys) (h : la < ys.length) :
  Kd.R k25 25 (W.setCell ⟨g, la * 3 + 2, none⟩ (.string v)) base (fun _ => True) (.slice (some ⟨g, 0, none⟩) ys.length cap) (ys.set la ⟨(rd_T25 ys (la : Int)).f0, (rd_T25 ys (la : Int)).f1, v⟩) ∧ W.grownBy (W.setCell ⟨g, la * 3 + 2, none⟩ (.string v)) (some g) := by
 obtain ⟨cs, hcl, hM, hcc, hfr⟩ := Kd.R_elem hO z25 (la : Int) (by omega) (by omega)
 obtain rfl := k25_openM hM
 have hp := Kd.R_seg hO (la : Int) (by omega) (by omega) (seg := [.string v]) (j := 2) hcl hcc (show 3 ≤ 3 from by decide) (x' := (⟨(rd_T25 ys (la : Int)).f0, (rd_T25 ys (la : Int)).f1, v⟩ : S25)) (k25_mkM _ _ _ (⟨(rd_T25 ys (la : Int)).f0, (rd_T25 ys (la : Int)).f1, v⟩ : S25)) (fun _ hk => hk)
 exact hp
theorem rd_set {ys : List S25} {la : Nat} (y : S25) (h : la < ys.length) : rd_T25 (ys.set la y) (la : Int) = y := by
 unfold rd_T25
 rw [Int.toNat_natCast, List.getD_eq_getElem?_getD, List.getElem?_set_self h]; rfl
theorem normal_Of.cat {q : List S25} {j la : Nat} (hj : j < q.length) (hl : la < (normal_Of.d q j).length) (ht : normal_Of.t q < 140737488355328) : (rd_T25 (normal_Of.d q j) (la : Int)).f2.size + (rd_T25 q (j : Int)).f2.size < 140737488355328 := by
 have h1 := normal_Of.t_get _ la hl
 rw [(normal_Of.d_facts q j (by omega)).2.2] at h1
 have h2 : normal_Of.t q = normal_Of.t (q.take j) + normal_Of.t (q.drop j) := by rw [← normal_Of.t_append, List.take_append_drop]
 rw [op_sum.next q j hj, normal_Of.t] at h2
 omega
theorem normal_Of.merge {q ys : List S25} {j la : Nat} {x y : S25} (hyl : ys.length = q.length) (hyt : ys.take (normal_Of.d q j).length = normal_Of.d q j) (hyd : ys.drop j = q.drop j) (hj : j < q.length) (z : ¬ j = 0)
  (hla : la = (normal_Of.d q j).length - 1) (hd0 : 0 < (normal_Of.d q j).length) (hdj : (normal_Of.d q j).length ≤ j) (hn : normal_Of.d q (j + 1) = normal_Of.step (normal_Of.d q j) x) (hy : rd_T25 (normal_Of.d q j) (la : Int) = y) (hk : x.f0 = y.f0) (m : S25) (hm : m = ⟨y.f0, wrap64 (y.f1 + x.f1), y.f2 ++ x.f2⟩) :
  la = (normal_Of.d q (j + 1)).length - 1 ∧ (ys.set la m).length = q.length ∧ (ys.set la m).take (normal_Of.d q (j + 1)).length = normal_Of.d q (j + 1) ∧ (ys.set la m).drop (j + 1) = q.drop (j + 1) := by
 have e : normal_Of.d q (j + 1) = (normal_Of.d q j).set la m := by
  rw [hn]
  unfold normal_Of.step
  rw [if_neg (by omega), ← hla, hy, if_pos hk, hm]
 rw [e, List.length_set]
 refine ⟨hla, by rw [List.length_set]; exact hyl, ?_, ?_⟩
 ·rw [List.take_set, hyt]
 ·rw [set_drop _ _ _ _ (by omega), ← List.drop_drop, hyd, List.drop_drop]
theorem normal_Of.other {q ys : List S25} {j la : Nat} {x y : S25} (hyl : ys.length = q.length) (hyt : ys.take (normal_Of.d q j).length = normal_Of.d q j) (hyd : ys.drop j = q.drop j) (hj : j < q.length) (z : ¬ j = 0)
  (hla : la = (normal_Of.d q j).length - 1) (hd0 : 0 < (normal_Of.d q j).length) (hdj : (normal_Of.d q j).length ≤ j) (hn : normal_Of.d q (j + 1) = normal_Of.step (normal_Of.d q j) x) (hy : rd_T25 (normal_Of.d q j) (la : Int) = y) (hk : ¬ x.f0 = y.f0) :
  la + 1 = (normal_Of.d q (j + 1)).length - 1 ∧ (ys.set (la + 1) x).length = q.length ∧ (ys.set (la + 1) x).take (normal_Of.d q (j + 1)).length = normal_Of.d q (j + 1) ∧ (ys.set (la + 1) x).drop (j + 1) = q.drop (j + 1) := by
 have e : normal_Of.d q (j + 1) = normal_Of.d q j ++ [x] := by
  rw [hn]
  unfold normal_Of.step
  rw [if_neg (by omega), ← hla, hy, if_neg hk]
 rw [e, List.length_append]
 have hl1 : la + 1 = (normal_Of.d q j).length := by omega
 refine ⟨by simp; omega, by rw [List.length_set]; exact hyl, ?_, ?_⟩
 ·rw [hl1, show [x].length = 1 from rfl, set_take _ _ _ (by omega), hyt]
 ·rw [set_drop _ _ _ _ (by omega), ← List.drop_drop, hyd, List.drop_drop]
theorem normal_Of.merged {w0 wr : World} {g cap : Nat} {q ys : List S25} {j la : Nat} {x y : S25} (o : Obj) (n m : Nat) (hO : Kd.R k25 25 wr w0.heap.size (fun _ => True) (.slice (some ⟨g, 0, none⟩) q.length cap) ys) (hB : Below w0.heap.size w0 wr) (hg : w0.heap.size ≤ g)
  (hyl : ys.length = q.length) (hyt : ys.take (normal_Of.d q j).length = normal_Of.d q j) (hyd : ys.drop j = q.drop j) (hj : j < q.length) (z : ¬ j = 0)
  (hla : la = (normal_Of.d q j).length - 1) (hd0 : 0 < (normal_Of.d q j).length) (hdj : (normal_Of.d q j).length ≤ j) (hn : normal_Of.d q (j + 1) = normal_Of.step (normal_Of.d q j) x) (hy : rd_T25 (normal_Of.d q j) (la : Int) = y) (hk : x.f0 = y.f0) :
  normal_Of.I w0 (some ⟨g, 0, none⟩) cap q (j + 1) la ((((((wr.alloc o).drewN n).setCell ⟨g, la * 3 + 1, none⟩ (.int .i64 (wrap64 (y.f1 + x.f1)))).setCell ⟨g, la * 3 + 2, none⟩ (.string (y.f2 ++ x.f2)))).drewN m) := by
 have hlq : la < ys.length := by omega
 have hye : rd_T25 ys (la : Int) = y := by rw [normal_Of.last_eq hyt (by omega), hy]
 have h0 := Kd.R_drewN (Kd.R_alloc hO o) n
 rw [← hyl] at h0
 obtain ⟨h1, g1⟩ := spans_f1 (la := la) (wrap64 (y.f1 + x.f1)) h0 hlq
 have hl' : (ys.set la (⟨y.f0, wrap64 (y.f1 + x.f1), y.f2⟩ : S25)).length = ys.length := List.length_set
 rw [hye, ← hl'] at h1
 obtain ⟨h2, g2⟩ := spans_f2 (la := la) (y.f2 ++ x.f2) h1 (by rw [List.length_set]; exact hlq)
 rw [rd_set _ hlq, List.set_set, List.length_set, hyl] at h2
 obtain ⟨m1, m2, m3, m4⟩ := normal_Of.merge hyl hyt hyd hj z hla hd0 hdj hn hy hk _ rfl
 have hb0 : Below w0.heap.size w0 ((wr.alloc o).drewN n) := pw_below_drewN (below_alloc hB o) n
 have hb1 := hb0.grown g1 hb0.size (fun k e => by injection e with e; omega)
 have hb2 := hb1.grown g2 hb1.size (fun k e => by injection e with e; omega)
 exact ⟨by omega, m1, _, m2, m3, m4, Kd.R_drewN h2 m, pw_below_drewN hb2 m⟩
theorem normal_Of.wrap_next {la : Nat} (h : la < 1000000000) : wrap64 ((la : Int) + 1) = (la : Int) + 1 := by unfold wrap64; omega
theorem normal_Of.next_facts {la dl j n : Nat} (h1 : la < dl) (h2 : dl ≤ j) (h3 : j < n) : (0 ≤ (la : Int) + 1) = True ∧ ((la : Int) + 1 < (n : Int)) = True ∧ (la + 1 < n) = True := ⟨eq_true (by omega), eq_true (by omega), eq_true (by omega)⟩
theorem normal_Of.end_facts {la dl n c : Nat} (h1 : la = dl - 1) (h2 : dl ≤ n) (h3 : 0 < n → 0 < dl) (h4 : n < 1000000000) (h5 : n ≤ c) : (n = 0 ∧ la = 0 ∧ dl = 0) ∨ (la + 1 = dl ∧ ((n : Int) < (la : Int) + 1) = False ∧ (0 ≤ (la : Int) + 1) = True ∧ ((la : Int) + 1 ≤ (c : Int)) = True ∧ wrap64 ((la : Int) + 1) = (la : Int) + 1) := by
 rcases Nat.eq_zero_or_pos n with h | h
 ·exact .inl ⟨h, by omega, by omega⟩
 ·have := h3 h
  exact .inr ⟨by omega, eq_false (by omega), eq_true (by omega), eq_true (by omega), by unfold wrap64; omega⟩
set_option maxHeartbeats 8000000 in
set_option maxRecDepth 100000 in
theorem normal_Of.calls (A0 : Option Addr) (c0 : Nat) (l0 : List S25) (r : List S25) (w : World) (hr0 : Kd.C k25 w A0 l0.length l0) (hc0 : l0.length ≤ c0) (h : normal_Of.f l0 = some r) :
  Calls Tryd.prog 33 #[.slice A0 l0.length c0] w fun e w' => ∃ v0_ : Value, e = .returned (v0_) ∧ Kd.R k25 25 w' w.heap.size (fun _ => True) v0_ r ∧ Below w.heap.size w w' := by
 unfold normal_Of.f at h
 by_cases c : l0.length < 1000000000 ∧ normal_Of.t l0 < 140737488355328
 ·rw [if_pos c] at h
  have hr := Option.some.inj h
  have HR := am hr
  have HL := am c.1; have HT := am c.2; have HC := am hr0; have HCC := am hc0
  clear h c hr hr0 hc0
  go_enter Tryd.func33, Tryd.ntmps33
  go_wp2_with (first | ((with_reducible refine gate_dst (N := 9) rfl ?_); refine Kd.R_make k25 (w0 := w) w.heap.size 25 rfl (N := 9) rfl 27 (.tmp 8) (.tmp 8) rfl (l0.length : Int) rfl rfl Tryd.underlying27 _ 32 info25 rfl (by decide) (by decide) z25 (ok := fun _ => True) (okp := fun _ => False) (k25_mkM _ _ _ z25) (fun _ h_ => h_.elim) trivial (by omega) (by have := HL.out; omega) (Below.refl _ _) (Nat.le_refl _) ?_; intro v1 w1 ho hb hg hat; rw [Int.toNat_natCast] at ho; have HO1 := am ho; have HB1 := am hb; clear ho hb hg hat) | ((with_reducible refine gate_builtin (b := .copy) (xs := #[.tmp 10, .tmp 11]) rfl ?_); refine spans_copy w.heap.size rfl (.tmp 10) (.tmp 11) rfl v1 (List.replicate l0.length z25) l0 A0 c0 (fun _ => True) rfl rfl HO1.out (Kd.C_below HC.out HB1.out) (by rw [List.length_replicate]) ?_; intro w2 h2 hg2; have HO2 := am h2; have HB2 := am (HB1.out.grown hg2 HB1.out.size (own_base (own_spans HO1.out))); clear h2 hg2 HO1 HB1) | (go_at_call 73; (with_reducible refine (normal_Of.del l0 v1 w w2 HO2.out HB2.out (by have := HL.out; omega)).mono ?_); rintro e w3 ⟨A3, m3, c3, rfl, ho, hb⟩; have HO3 := am ho; have HB3 := am hb; clear ho hb HO2 HB2))
  obtain ⟨q, hq⟩ : ∃ q, normal_Of.keep l0 = q := ⟨_, rfl⟩
  have hql : q.length ≤ l0.length := by rw [← hq]; exact List.length_filter_le _ _
  have hqt : normal_Of.t q ≤ normal_Of.t l0 := by rw [← hq]; exact normal_Of.t_keep l0
  have HQL : Aside0 (q.length < 1000000000) := ⟨by have := HL.out; omega⟩
  have HQT : Aside0 (normal_Of.t q < 140737488355328) := ⟨by have := HT.out; omega⟩
  have hr := HR.out
  have ho := HO3.out
  unfold normal_Of.n at hr
  rw [hq] at hr ho
  obtain rfl : m3 = q.length := (Kd.R_reads' ho).1
  have HRR : Aside0 (normal_Of.d q q.length = r) := ⟨by unfold normal_Of.d; rw [List.take_length]; exact hr⟩
  have HO4 := am ho
  clear hql hqt hr hq ho HO3 HR HL HT
  go_loopw [4, 5, 6, 17] (fun v4 _ _ v17 wr => ∃ j la : Nat, v4 = .int .i64 la ∧ v17 = .int .i64 j ∧ Aside0 (normal_Of.I w A3 c3 q j la wr)) (fun _ _ _ v17 _ => q.length - (intOf v17).toNat)
  case atStart => exact ⟨0, 0, rfl, rfl, ⟨Nat.zero_le _, rfl, q, rfl, rfl, rfl, HO4.out, HB3.out⟩⟩
  case round =>
   obtain ⟨j, la, rfl, rfl, HI⟩ := hrel
   obtain ⟨hj, hla, ys, hyl, hyt, hyd, hO, hB⟩ := HI.out
   clear HI
   obtain ⟨df1, df2, df3⟩ := normal_Of.d_facts q j hj
   have HO := am hO; have HB := am hB; have HYL := am hyl; have HYT := am hyt; have HYD := am hyd; have HJJ := am hj; have HLA := am hla
   clear hB
   by_cases hlt : j < q.length
   ·have hltb : decide ((j : Int) < (q.length : Int)) = true := decide_eq_true (by omega)
    have HLT := am hlt
    obtain ⟨g, cap, hv, hg1, hg2, _⟩ := Kd.R_form hO (by omega)
    injection hv with h1 h2 h3
    subst h1; subst h3
    have HG := am hg1
    rw [← hyl] at hO
    obtain ⟨ad, had, hx0, hx1, hx2⟩ := at_T25 (Kd.R_reads' hO).2.2 (j : Int) (by omega) (by omega)
    injection had with had
    subst had
    rw [Int.toNat_natCast, add_plain] at hx0 hx1 hx2
    rw [rd_drop hyd hlt] at hx0 hx1 hx2
    have p1 : (0 ≤ (j : Int)) = True := eq_true (by omega)
    have p2 : ((j : Int) < (q.length : Int)) = True := eq_true (by omega)
    have p3 : (j < q.length) = True := eq_true hlt
    have ew : wrap64 ((j : Int) + 1) = ((j + 1 : Nat) : Int) := by have := HQL.out; unfold wrap64; omega
    have HN := am (normal_Of.d_next q j hlt)
    obtain ⟨x, hx⟩ : ∃ x, rd_T25 q (j : Int) = x := ⟨_, rfl⟩
    rw [hx] at hx0 hx1 hx2 HN
    by_cases z : j = 0
    ·subst z
     have zb : (((0 : Nat) : Int) == 0) = true := rfl
     clear hyt hyd hO hlt hj hla hyl df1 df2 df3 h2
     go_wp2
     go_round
     case measure => have := HLT.out; show q.length - 1 < q.length - 0; omega
     case rel =>
      refine ⟨1, la, rfl, rfl, ⟨HLT.out, ?_, ys, HYL.out, ?_, ?_, Kd.R_alloc HO.out _, below_alloc HB.out _⟩⟩
      ·rw [HN.out, HLA.out]; rfl
      ·have e : ys = q := by have := HYD.out; rwa [List.drop_zero, List.drop_zero] at this
       rw [HN.out, e]
       show q.take 1 = [x]
       have h1 := op_sum.next q 0 HLT.out
       rw [List.drop_zero] at h1
       rw [h1, ← hx]; rfl
      ·have e : ys = q := by have := HYD.out; rwa [List.drop_zero, List.drop_zero] at this
       rw [e]
    ·obtain ⟨hd0, hld, hlaq, q1, q2, q3, zb, r1, r2⟩ := normal_Of.la_facts hlt hla df1 df2 z
     obtain ⟨y0, y1, y2, f0, f1, f2⟩ := normal_Of.last_cells hO hyt hld (by rw [hyl]; exact hlaq)
     obtain ⟨y, hy⟩ : ∃ y, rd_T25 (normal_Of.d q j) (la : Int) = y := ⟨_, rfl⟩
     rw [hy] at y0 y1 y2
     have hcat := normal_Of.cat hlt hld HQT.out
     rw [hx, hy] at hcat
     have hcb : (9223372036854775807 < y.f2.size + x.f2.size) = False := eq_false (Nat.not_lt.mpr (Nat.le_trans (Nat.le_of_lt hcat) (by decide)))
     clear hcat
     have HX := am hx; have HY := am hy; have HD0 := am hd0; have HLQ := am hlaq; have HLD := am hld; have HZ := am z; have HDF := am df1
     clear hyt hyd hO hlt hj hla hyl df1 df2 df3 h2 hx hy hd0 hld hlaq r1 r2 z
     by_cases ck : x.f0 = y.f0
     ·have ckb : (x.f0 == y.f0) = true := beq_iff_eq.mpr ck
      have CK := am ck
      clear ck
      go_wp2
      go_quiet (fail)
      go_wp2
      go_region
      go_wp2
      go_region
      go_wp2
      go_round
      case measure => exact op_sum.less HLT.out ew
      case rel => exact ⟨j + 1, la, rfl, by rw [ew], ⟨normal_Of.merged _ _ 1 HO.out HB.out HG.out HYL.out HYT.out HYD.out HLT.out HZ.out HLA.out HD0.out HDF.out HN.out HY.out CK.out⟩⟩
     ·have ckb : (x.f0 == y.f0) = false := beq_eq_false_iff_ne.mpr ck
      have CK := am ck
      clear ck
      have ewl : wrap64 ((la : Int) + 1) = (la : Int) + 1 := normal_Of.wrap_next (Nat.lt_trans HLQ.out HQL.out)
      obtain ⟨l1, l2, l3⟩ := normal_Of.next_facts HLD.out HDF.out HLT.out
      go_wp2
      go_quiet (fail)
      go_wp2_with ((with_reducible refine gate_store (t := 25) (p := 27) rfl ?_); refine spans_store w.heap.size rfl rfl (.tmp 27) (.tmp 26) rfl (g := g) (cap := c3) (la + 1) ys x (fun _ => True) rfl rfl (by rw [HYL.out]; exact Kd.R_drewN (Kd.R_alloc HO.out _) _) (by rw [HYL.out]; exact of_eq_true l3) ?_; intro w9 h9 hg9; rw [HYL.out] at h9; have HO9 := am h9; have HB9 := am ((pw_below_drewN (below_alloc HB.out _) _).grown hg9 (pw_below_drewN (below_alloc HB.out _) _).size (fun k_ e_ => by injection e_ with e_; rw [← e_]; exact HG.out)); clear h9 hg9)
      go_round
      case measure => exact op_sum.less HLT.out ew
      case rel =>
       obtain ⟨m1, m2, m3, m4⟩ := normal_Of.other HYL.out HYT.out HYD.out HLT.out HZ.out HLA.out HD0.out HDF.out HN.out HY.out CK.out
       exact ⟨j + 1, la + 1, congrArg (Value.int .i64) (ewl.trans (Int.natCast_succ la).symm), by rw [ew], ⟨HLT.out, m1, _, m2, m3, m4, HO9.out, HB9.out⟩⟩
   ·have hltb : decide ((j : Int) < (q.length : Int)) = false := decide_eq_false (by omega)
    obtain rfl : j = q.length := by omega
    have hR := Kd.R_take (m := (normal_Of.d q q.length).length) hO (by rw [hyl]; exact df1)
    rw [hyt, HRR.out] at hR
    rcases normal_Of.end_facts hla df1 df2 HQL.out (Kd.R_reads' hO).2.1 with ⟨e1, e2, e3⟩ | ⟨e1, m1, m2, m3, ew⟩
    ·rw [HRR.out] at e3
     rw [e3] at hR
     have HR2 := am hR
     have hq0 : q = [] := List.eq_nil_of_length_eq_zero e1
     subst hq0; subst e2
     clear hyt hyd hO hj hla hyl df1 df2 df3 hlt hR e1 e3
     go_wp2
     go_ret
     exact ⟨_, rfl, HR2.out, HB.out⟩
    ·rw [HRR.out] at e1
     rw [← e1] at hR
     have HR2 := am hR
     clear hyt hyd hO hj hla hyl df1 df2 df3 hlt hR e1
     go_wp2
     go_ret
     exact ⟨_, rfl, HR2.out, HB.out⟩
 ·rw [if_neg c] at h; cases h
def points_Valid.f (a0 : ByteArray) : Option Bool := if a0.size < 9223372036854775807 then some (validT a0) else none
set_option maxHeartbeats 8000000 in
set_option maxRecDepth 100000 in
theorem points_Valid.calls (a0 : ByteArray) (r : Bool) (w : World) (hT : Tabs w) (h : points_Valid.f a0 = some r) :
  Calls Tryd.prog 41 #[.string a0] w fun e w' => e = .returned (.bool r) ∧ Below w.heap.size w w' := by
 unfold points_Valid.f at h
 by_cases c : a0.size < 9223372036854775807
 ·rw [if_pos c] at h
  obtain rfl := Option.some.inj h
  clear h
  have hc := valid_calls a0 w (by omega) hT
  have HC := am hc
  clear hc c
  have e : Lib.validD a0.data.toList = validT a0 := rfl
  rw [e] at HC
  generalize validT a0 = v at HC
  clear e
  go_enter Tryd.func41, Tryd.ntmps41
  go_wp2_with (go_at_call 78; (with_reducible refine (HC.out).mono ?_); rintro e w1 ⟨rfl, hb⟩)
  go_ret
  exact ⟨rfl, hb⟩
 ·rw [if_neg c] at h; cases h
mutual
def span_May.j0 : Nat → Bool → Int → Int → ByteArray → Bool → Bool → Option (Int)
 | 0, _, _, _, _, _, _ => none
 | k + 1, x13, x111000, x111001, x111002, x115000, x115001 => if x13 = true then (span_May.j1 k x13 x111000 x111001 x111002 x115000 x115001) else (if x115000 = true then (span_May.j1 k false x111000 x111001 x111002 x115000 x115001) else (span_May.j1 k (x111001 != 0) x111000 x111001 x111002 x115000 x115001))
def span_May.j1 : Nat → Bool → Int → Int → ByteArray → Bool → Bool → Option (Int)
 | 0, _, _, _, _, _, _ => none
 | k + 1, x13, x111000, x111001, x111002, x115000, x115001 => if x13 = true then (some 2) else (if x115000 = true then (span_May.j2 k (x111002.toList != ([] : List UInt8)) x111000 x111001 x111002) else (span_May.j2 k false x111000 x111001 x111002))
def span_May.j2 : Nat → Bool → Int → Int → ByteArray → Option (Int)
 | 0, _, _, _, _ => none
 | k + 1, x34, x111000, x111001, x111002 => if x34 = true then (some 3) else ((points_Valid.f x111002).bind fun t115 => (if t115 = true then (some 0) else (some 3)))
end
def span_May.f (k : Nat) (a0_0 : Int) (a0_1 : Int) (a0_2 : ByteArray) : Option (Int) := (span_of.f a0_0 a0_1 a0_2).bind fun bt111 => (if bt111.2.2 = true then (if bt111.1 = true then (if a0_1 < 0 then (span_May.j0 k true a0_0 a0_1 a0_2 bt111.1 bt111.2.1) else (span_May.j0 k (decide (a0_1 > 1048576)) a0_0 a0_1 a0_2 bt111.1 bt111.2.1)) else (span_May.j0 k false a0_0 a0_1 a0_2 bt111.1 bt111.2.1)) else (some 1))
theorem span_May.mono_l : ∀ k, (∀ y0 y1 y2 y3 y4 y5, LeO (span_May.j0 k y0 y1 y2 y3 y4 y5) (span_May.j0 (k + 1) y0 y1 y2 y3 y4 y5)) ∧ (∀ y0 y1 y2 y3 y4 y5, LeO (span_May.j1 k y0 y1 y2 y3 y4 y5) (span_May.j1 (k + 1) y0 y1 y2 y3 y4 y5)) ∧ (∀ y0 y1 y2 y3, LeO (span_May.j2 k y0 y1 y2 y3) (span_May.j2 (k + 1) y0 y1 y2 y3))
 | 0 => ⟨fun _ _ _ _ _ _ r h => by simp [span_May.j0] at h, fun _ _ _ _ _ _ r h => by simp [span_May.j1] at h, fun _ _ _ _ r h => by simp [span_May.j2] at h⟩
 | k + 1 => by
  obtain ⟨ih0, ih1, ih2⟩ := span_May.mono_l k
  refine ⟨?_, ?_, ?_⟩
  ·intro y0 y1 y2 y3 y4 y5
   unfold span_May.j0
   repeat' first
   | (with_reducible exact ih0 _ _ _ _ _ _)
   | (with_reducible exact ih1 _ _ _ _ _ _)
   | (with_reducible exact ih2 _ _ _ _)
   | (with_reducible exact LeO.refl _)
   | (with_reducible exact LeO.none _)
   | (with_reducible refine LeO.ite ?_ ?_)
   | (with_reducible refine LeO.bind ?_ (fun _ => ?_))
   | exact ih0 _ _ _ _ _ _
   | exact ih1 _ _ _ _ _ _
   | exact ih2 _ _ _ _
   | exact LeO.none _
   | refine LeO.ite ?_ ?_
   | refine LeO.bind ?_ (fun _ => ?_)
  ·intro y0 y1 y2 y3 y4 y5
   unfold span_May.j1
   repeat' first
   | (with_reducible exact ih0 _ _ _ _ _ _)
   | (with_reducible exact ih1 _ _ _ _ _ _)
   | (with_reducible exact ih2 _ _ _ _)
   | (with_reducible exact LeO.refl _)
   | (with_reducible exact LeO.none _)
   | (with_reducible refine LeO.ite ?_ ?_)
   | (with_reducible refine LeO.bind ?_ (fun _ => ?_))
   | exact ih0 _ _ _ _ _ _
   | exact ih1 _ _ _ _ _ _
   | exact ih2 _ _ _ _
   | exact LeO.none _
   | refine LeO.ite ?_ ?_
   | refine LeO.bind ?_ (fun _ => ?_)
  ·intro y0 y1 y2 y3
   unfold span_May.j2
   repeat' first
   | (with_reducible exact ih0 _ _ _ _ _ _)
   | (with_reducible exact ih1 _ _ _ _ _ _)
   | (with_reducible exact ih2 _ _ _ _)
   | (with_reducible exact LeO.refl _)
   | (with_reducible exact LeO.none _)
   | (with_reducible refine LeO.ite ?_ ?_)
   | (with_reducible refine LeO.bind ?_ (fun _ => ?_))
   | exact ih0 _ _ _ _ _ _
   | exact ih1 _ _ _ _ _ _
   | exact ih2 _ _ _ _
   | exact LeO.none _
   | refine LeO.ite ?_ ?_
   | refine LeO.bind ?_ (fun _ => ?_)
theorem span_May.mono : ∀ a0 a1 a2 k, LeO (span_May.f k a0 a1 a2) (span_May.f (k + 1) a0 a1 a2) := by
 intro a0 a1 a2 k
 obtain ⟨ih0, ih1, ih2⟩ := span_May.mono_l k
 unfold span_May.f
 repeat' first
   | (with_reducible exact ih0 _ _ _ _ _ _)
   | (with_reducible exact ih1 _ _ _ _ _ _)
   | (with_reducible exact ih2 _ _ _ _)
   | (with_reducible exact LeO.refl _)
   | (with_reducible exact LeO.none _)
   | (with_reducible refine LeO.ite ?_ ?_)
   | (with_reducible refine LeO.bind ?_ (fun _ => ?_))
   | exact ih0 _ _ _ _ _ _
   | exact ih1 _ _ _ _ _ _
   | exact ih2 _ _ _ _
   | exact LeO.none _
   | refine LeO.ite ?_ ?_
   | refine LeO.bind ?_ (fun _ => ?_)
set_option maxHeartbeats 8000000 in
set_option maxRecDepth 100000 in
theorem span_May.calls (k : Nat) (a0_0 : Int) (a0_1 : Int) (a0_2 : ByteArray) (r : Int) (w : World) (hT : Tabs w) (h : span_May.f k a0_0 a0_1 a0_2 = some r) :
  Calls Tryd.prog 84 #[.agg #[.int .i64 a0_0, .int .i64 a0_1, .string a0_2]] w fun e w' => e = .returned (.int .i64 r) ∧ Below w.heap.size w w' := by
 have HT := am hT
 clear hT
 have hu25 := Tryd.underlying25
 have hu138 := Tryd.underlying138
 have HB := am (Below.refl w.heap.size w)
 have H : ((span_of.f a0_0 a0_1 a0_2).bind fun bt111 => (if bt111.2.2 = true then (if bt111.1 = true then (if a0_1 < 0 then (span_May.j0 k true a0_0 a0_1 a0_2 bt111.1 bt111.2.1) else (span_May.j0 k (decide (a0_1 > 1048576)) a0_0 a0_1 a0_2 bt111.1 bt111.2.1)) else (span_May.j0 k false a0_0 a0_1 a0_2 bt111.1 bt111.2.1)) else (some 1))) = some r := h
 clear h
 replace H := Option.bind_eq_some_iff.mp H
 obtain ⟨⟨t111, t112, t113⟩, A20, H⟩ := H
 replace H : (if t113 = true then (if t111 = true then (if a0_1 < 0 then (span_May.j0 k true a0_0 a0_1 a0_2 t111 t112) else (span_May.j0 k (decide (a0_1 > 1048576)) a0_0 a0_1 a0_2 t111 t112)) else (span_May.j0 k false a0_0 a0_1 a0_2 t111 t112)) else (some 1)) = some r := H
 have A2 := am A20
 clear A20
 by_cases c3 : t113 = true
 ·subst c3
  have H1 : (if t111 = true then (if a0_1 < 0 then (span_May.j0 k true a0_0 a0_1 a0_2 t111 t112) else (span_May.j0 k (decide (a0_1 > 1048576)) a0_0 a0_1 a0_2 t111 t112)) else (span_May.j0 k false a0_0 a0_1 a0_2 t111 t112)) = some r := by rw [if_pos rfl] at H; exact H
  clear H
  have H := H1
  clear H1
  have HC4 := am H
  clear H
  go_enter Tryd.func84, Tryd.ntmps84
  go_upto_region 4 with (first | ((with_reducible refine gate_dst (N := 1) rfl ?_); refine box_event ?hg (N := 1) ?hd (cs := #[.int .i64 a0_0, .int .i64 a0_1, .string a0_2]) (t := 25) ?hr ?_; (case hd => rfl); (case hg => rfl); (case hr => first | (go_simp; done) | (go_simp; rfl)); intro gb110 hg w5 hbox hb; have n0_ := am (below_step bl hb); have n1_ := am (hbox); have n2_ := am ((gs : w.heap.size ≤ gb110)); have n3_ := am ((gs : w.heap.size ≤ gb110)); clear HB; have HB := n0_; have BK110 := n1_; have GW110 := n2_; have GE110 := n3_; clear n0_ n1_ n2_ n3_; clear hb hbox hg; have hcz6_0 : w5.cell? ⟨gb110, 0, none⟩ = some (.int .i64 a0_0) := (blk_cell BK110.out 0).trans rfl; have hcz6_1 : w5.cell? ⟨gb110, 1, none⟩ = some (.int .i64 a0_1) := (blk_cell BK110.out 1).trans rfl; have hcz6_2 : w5.cell? ⟨gb110, 2, none⟩ = some (.string a0_2) := (blk_cell BK110.out 2).trans rfl; have hfz6_0 := blk_frozen BK110.out 0; have hfz6_1 := blk_frozen BK110.out 1; have hfz6_2 := blk_frozen BK110.out 2) | ((with_reducible refine gate_callee (f := 85) rfl ?_); refine goesL_ (some 7) rfl rfl Tryd.func85 (by kernel_rfl) rfl #[.agg #[.int .i64 a0_0, .int .i64 a0_1, .string a0_2]] rfl ar ?_; (with_reducible refine (span_of.calls a0_0 a0_1 a0_2 t111 t112 true _ ?side1 A2.out).mono ?_); (case side1 => exact Tabs.below HT.out bl); rintro e w7 ⟨rfl, hb⟩; refine ⟨_, rfl, ?_⟩; have n0_ := am (blk_below (g := gb110) (o := .cells #[.int .i64 a0_0, .int .i64 a0_1, .string a0_2] 25 (0, 0)) (by refine bk ?_; exact BK110.out) hb); have n1_ := am (below_step bl hb); clear BK110; clear HB; have BK110 := n0_; have HB := n1_; clear n0_ n1_; (try clear hb); (try clear hb2); (try clear hk); (try clear hi)) | ((with_reducible refine gate_dst (N := 3) rfl ?_); refine box_event ?hg (N := 3) ?hd (cs := #[.bool false, .bool false]) (t := 138) ?hr ?_; (case hd => rfl); (case hg => rfl); (case hr => first | (go_simp; done) | (go_simp; rfl)); intro gb114 hg w8 hbox hb; have n0_ := am (blk_below (g := gb110) (o := .cells #[.int .i64 a0_0, .int .i64 a0_1, .string a0_2] 25 (0, 0)) (by refine bk ?_; exact BK110.out) hb); have n1_ := am (below_step bl hb); have n2_ := am (hbox); have n3_ := am ((gs : w.heap.size ≤ gb114)); have n4_ := am ((gs : w.heap.size ≤ gb114)); have n5_ := am ((by rw [hg]; exact Nat.ne_of_lt (blk_lt (g := gb110) (o := .cells #[.int .i64 a0_0, .int .i64 a0_1, .string a0_2] 25 (0, 0)) (by refine bk ?_; exact BK110.out)) : gb110 ≠ gb114)); have n6_ := am ((by rw [hg]; exact Nat.ne_of_gt (blk_lt (g := gb110) (o := .cells #[.int .i64 a0_0, .int .i64 a0_1, .string a0_2] 25 (0, 0)) (by refine bk ?_; exact BK110.out)) : gb114 ≠ gb110)); clear BK110; clear HB; have BK110 := n0_; have HB := n1_; have BK114 := n2_; have GW114 := n3_; have GE114 := n4_; have NB110_114 := n5_; have NB114_110 := n6_; clear n0_ n1_ n2_ n3_ n4_ n5_ n6_; clear hb hbox hg; have hnb9 := NB114_110.out; have hnc9 := NB110_114.out; have hcz10_0 : w8.cell? ⟨gb114, 0, none⟩ = some (.bool false) := (blk_cell BK114.out 0).trans rfl; have hcz10_1 : w8.cell? ⟨gb114, 1, none⟩ = some (.bool false) := (blk_cell BK114.out 1).trans rfl; have hfz10_0 := blk_frozen BK114.out 0; have hfz10_1 := blk_frozen BK114.out 1))
  (try simp only [Act.put, List.setIfInBounds_toArray, List.set_cons_zero, List.set_cons_succ])
  go_cut [13] (fun v13 wc => ∃ (kq : Nat) (x13_3 : Bool), v13 = .bool x13_3 ∧ Aside0 (span_May.j0 kq x13_3 a0_0 a0_1 a0_2 t111 t112 = some r) ∧ Aside0 (kq ≤ k) ∧ Aside0 (wc.heap[gb110]? = some (.cells #[.int .i64 a0_0, .int .i64 a0_1, .string a0_2] 25 (0, 0))) ∧ Aside0 (wc.heap[gb114]? = some (.cells #[.bool t111, .bool t112] 138 (0, 0))) ∧ Aside0 (Below w.heap.size w wc))
  case first =>
   have H := HC4.out
   clear HC4
   by_cases c11 : t111 = true
   ·subst c11
    have H1 : (if a0_1 < 0 then (span_May.j0 k true a0_0 a0_1 a0_2 true t112) else (span_May.j0 k (decide (a0_1 > 1048576)) a0_0 a0_1 a0_2 true t112)) = some r := by rw [if_pos rfl] at H; exact H
    clear H
    have H := H1
    clear H1
    by_cases c12 : a0_1 < 0
    ·rw [if_pos c12] at H
     have c12b0 : decide (a0_1 < 0) = true := decide_eq_true c12
     clear c12
     (first | rw [c12b0] | (simp only [i64_w, i32_w]; rw [c12b0]) | skip)
     have H' := am H
     clear H
     have hnb13 := NB114_110.out
     have hnc13 := NB110_114.out
     have hcz14_0 : w8.cell? ⟨gb114, 0, none⟩ = some (.bool false) := (blk_cell BK114.out 0).trans rfl
     have hcz14_1 : w8.cell? ⟨gb114, 1, none⟩ = some (.bool false) := (blk_cell BK114.out 1).trans rfl
     have hfz14_0 := blk_frozen BK114.out 0
     have hfz14_1 := blk_frozen BK114.out 1
     have hcz15_0 : w8.cell? ⟨gb110, 0, none⟩ = some (.int .i64 a0_0) := (blk_cell BK110.out 0).trans rfl
     have hcz15_1 : w8.cell? ⟨gb110, 1, none⟩ = some (.int .i64 a0_1) := (blk_cell BK110.out 1).trans rfl
     have hcz15_2 : w8.cell? ⟨gb110, 2, none⟩ = some (.string a0_2) := (blk_cell BK110.out 2).trans rfl
     have hfz15_0 := blk_frozen BK110.out 0
     have hfz15_1 := blk_frozen BK110.out 1
     have hfz15_2 := blk_frozen BK110.out 2
     go_wp2
     go_meet
     case rel => exact ⟨_, (true), pj, H', ⟨by first | omega | exact Nat.le_refl _⟩, ⟨by refine bk ?_; refine blk_far ?_ NB110_114.out _; refine bk ?_; refine blk_far ?_ NB110_114.out _; refine bk ?_; exact BK110.out⟩, ⟨by refine bk ?_; refine blk_put (cs := #[.bool true, .bool false]) ?_ 1 _ rfl; refine bk ?_; refine blk_put (cs := #[.bool false, .bool false]) ?_ 0 _ rfl; refine bk ?_; exact BK114.out⟩, ⟨bl⟩⟩
    ·rw [if_neg c12] at H
     have c12b0 : decide (a0_1 < 0) = false := decide_eq_false c12
     clear c12
     (first | rw [c12b0] | (simp only [i64_w, i32_w]; rw [c12b0]) | skip)
     have H' := am H
     clear H
     have hnb16 := NB114_110.out
     have hnc16 := NB110_114.out
     have hcz17_0 : w8.cell? ⟨gb114, 0, none⟩ = some (.bool false) := (blk_cell BK114.out 0).trans rfl
     have hcz17_1 : w8.cell? ⟨gb114, 1, none⟩ = some (.bool false) := (blk_cell BK114.out 1).trans rfl
     have hfz17_0 := blk_frozen BK114.out 0
     have hfz17_1 := blk_frozen BK114.out 1
     have hcz18_0 : w8.cell? ⟨gb110, 0, none⟩ = some (.int .i64 a0_0) := (blk_cell BK110.out 0).trans rfl
     have hcz18_1 : w8.cell? ⟨gb110, 1, none⟩ = some (.int .i64 a0_1) := (blk_cell BK110.out 1).trans rfl
     have hcz18_2 : w8.cell? ⟨gb110, 2, none⟩ = some (.string a0_2) := (blk_cell BK110.out 2).trans rfl
     have hfz18_0 := blk_frozen BK110.out 0
     have hfz18_1 := blk_frozen BK110.out 1
     have hfz18_2 := blk_frozen BK110.out 2
     go_wp2
     go_meet
     case rel => exact ⟨_, (decide (a0_1 > 1048576)), pj, H', ⟨by first | omega | exact Nat.le_refl _⟩, ⟨by refine bk ?_; refine blk_far ?_ NB110_114.out _; refine bk ?_; refine blk_far ?_ NB110_114.out _; refine bk ?_; exact BK110.out⟩, ⟨by refine bk ?_; refine blk_put (cs := #[.bool true, .bool false]) ?_ 1 _ rfl; refine bk ?_; refine blk_put (cs := #[.bool false, .bool false]) ?_ 0 _ rfl; refine bk ?_; exact BK114.out⟩, ⟨bl⟩⟩
   ·replace c11 := Bool.eq_false_iff.mpr c11
    subst c11
    have H1 : (span_May.j0 k false a0_0 a0_1 a0_2 false t112) = some r := by rw [if_neg (show ¬ (false = true) by decide)] at H; exact H
    clear H
    have H := H1
    clear H1
    have H' := am H
    clear H
    have hnb19 := NB114_110.out
    have hnc19 := NB110_114.out
    have hcz20_0 : w8.cell? ⟨gb114, 0, none⟩ = some (.bool false) := (blk_cell BK114.out 0).trans rfl
    have hcz20_1 : w8.cell? ⟨gb114, 1, none⟩ = some (.bool false) := (blk_cell BK114.out 1).trans rfl
    have hfz20_0 := blk_frozen BK114.out 0
    have hfz20_1 := blk_frozen BK114.out 1
    go_wp2
    go_meet
    case rel => exact ⟨_, (false), pj, H', ⟨by first | omega | exact Nat.le_refl _⟩, ⟨by refine bk ?_; refine blk_far ?_ NB110_114.out _; refine bk ?_; refine blk_far ?_ NB110_114.out _; refine bk ?_; exact BK110.out⟩, ⟨by refine bk ?_; refine blk_put (cs := #[.bool false, .bool false]) ?_ 1 _ rfl; refine bk ?_; refine blk_put (cs := #[.bool false, .bool false]) ?_ 0 _ rfl; refine bk ?_; exact BK114.out⟩, ⟨bl⟩⟩
  case rest =>
   clear HC4
   try clear c1
   try clear p2
   try clear c3
   try clear c8
   try clear c9
   try clear c11
   try clear c12
   try clear c12b0
   try clear c13
   try clear c16
   try clear c19
   try clear hcz10_0
   try clear hcz10_1
   try clear hcz14_0
   try clear hcz14_1
   try clear hcz15_0
   try clear hcz15_1
   try clear hcz15_2
   try clear hcz17_0
   try clear hcz17_1
   try clear hcz18_0
   try clear hcz18_1
   try clear hcz18_2
   try clear hcz20_0
   try clear hcz20_1
   try clear hcz6_0
   try clear hcz6_1
   try clear hcz6_2
   try clear hfz10_0
   try clear hfz10_1
   try clear hfz14_0
   try clear hfz14_1
   try clear hfz15_0
   try clear hfz15_1
   try clear hfz15_2
   try clear hfz17_0
   try clear hfz17_1
   try clear hfz18_0
   try clear hfz18_1
   try clear hfz18_2
   try clear hfz20_0
   try clear hfz20_1
   try clear hfz6_0
   try clear hfz6_1
   try clear hfz6_2
   obtain ⟨kq, x13_3, rfl, HA, HJ3, BK110, BK114, HB⟩ := hcut
   cases kq with
   | zero => exact absurd HA.out (by simp [span_May.j0])
   | succ kj3 =>
    have H := HA.out
    clear HA
    simp only [span_May.j0] at H
    have HC21 := am H
    clear H
    go_upto_if 13 with (fail)
    go_cut [13] (fun v13 wc => ∃ (kq : Nat) (x13_20 : Bool), v13 = .bool x13_20 ∧ Aside0 (span_May.j1 kq x13_20 a0_0 a0_1 a0_2 t111 t112 = some r) ∧ Aside0 (kq ≤ kj3) ∧ Aside0 (wc.heap[gb110]? = some (.cells #[.int .i64 a0_0, .int .i64 a0_1, .string a0_2] 25 (0, 0))) ∧ Aside0 (wc.heap[gb114]? = some (.cells #[.bool t111, .bool t112] 138 (0, 0))) ∧ Aside0 (Below w.heap.size w wc))
    case first =>
     have H := HC21.out
     clear HC21
     by_cases c22 : x13_3 = true
     ·subst c22
      have H1 : (span_May.j1 kj3 true a0_0 a0_1 a0_2 t111 t112) = some r := by rw [if_pos rfl] at H; exact H
      clear H
      have H := H1
      clear H1
      have H' := am H
      clear H
      go_wp2
      go_meet
      case rel => exact ⟨_, (true), pj, H', ⟨by have := HJ3.out; first | omega | exact Nat.le_refl _⟩, ⟨by refine bk ?_; exact BK110.out⟩, ⟨by refine bk ?_; exact BK114.out⟩, ⟨bl⟩⟩
     ·replace c22 := Bool.eq_false_iff.mpr c22
      subst c22
      have H1 : (if t111 = true then (span_May.j1 kj3 false a0_0 a0_1 a0_2 t111 t112) else (span_May.j1 kj3 (a0_1 != 0) a0_0 a0_1 a0_2 t111 t112)) = some r := by rw [if_neg (show ¬ (false = true) by decide)] at H; exact H
      clear H
      have H := H1
      clear H1
      by_cases c23 : t111 = true
      ·subst c23
       have H1 : (span_May.j1 kj3 false a0_0 a0_1 a0_2 true t112) = some r := by rw [if_pos rfl] at H; exact H
       clear H
       have H := H1
       clear H1
       have H' := am H
       clear H
       have hnb24 := NB114_110.out
       have hnc24 := NB110_114.out
       have hcz25_0 : wc.cell? ⟨gb114, 0, none⟩ = some (.bool true) := (blk_cell BK114.out 0).trans rfl
       have hcz25_1 : wc.cell? ⟨gb114, 1, none⟩ = some (.bool t112) := (blk_cell BK114.out 1).trans rfl
       have hfz25_0 := blk_frozen BK114.out 0
       have hfz25_1 := blk_frozen BK114.out 1
       go_wp2
       go_meet
       case rel => exact ⟨_, (false), pj, H', ⟨by have := HJ3.out; first | omega | exact Nat.le_refl _⟩, ⟨by refine bk ?_; exact BK110.out⟩, ⟨by refine bk ?_; exact BK114.out⟩, ⟨bl⟩⟩
      ·replace c23 := Bool.eq_false_iff.mpr c23
       subst c23
       have H1 : (span_May.j1 kj3 (a0_1 != 0) a0_0 a0_1 a0_2 false t112) = some r := by rw [if_neg (show ¬ (false = true) by decide)] at H; exact H
       clear H
       have H := H1
       clear H1
       have H' := am H
       clear H
       have hnb26 := NB114_110.out
       have hnc26 := NB110_114.out
       have hcz27_0 : wc.cell? ⟨gb114, 0, none⟩ = some (.bool false) := (blk_cell BK114.out 0).trans rfl
       have hcz27_1 : wc.cell? ⟨gb114, 1, none⟩ = some (.bool t112) := (blk_cell BK114.out 1).trans rfl
       have hfz27_0 := blk_frozen BK114.out 0
       have hfz27_1 := blk_frozen BK114.out 1
       have hcz28_0 : wc.cell? ⟨gb110, 0, none⟩ = some (.int .i64 a0_0) := (blk_cell BK110.out 0).trans rfl
       have hcz28_1 : wc.cell? ⟨gb110, 1, none⟩ = some (.int .i64 a0_1) := (blk_cell BK110.out 1).trans rfl
       have hcz28_2 : wc.cell? ⟨gb110, 2, none⟩ = some (.string a0_2) := (blk_cell BK110.out 2).trans rfl
       have hfz28_0 := blk_frozen BK110.out 0
       have hfz28_1 := blk_frozen BK110.out 1
       have hfz28_2 := blk_frozen BK110.out 2
       go_wp2
       go_meet
       case rel => exact ⟨_, ((a0_1 != 0)), pj, H', ⟨by have := HJ3.out; first | omega | exact Nat.le_refl _⟩, ⟨by refine bk ?_; exact BK110.out⟩, ⟨by refine bk ?_; exact BK114.out⟩, ⟨bl⟩⟩
    case rest =>
     clear HC21
     try clear c1
     try clear c2
     try clear p2
     try clear c3
     try clear c8
     try clear c9
     try clear c11
     try clear c12
     try clear c12b0
     try clear c13
     try clear c16
     try clear c19
     try clear c22
     try clear c23
     try clear c24
     try clear c26
     try clear hcz10_0
     try clear hcz10_1
     try clear hcz14_0
     try clear hcz14_1
     try clear hcz15_0
     try clear hcz15_1
     try clear hcz15_2
     try clear hcz17_0
     try clear hcz17_1
     try clear hcz18_0
     try clear hcz18_1
     try clear hcz18_2
     try clear hcz20_0
     try clear hcz20_1
     try clear hcz25_0
     try clear hcz25_1
     try clear hcz27_0
     try clear hcz27_1
     try clear hcz28_0
     try clear hcz28_1
     try clear hcz28_2
     try clear hcz6_0
     try clear hcz6_1
     try clear hcz6_2
     try clear hfz10_0
     try clear hfz10_1
     try clear hfz14_0
     try clear hfz14_1
     try clear hfz15_0
     try clear hfz15_1
     try clear hfz15_2
     try clear hfz17_0
     try clear hfz17_1
     try clear hfz18_0
     try clear hfz18_1
     try clear hfz18_2
     try clear hfz20_0
     try clear hfz20_1
     try clear hfz25_0
     try clear hfz25_1
     try clear hfz27_0
     try clear hfz27_1
     try clear hfz28_0
     try clear hfz28_1
     try clear hfz28_2
     try clear hfz6_0
     try clear hfz6_1
     try clear hfz6_2
     try clear p2
     obtain ⟨kq, x13_20, rfl, HA, HJ20, BK110, BK114, HB⟩ := hcut
     cases kq with
     | zero => exact absurd HA.out (by simp [span_May.j1])
     | succ kj20 =>
      have H := HA.out
      clear HA
      simp only [span_May.j1] at H
      by_cases c29 : x13_20 = true
      ·subst c29
       have H1 : (some 2) = some r := by rw [if_pos rfl] at H; exact H
       clear H
       have H := H1
       clear H1
       obtain rfl := Option.some.inj H
       simp only [Option.some.injEq, Prod.mk.injEq] at H
       obtain ⟨rfl⟩ := H
       go_wp2
       go_ret
       exact ⟨by first | rfl | (simp [errW_none, errW_some] <;> rfl) | (simp [*, errW_none, errW_some] <;> rfl), bl⟩
      ·replace c29 := Bool.eq_false_iff.mpr c29
       subst c29
       have H1 : (if t111 = true then (span_May.j2 kj20 (a0_2.toList != ([] : List UInt8)) a0_0 a0_1 a0_2) else (span_May.j2 kj20 false a0_0 a0_1 a0_2)) = some r := by rw [if_neg (show ¬ (false = true) by decide)] at H; exact H
       clear H
       have H := H1
       clear H1
       have HC30 := am H
       clear H
       go_upto_region 7 with (fail)
       go_cut [34] (fun v34 wc => ∃ (kq : Nat) (x34_29 : Bool), v34 = .bool x34_29 ∧ Aside0 (span_May.j2 kq x34_29 a0_0 a0_1 a0_2 = some r) ∧ Aside0 (kq ≤ kj20) ∧ Aside0 (wc.heap[gb110]? = some (.cells #[.int .i64 a0_0, .int .i64 a0_1, .string a0_2] 25 (0, 0))) ∧ Aside0 (wc.heap[gb114]? = some (.cells #[.bool t111, .bool t112] 138 (0, 0))) ∧ Aside0 (Below w.heap.size w wc))
       case first =>
        have H := HC30.out
        clear HC30
        by_cases c31 : t111 = true
        ·subst c31
         have H1 : (span_May.j2 kj20 (a0_2.toList != ([] : List UInt8)) a0_0 a0_1 a0_2) = some r := by rw [if_pos rfl] at H; exact H
         clear H
         have H := H1
         clear H1
         have H' := am H
         clear H
         have hnb32 := NB114_110.out
         have hnc32 := NB110_114.out
         have hcz33_0 : wc.cell? ⟨gb114, 0, none⟩ = some (.bool true) := (blk_cell BK114.out 0).trans rfl
         have hcz33_1 : wc.cell? ⟨gb114, 1, none⟩ = some (.bool t112) := (blk_cell BK114.out 1).trans rfl
         have hfz33_0 := blk_frozen BK114.out 0
         have hfz33_1 := blk_frozen BK114.out 1
         have hcz34_0 : wc.cell? ⟨gb110, 0, none⟩ = some (.int .i64 a0_0) := (blk_cell BK110.out 0).trans rfl
         have hcz34_1 : wc.cell? ⟨gb110, 1, none⟩ = some (.int .i64 a0_1) := (blk_cell BK110.out 1).trans rfl
         have hcz34_2 : wc.cell? ⟨gb110, 2, none⟩ = some (.string a0_2) := (blk_cell BK110.out 2).trans rfl
         have hfz34_0 := blk_frozen BK110.out 0
         have hfz34_1 := blk_frozen BK110.out 1
         have hfz34_2 := blk_frozen BK110.out 2
         go_wp2
         go_meet
         case rel => exact ⟨_, ((a0_2.toList != ([] : List UInt8))), pj, H', ⟨by have := HJ3.out; have := HJ20.out; first | omega | exact Nat.le_refl _⟩, ⟨by refine bk ?_; exact BK110.out⟩, ⟨by refine bk ?_; exact BK114.out⟩, ⟨bl⟩⟩
        ·replace c31 := Bool.eq_false_iff.mpr c31
         subst c31
         have H1 : (span_May.j2 kj20 false a0_0 a0_1 a0_2) = some r := by rw [if_neg (show ¬ (false = true) by decide)] at H; exact H
         clear H
         have H := H1
         clear H1
         have H' := am H
         clear H
         have hnb35 := NB114_110.out
         have hnc35 := NB110_114.out
         have hcz36_0 : wc.cell? ⟨gb114, 0, none⟩ = some (.bool false) := (blk_cell BK114.out 0).trans rfl
         have hcz36_1 : wc.cell? ⟨gb114, 1, none⟩ = some (.bool t112) := (blk_cell BK114.out 1).trans rfl
         have hfz36_0 := blk_frozen BK114.out 0
         have hfz36_1 := blk_frozen BK114.out 1
         go_wp2
         go_meet
         case rel => exact ⟨_, (false), pj, H', ⟨by have := HJ3.out; have := HJ20.out; first | omega | exact Nat.le_refl _⟩, ⟨by refine bk ?_; exact BK110.out⟩, ⟨by refine bk ?_; exact BK114.out⟩, ⟨bl⟩⟩
       case rest =>
        clear HC30
        try clear c1
        try clear c2
        try clear p2
        try clear c3
        try clear c8
        try clear c9
        try clear c11
        try clear c12
        try clear c12b0
        try clear c13
        try clear c16
        try clear c19
        try clear c22
        try clear c23
        try clear c24
        try clear c26
        try clear c29
        try clear c31
        try clear c32
        try clear c35
        try clear hcz10_0
        try clear hcz10_1
        try clear hcz14_0
        try clear hcz14_1
        try clear hcz15_0
        try clear hcz15_1
        try clear hcz15_2
        try clear hcz17_0
        try clear hcz17_1
        try clear hcz18_0
        try clear hcz18_1
        try clear hcz18_2
        try clear hcz20_0
        try clear hcz20_1
        try clear hcz25_0
        try clear hcz25_1
        try clear hcz27_0
        try clear hcz27_1
        try clear hcz28_0
        try clear hcz28_1
        try clear hcz28_2
        try clear hcz33_0
        try clear hcz33_1
        try clear hcz34_0
        try clear hcz34_1
        try clear hcz34_2
        try clear hcz36_0
        try clear hcz36_1
        try clear hcz6_0
        try clear hcz6_1
        try clear hcz6_2
        try clear hfz10_0
        try clear hfz10_1
        try clear hfz14_0
        try clear hfz14_1
        try clear hfz15_0
        try clear hfz15_1
        try clear hfz15_2
        try clear hfz17_0
        try clear hfz17_1
        try clear hfz18_0
        try clear hfz18_1
        try clear hfz18_2
        try clear hfz20_0
        try clear hfz20_1
        try clear hfz25_0
        try clear hfz25_1
        try clear hfz27_0
        try clear hfz27_1
        try clear hfz28_0
        try clear hfz28_1
        try clear hfz28_2
        try clear hfz33_0
        try clear hfz33_1
        try clear hfz34_0
        try clear hfz34_1
        try clear hfz34_2
        try clear hfz36_0
        try clear hfz36_1
        try clear hfz6_0
        try clear hfz6_1
        try clear hfz6_2
        try clear p2
        obtain ⟨kq, x34_29, rfl, HA, HJ29, BK110, BK114, HB⟩ := hcut
        cases kq with
        | zero => exact absurd HA.out (by simp [span_May.j2])
        | succ kj29 =>
         have H := HA.out
         clear HA
         simp only [span_May.j2] at H
         by_cases c37 : x34_29 = true
         ·subst c37
          have H1 : (some 3) = some r := by rw [if_pos rfl] at H; exact H
          clear H
          have H := H1
          clear H1
          obtain rfl := Option.some.inj H
          simp only [Option.some.injEq, Prod.mk.injEq] at H
          obtain ⟨rfl⟩ := H
          go_wp2
          go_ret
          exact ⟨by first | rfl | (simp [errW_none, errW_some] <;> rfl) | (simp [*, errW_none, errW_some] <;> rfl), bl⟩
         ·replace c37 := Bool.eq_false_iff.mpr c37
          subst c37
          have H1 : ((points_Valid.f a0_2).bind fun t115 => (if t115 = true then (some 0) else (some 3))) = some r := by rw [if_neg (show ¬ (false = true) by decide)] at H; exact H
          clear H
          have H := H1
          clear H1
          replace H := Option.bind_eq_some_iff.mp H
          obtain ⟨t115, A380, H⟩ := H
          replace H : (if t115 = true then (some 0) else (some 3)) = some r := H
          have A38 := am A380
          clear A380
          by_cases c39 : t115 = true
          ·subst c39
           have H1 : (some 0) = some r := by rw [if_pos rfl] at H; exact H
           clear H
           have H := H1
           clear H1
           obtain rfl := Option.some.inj H
           simp only [Option.some.injEq, Prod.mk.injEq] at H
           obtain ⟨rfl⟩ := H
           have hnb40 := NB110_114.out
           have hnc40 := NB114_110.out
           have hcz41_0 : wc.cell? ⟨gb110, 0, none⟩ = some (.int .i64 a0_0) := (blk_cell BK110.out 0).trans rfl
           have hcz41_1 : wc.cell? ⟨gb110, 1, none⟩ = some (.int .i64 a0_1) := (blk_cell BK110.out 1).trans rfl
           have hcz41_2 : wc.cell? ⟨gb110, 2, none⟩ = some (.string a0_2) := (blk_cell BK110.out 2).trans rfl
           have hfz41_0 := blk_frozen BK110.out 0
           have hfz41_1 := blk_frozen BK110.out 1
           have hfz41_2 := blk_frozen BK110.out 2
           go_wp2_with (first | ((with_reducible refine gate_callee (f := 41) rfl ?_); refine goesL_ (some 44) rfl rfl Tryd.func41 (by kernel_rfl) rfl #[.string a0_2] rfl ar ?_; (with_reducible refine (points_Valid.calls a0_2 true _ ?side1 A38.out).mono ?_); (case side1 => exact Tabs.below HT.out bl); rintro e w42 ⟨rfl, hb⟩; refine ⟨_, rfl, ?_⟩; have n0_ := am (blk_below (g := gb110) (o := .cells #[.int .i64 a0_0, .int .i64 a0_1, .string a0_2] 25 (0, 0)) (by refine bk ?_; exact BK110.out) hb); have n1_ := am (blk_below (g := gb114) (o := .cells #[.bool t111, .bool t112] 138 (0, 0)) (by refine bk ?_; exact BK114.out) hb); have n2_ := am (below_step bl hb); clear BK110; clear BK114; clear HB; have BK110 := n0_; have BK114 := n1_; have HB := n2_; clear n0_ n1_ n2_; (try clear hb); (try clear hb2); (try clear hk); (try clear hi)))
           go_ret
           exact ⟨by first | rfl | (simp [errW_none, errW_some] <;> rfl) | (simp [*, errW_none, errW_some] <;> rfl), bl⟩
          ·replace c39 := Bool.eq_false_iff.mpr c39
           subst c39
           have H1 : (some 3) = some r := by rw [if_neg (show ¬ (false = true) by decide)] at H; exact H
           clear H
           have H := H1
           clear H1
           obtain rfl := Option.some.inj H
           simp only [Option.some.injEq, Prod.mk.injEq] at H
           obtain ⟨rfl⟩ := H
           have hnb43 := NB110_114.out
           have hnc43 := NB114_110.out
           have hcz44_0 : wc.cell? ⟨gb110, 0, none⟩ = some (.int .i64 a0_0) := (blk_cell BK110.out 0).trans rfl
           have hcz44_1 : wc.cell? ⟨gb110, 1, none⟩ = some (.int .i64 a0_1) := (blk_cell BK110.out 1).trans rfl
           have hcz44_2 : wc.cell? ⟨gb110, 2, none⟩ = some (.string a0_2) := (blk_cell BK110.out 2).trans rfl
           have hfz44_0 := blk_frozen BK110.out 0
           have hfz44_1 := blk_frozen BK110.out 1
           have hfz44_2 := blk_frozen BK110.out 2
           go_wp2_with (first | ((with_reducible refine gate_callee (f := 41) rfl ?_); refine goesL_ (some 44) rfl rfl Tryd.func41 (by kernel_rfl) rfl #[.string a0_2] rfl ar ?_; (with_reducible refine (points_Valid.calls a0_2 false _ ?side1 A38.out).mono ?_); (case side1 => exact Tabs.below HT.out bl); rintro e w45 ⟨rfl, hb⟩; refine ⟨_, rfl, ?_⟩; have n0_ := am (blk_below (g := gb110) (o := .cells #[.int .i64 a0_0, .int .i64 a0_1, .string a0_2] 25 (0, 0)) (by refine bk ?_; exact BK110.out) hb); have n1_ := am (blk_below (g := gb114) (o := .cells #[.bool t111, .bool t112] 138 (0, 0)) (by refine bk ?_; exact BK114.out) hb); have n2_ := am (below_step bl hb); clear BK110; clear BK114; clear HB; have BK110 := n0_; have BK114 := n1_; have HB := n2_; clear n0_ n1_ n2_; (try clear hb); (try clear hb2); (try clear hk); (try clear hi)))
           go_ret
           exact ⟨by first | rfl | (simp [errW_none, errW_some] <;> rfl) | (simp [*, errW_none, errW_some] <;> rfl), bl⟩
 ·replace c3 := Bool.eq_false_iff.mpr c3
  subst c3
  have H1 : (some 1) = some r := by rw [if_neg (show ¬ (false = true) by decide)] at H; exact H
  clear H
  have H := H1
  clear H1
  obtain rfl := Option.some.inj H
  simp only [Option.some.injEq, Prod.mk.injEq] at H
  obtain ⟨rfl⟩ := H
  go_enter Tryd.func84, Tryd.ntmps84
  go_wp2_with (first | ((with_reducible refine gate_dst (N := 1) rfl ?_); refine box_event ?hg (N := 1) ?hd (cs := #[.int .i64 a0_0, .int .i64 a0_1, .string a0_2]) (t := 25) ?hr ?_; (case hd => rfl); (case hg => rfl); (case hr => first | (go_simp; done) | (go_simp; rfl)); intro gb110 hg w46 hbox hb; have n0_ := am (below_step bl hb); have n1_ := am (hbox); have n2_ := am ((gs : w.heap.size ≤ gb110)); have n3_ := am ((gs : w.heap.size ≤ gb110)); clear HB; have HB := n0_; have BK110 := n1_; have GW110 := n2_; have GE110 := n3_; clear n0_ n1_ n2_ n3_; clear hb hbox hg; have hcz47_0 : w46.cell? ⟨gb110, 0, none⟩ = some (.int .i64 a0_0) := (blk_cell BK110.out 0).trans rfl; have hcz47_1 : w46.cell? ⟨gb110, 1, none⟩ = some (.int .i64 a0_1) := (blk_cell BK110.out 1).trans rfl; have hcz47_2 : w46.cell? ⟨gb110, 2, none⟩ = some (.string a0_2) := (blk_cell BK110.out 2).trans rfl; have hfz47_0 := blk_frozen BK110.out 0; have hfz47_1 := blk_frozen BK110.out 1; have hfz47_2 := blk_frozen BK110.out 2) | ((with_reducible refine gate_callee (f := 85) rfl ?_); refine goesL_ (some 7) rfl rfl Tryd.func85 (by kernel_rfl) rfl #[.agg #[.int .i64 a0_0, .int .i64 a0_1, .string a0_2]] rfl ar ?_; (with_reducible refine (span_of.calls a0_0 a0_1 a0_2 t111 t112 false _ ?side1 A2.out).mono ?_); (case side1 => exact Tabs.below HT.out bl); rintro e w48 ⟨rfl, hb⟩; refine ⟨_, rfl, ?_⟩; have n0_ := am (blk_below (g := gb110) (o := .cells #[.int .i64 a0_0, .int .i64 a0_1, .string a0_2] 25 (0, 0)) (by refine bk ?_; exact BK110.out) hb); have n1_ := am (below_step bl hb); clear BK110; clear HB; have BK110 := n0_; have HB := n1_; clear n0_ n1_; (try clear hb); (try clear hb2); (try clear hk); (try clear hi)) | ((with_reducible refine gate_dst (N := 3) rfl ?_); refine box_event ?hg (N := 3) ?hd (cs := #[.bool false, .bool false]) (t := 138) ?hr ?_; (case hd => rfl); (case hg => rfl); (case hr => first | (go_simp; done) | (go_simp; rfl)); intro gb114 hg w49 hbox hb; have n0_ := am (blk_below (g := gb110) (o := .cells #[.int .i64 a0_0, .int .i64 a0_1, .string a0_2] 25 (0, 0)) (by refine bk ?_; exact BK110.out) hb); have n1_ := am (below_step bl hb); have n2_ := am (hbox); have n3_ := am ((gs : w.heap.size ≤ gb114)); have n4_ := am ((gs : w.heap.size ≤ gb114)); have n5_ := am ((by rw [hg]; exact Nat.ne_of_lt (blk_lt (g := gb110) (o := .cells #[.int .i64 a0_0, .int .i64 a0_1, .string a0_2] 25 (0, 0)) (by refine bk ?_; exact BK110.out)) : gb110 ≠ gb114)); have n6_ := am ((by rw [hg]; exact Nat.ne_of_gt (blk_lt (g := gb110) (o := .cells #[.int .i64 a0_0, .int .i64 a0_1, .string a0_2] 25 (0, 0)) (by refine bk ?_; exact BK110.out)) : gb114 ≠ gb110)); clear BK110; clear HB; have BK110 := n0_; have HB := n1_; have BK114 := n2_; have GW114 := n3_; have GE114 := n4_; have NB110_114 := n5_; have NB114_110 := n6_; clear n0_ n1_ n2_ n3_ n4_ n5_ n6_; clear hb hbox hg; have hnb50 := NB114_110.out; have hnc50 := NB110_114.out; have hcz51_0 : w49.cell? ⟨gb114, 0, none⟩ = some (.bool false) := (blk_cell BK114.out 0).trans rfl; have hcz51_1 : w49.cell? ⟨gb114, 1, none⟩ = some (.bool false) := (blk_cell BK114.out 1).trans rfl; have hfz51_0 := blk_frozen BK114.out 0; have hfz51_1 := blk_frozen BK114.out 1))
  go_ret
  exact ⟨by first | rfl | (simp [errW_none, errW_some] <;> rfl) | (simp [*, errW_none, errW_some] <;> rfl), bl⟩
def op_May.l0 : Nat → List (S25) → List (S25) → Int → Int → Option (Int)
 | 0, _, _, _, _ => none
 | k + 1, x0, x6, x7, x8 => if x8 < x7 then (if 0 ≤ x8 then (if x8 < (x6.length : Int) then ((span_May.f k ((rd_T25 x6 x8).f0) ((rd_T25 x6 x8).f1) ((rd_T25 x6 x8).f2)).bind fun t118 => (if t118 = 0 then (op_May.l0 k x0 x6 x7 (wrap64 (x8 + 1))) else (some t118))) else (none)) else (none)) else ((op_In.f x0).bind fun t119 => (if t119 > 1048576 then (some 4) else (some 0)))
def op_May.f (k : Nat) (l0 : List (S25)) : Option (Int) := op_May.l0 k l0 l0 (l0.length : Int) 0
theorem op_May.mono_l : ∀ k, (∀ y0 y1 y2 y3, LeO (op_May.l0 k y0 y1 y2 y3) (op_May.l0 (k + 1) y0 y1 y2 y3))
 | 0 => fun _ _ _ _ r h => by simp [op_May.l0] at h
 | k + 1 => by
  have ih0 := op_May.mono_l k
  ·intro y0 y1 y2 y3
   unfold op_May.l0
   repeat' first
   | (with_reducible exact ih0 _ _ _ _)
   | (with_reducible exact span_May.mono _ _ _ _)
   | (with_reducible exact LeO.refl _)
   | (with_reducible exact LeO.none _)
   | (with_reducible refine LeO.ite ?_ ?_)
   | (with_reducible refine LeO.bind ?_ (fun _ => ?_))
   | exact ih0 _ _ _ _
   | exact span_May.mono _ _ _ _
   | exact LeO.none _
   | refine LeO.ite ?_ ?_
   | refine LeO.bind ?_ (fun _ => ?_)
theorem op_May.mono : ∀ a0 k, LeO (op_May.f k a0) (op_May.f (k + 1) a0) := by
 intro a0 k
 have ih0 := op_May.mono_l k
 unfold op_May.f
 repeat' first
   | (with_reducible exact ih0 _ _ _ _)
   | (with_reducible exact span_May.mono _ _ _ _)
   | (with_reducible exact LeO.refl _)
   | (with_reducible exact LeO.none _)
   | (with_reducible refine LeO.ite ?_ ?_)
   | (with_reducible refine LeO.bind ?_ (fun _ => ?_))
   | exact ih0 _ _ _ _
   | exact span_May.mono _ _ _ _
   | exact LeO.none _
   | refine LeO.ite ?_ ?_
   | refine LeO.bind ?_ (fun _ => ?_)
set_option maxHeartbeats 8000000 in
set_option maxRecDepth 100000 in
theorem op_May.calls (k : Nat) (A0 : Option Addr) (c0 : Nat) (l0 : List (S25)) (r : Int) (w : World) (hr0 : Kd.C k25 w A0 l0.length l0) (hc0 : l0.length ≤ c0) (hT : Tabs w) (h : op_May.f k l0 = some r) :
  Calls Tryd.prog 46 #[.slice A0 l0.length c0] w fun e w' => e = .returned (.int .i64 r) ∧ Below w.heap.size w w' := by
 have HT := am hT
 clear hT
 have hu25 := Tryd.underlying25
 have HR0 := am hr0
 have HC0 := am hc0
 clear hr0 hc0
 have HB := am (Below.refl w.heap.size w)
 have H : (op_May.l0 k l0 l0 (l0.length : Int) 0) = some r := h
 clear h
 have H' := am H
 clear H
 go_enter Tryd.func46, Tryd.ntmps46
 go_wp2
 go_loopg [8] k (fun kq v8 w' => ∃ (x8_1 : Int), v8 = .int .i64 x8_1 ∧ Aside0 (op_May.l0 kq l0 l0 (l0.length : Int) x8_1 = some r) ∧ Aside0 (kq ≤ k) ∧ Aside0 (Below w.heap.size w w'))
 case atStart => exact ⟨(0), pj, H', ⟨Nat.le_refl _⟩, ⟨bl⟩⟩
 case round =>
  clear H'
  obtain ⟨x8_1, rfl, HA, HK1, HB⟩ := hrel
  cases gk with
  | zero => exact absurd HA.out (by simp [op_May.l0])
  | succ k1 =>
   have H := HA.out
   clear HA
   simp only [op_May.l0] at H
   by_cases c2 : x8_1 < (l0.length : Int)
   ·rw [if_pos c2] at H
    have c2b0 : decide (x8_1 < (l0.length : Int)) = true := decide_eq_true c2
    clear c2
    by_cases c3 : 0 ≤ x8_1
    ·rw [if_pos c3] at H
     have c3b0 : decide (0 ≤ x8_1) = true := decide_eq_true c3
     clear c3
     by_cases c4 : x8_1 < (l0.length : Int)
     ·rw [if_pos c4] at H
      have c4b0 : decide (x8_1 < (l0.length : Int)) = true := decide_eq_true c4
      clear c4
      replace H := Option.bind_eq_some_iff.mp H
      obtain ⟨t118, A50, H⟩ := H
      replace H : (if t118 = 0 then (op_May.l0 k1 l0 l0 (l0.length : Int) (wrap64 (x8_1 + 1))) else (some t118)) = some r := H
      have A5 := am A50
      clear A50
      by_cases c6 : t118 = 0
      ·rw [if_pos c6] at H
       have c6b0 : (t118 == 0) = true := beq_iff_eq.mpr c6
       have c6b1 : (t118 != 0) = false := bne_eq_false_iff_eq.mpr c6
       clear c6
       have H' := am H
       clear H
       have p116 : 0 ≤ (x8_1 : Int) := of_decide_eq_true as0
       have q116 : x8_1 < (l0.length : Int) := of_decide_eq_true as0
       obtain ⟨ad116, e116, hx116_0, hx116_1, hx116_2⟩ := at_T25 HR0.out x8_1 p116 q116
       cases e116
       replace hx116_0 := (HB.out.cell (World.block_lt_of_cell? w _ hx116_0)).trans hx116_0
       replace hx116_1 := (HB.out.cell (World.block_lt_of_cell? w _ hx116_1)).trans hx116_1
       replace hx116_2 := (HB.out.cell (World.block_lt_of_cell? w _ hx116_2)).trans hx116_2
       replace p116 := eq_true p116
       replace q116 := eq_true q116
       go_wp2_with (first | ((with_reducible refine gate_dst (N := 4) rfl ?_); refine box_event ?hg (N := 4) ?hd (cs := #[.int .i64 0, .int .i64 0, .string (⟨#[]⟩ : ByteArray)]) (t := 25) ?hr ?_; (case hd => rfl); (case hg => rfl); (case hr => first | (go_simp; done) | (go_simp; rfl)); intro gb117 hg w7 hbox hb; have n0_ := am (below_step bl hb); have n1_ := am (hbox); have n2_ := am ((gs : w.heap.size ≤ gb117)); have n3_ := am ((gs : w.heap.size ≤ gb117)); clear HB; have HB := n0_; have BK117 := n1_; have GW117 := n2_; have GE117 := n3_; clear n0_ n1_ n2_ n3_; clear hb hbox hg; have hcz8_0 : w7.cell? ⟨gb117, 0, none⟩ = some (.int .i64 0) := (blk_cell BK117.out 0).trans rfl; have hcz8_1 : w7.cell? ⟨gb117, 1, none⟩ = some (.int .i64 0) := (blk_cell BK117.out 1).trans rfl; have hcz8_2 : w7.cell? ⟨gb117, 2, none⟩ = some (.string (⟨#[]⟩ : ByteArray)) := (blk_cell BK117.out 2).trans rfl; have hfz8_0 := blk_frozen BK117.out 0; have hfz8_1 := blk_frozen BK117.out 1; have hfz8_2 := blk_frozen BK117.out 2) | ((with_reducible refine gate_callee (f := 84) rfl ?_); refine goesL_ (some 13) rfl rfl Tryd.func84 (by kernel_rfl) rfl #[.agg #[.int .i64 ((rd_T25 l0 x8_1).f0), .int .i64 ((rd_T25 l0 x8_1).f1), .string ((rd_T25 l0 x8_1).f2)]] rfl ar ?_; (with_reducible refine (span_May.calls k1 ((rd_T25 l0 x8_1).f0) ((rd_T25 l0 x8_1).f1) ((rd_T25 l0 x8_1).f2) t118 _ ?side1 A5.out).mono ?_); (case side1 => exact Tabs.below HT.out bl); rintro e w9 ⟨rfl, hb⟩; refine ⟨_, rfl, ?_⟩; have n0_ := am (blk_below (g := gb117) (o := .cells #[.int .i64 ((rd_T25 l0 x8_1).f0), .int .i64 ((rd_T25 l0 x8_1).f1), .string ((rd_T25 l0 x8_1).f2)] 25 (0, 0)) (by refine bk ?_; refine blk_put (cs := #[.int .i64 ((rd_T25 l0 x8_1).f0), .int .i64 ((rd_T25 l0 x8_1).f1), .string (⟨#[]⟩ : ByteArray)]) ?_ 2 _ rfl; refine bk ?_; refine blk_put (cs := #[.int .i64 ((rd_T25 l0 x8_1).f0), .int .i64 0, .string (⟨#[]⟩ : ByteArray)]) ?_ 1 _ rfl; refine bk ?_; refine blk_put (cs := #[.int .i64 0, .int .i64 0, .string (⟨#[]⟩ : ByteArray)]) ?_ 0 _ rfl; refine bk ?_; exact BK117.out) hb); have n1_ := am (below_step bl hb); clear BK117; clear HB; have BK117 := n0_; have HB := n1_; clear n0_ n1_; (try clear hb); (try clear hb2); (try clear hk); (try clear hi)))
       go_roundg k1
       case measure => have := HK1.out; omega
       case rel => exact ⟨(wrap64 (x8_1 + 1)), pj, H', ⟨by have := HK1.out; omega⟩, ⟨bl⟩⟩
      ·rw [if_neg c6] at H
       have c6b0 : (t118 == 0) = false := beq_eq_false_iff_ne.mpr c6
       have c6b1 : (t118 != 0) = true := bne_iff_ne.mpr c6
       obtain rfl := Option.some.inj H
       simp only [Option.some.injEq, Prod.mk.injEq] at H
       obtain ⟨rfl⟩ := H
       have p116 : 0 ≤ (x8_1 : Int) := of_decide_eq_true as0
       have q116 : x8_1 < (l0.length : Int) := of_decide_eq_true as0
       obtain ⟨ad116, e116, hx116_0, hx116_1, hx116_2⟩ := at_T25 HR0.out x8_1 p116 q116
       cases e116
       replace hx116_0 := (HB.out.cell (World.block_lt_of_cell? w _ hx116_0)).trans hx116_0
       replace hx116_1 := (HB.out.cell (World.block_lt_of_cell? w _ hx116_1)).trans hx116_1
       replace hx116_2 := (HB.out.cell (World.block_lt_of_cell? w _ hx116_2)).trans hx116_2
       replace p116 := eq_true p116
       replace q116 := eq_true q116
       go_wp2_with (first | ((with_reducible refine gate_dst (N := 4) rfl ?_); refine box_event ?hg (N := 4) ?hd (cs := #[.int .i64 0, .int .i64 0, .string (⟨#[]⟩ : ByteArray)]) (t := 25) ?hr ?_; (case hd => rfl); (case hg => rfl); (case hr => first | (go_simp; done) | (go_simp; rfl)); intro gb117 hg w10 hbox hb; have n0_ := am (below_step bl hb); have n1_ := am (hbox); have n2_ := am ((gs : w.heap.size ≤ gb117)); have n3_ := am ((gs : w.heap.size ≤ gb117)); clear HB; have HB := n0_; have BK117 := n1_; have GW117 := n2_; have GE117 := n3_; clear n0_ n1_ n2_ n3_; clear hb hbox hg; have hcz11_0 : w10.cell? ⟨gb117, 0, none⟩ = some (.int .i64 0) := (blk_cell BK117.out 0).trans rfl; have hcz11_1 : w10.cell? ⟨gb117, 1, none⟩ = some (.int .i64 0) := (blk_cell BK117.out 1).trans rfl; have hcz11_2 : w10.cell? ⟨gb117, 2, none⟩ = some (.string (⟨#[]⟩ : ByteArray)) := (blk_cell BK117.out 2).trans rfl; have hfz11_0 := blk_frozen BK117.out 0; have hfz11_1 := blk_frozen BK117.out 1; have hfz11_2 := blk_frozen BK117.out 2) | ((with_reducible refine gate_callee (f := 84) rfl ?_); refine goesL_ (some 13) rfl rfl Tryd.func84 (by kernel_rfl) rfl #[.agg #[.int .i64 ((rd_T25 l0 x8_1).f0), .int .i64 ((rd_T25 l0 x8_1).f1), .string ((rd_T25 l0 x8_1).f2)]] rfl ar ?_; (with_reducible refine (span_May.calls k1 ((rd_T25 l0 x8_1).f0) ((rd_T25 l0 x8_1).f1) ((rd_T25 l0 x8_1).f2) t118 _ ?side1 A5.out).mono ?_); (case side1 => exact Tabs.below HT.out bl); rintro e w12 ⟨rfl, hb⟩; refine ⟨_, rfl, ?_⟩; have n0_ := am (blk_below (g := gb117) (o := .cells #[.int .i64 ((rd_T25 l0 x8_1).f0), .int .i64 ((rd_T25 l0 x8_1).f1), .string ((rd_T25 l0 x8_1).f2)] 25 (0, 0)) (by refine bk ?_; refine blk_put (cs := #[.int .i64 ((rd_T25 l0 x8_1).f0), .int .i64 ((rd_T25 l0 x8_1).f1), .string (⟨#[]⟩ : ByteArray)]) ?_ 2 _ rfl; refine bk ?_; refine blk_put (cs := #[.int .i64 ((rd_T25 l0 x8_1).f0), .int .i64 0, .string (⟨#[]⟩ : ByteArray)]) ?_ 1 _ rfl; refine bk ?_; refine blk_put (cs := #[.int .i64 0, .int .i64 0, .string (⟨#[]⟩ : ByteArray)]) ?_ 0 _ rfl; refine bk ?_; exact BK117.out) hb); have n1_ := am (below_step bl hb); clear BK117; clear HB; have BK117 := n0_; have HB := n1_; clear n0_ n1_; (try clear hb); (try clear hb2); (try clear hk); (try clear hi)))
       go_ret
       exact ⟨by first | rfl | (simp [errW_none, errW_some] <;> rfl) | (simp [*, errW_none, errW_some] <;> rfl), bl⟩
     ·rw [if_neg c4] at H
      exact absurd H (by simp)
    ·rw [if_neg c3] at H
     exact absurd H (by simp)
   ·rw [if_neg c2] at H
    have c2b0 : decide (x8_1 < (l0.length : Int)) = false := decide_eq_false c2
    clear c2
    replace H := Option.bind_eq_some_iff.mp H
    obtain ⟨t119, A130, H⟩ := H
    replace H : (if t119 > 1048576 then (some 4) else (some 0)) = some r := H
    have A13 := am A130
    clear A130
    by_cases c14 : t119 > 1048576
    ·rw [if_pos c14] at H
     have c14b0 : decide (1048576 < t119) = true := decide_eq_true c14
     clear c14
     obtain rfl := Option.some.inj H
     simp only [Option.some.injEq, Prod.mk.injEq] at H
     obtain ⟨rfl⟩ := H
     go_wp2_with (first | ((with_reducible refine gate_callee (f := 20) rfl ?_); refine goesL_ (some 19) rfl rfl Tryd.func20 (by kernel_rfl) rfl #[.slice A0 l0.length c0] rfl ar ?_; (with_reducible refine (op_In.calls _ _ l0 t119 _ ?side1 ?side2 ?side3 A13.out).mono ?_); (case side1 => repeat (first | exact (Kd.C_below HR0.out HB.out) | (with_reducible refine Kd.C_alloc ?_ _) | (with_reducible refine Kd.C_drewN ?_ _) | (with_reducible refine Kd.C_drew ?_))); (case side2 => exact HC0.out); (case side3 => exact Tabs.below HT.out bl); rintro e w15 ⟨rfl, hb⟩; refine ⟨_, rfl, ?_⟩; have n0_ := am (below_step bl hb); clear HB; have HB := n0_; clear n0_; (try clear hb); (try clear hb2); (try clear hk); (try clear hi)))
     go_ret
     exact ⟨by first | rfl | (simp [errW_none, errW_some] <;> rfl) | (simp [*, errW_none, errW_some] <;> rfl), bl⟩
    ·rw [if_neg c14] at H
     have c14b0 : decide (1048576 < t119) = false := decide_eq_false c14
     clear c14
     obtain rfl := Option.some.inj H
     simp only [Option.some.injEq, Prod.mk.injEq] at H
     obtain ⟨rfl⟩ := H
     go_wp2_with (first | ((with_reducible refine gate_callee (f := 20) rfl ?_); refine goesL_ (some 19) rfl rfl Tryd.func20 (by kernel_rfl) rfl #[.slice A0 l0.length c0] rfl ar ?_; (with_reducible refine (op_In.calls _ _ l0 t119 _ ?side1 ?side2 ?side3 A13.out).mono ?_); (case side1 => repeat (first | exact (Kd.C_below HR0.out HB.out) | (with_reducible refine Kd.C_alloc ?_ _) | (with_reducible refine Kd.C_drewN ?_ _) | (with_reducible refine Kd.C_drew ?_))); (case side2 => exact HC0.out); (case side3 => exact Tabs.below HT.out bl); rintro e w16 ⟨rfl, hb⟩; refine ⟨_, rfl, ?_⟩; have n0_ := am (below_step bl hb); clear HB; have HB := n0_; clear n0_; (try clear hb); (try clear hb2); (try clear hk); (try clear hi)))
     go_ret
     exact ⟨by first | rfl | (simp [errW_none, errW_some] <;> rfl) | (simp [*, errW_none, errW_some] <;> rfl), bl⟩
def points_Count.f (a0 : ByteArray) : Option Int := if a0.size < 9223372036854775807 then some (countT a0) else none
def points_Count.J (s : ByteArray) (B : Nat) (w0 : World) (k : Nat) (wr : World) : Prop :=
 (∃ b, k + Lib.runeCountFrom s b (posT s k) = Lib.runeCount s ∧ s.size ≤ posT s k + b) ∧ k ≤ Lib.runeCount s ∧ Below B w0 wr
theorem points_Count.start (w1 : World) (s : ByteArray) : (w1.iter s 0).heap[w1.heap.size]? = some (.stringIter s (posT s 0)) := by
 show (w1.heap.push _)[w1.heap.size]? = _
 rw [Array.getElem?_push_size]; rfl
set_option maxHeartbeats 8000000 in
set_option maxRecDepth 100000 in
theorem points_Count.calls (a0 : ByteArray) (r : Int) (w : World) (hT : Tabs w) (h : points_Count.f a0 = some r) :
  Calls Tryd.prog 10 #[.string a0] w fun e w' => e = .returned (.int .i64 r) ∧ Below w.heap.size w w' := by
 unfold points_Count.f at h
 by_cases c : a0.size < 9223372036854775807
 ·rw [if_pos c] at h
  obtain rfl := Option.some.inj h
  clear h
  have hv := points_Valid.calls a0 (validT a0) w hT (by unfold points_Valid.f; rw [if_pos c])
  have HV := am hv
  clear hv
  have HS := am c
  by_cases v : validT a0 = true
  ·have HR : Aside0 (countT a0 = (Lib.runeCount a0 : Int)) := ⟨by unfold countT; rw [if_pos v]⟩
   rw [HR.out]
   rw [v] at HV
   clear v HR
   go_enter Tryd.func10, Tryd.ntmps10
   go_wp2_with (go_at_call 41; (with_reducible refine (HV.out).mono ?_); rintro e w1 ⟨rfl, hb⟩)
   have HB := am hb
   clear hb
   go_loopw [3] (fun v3 wr => ∃ k : Nat, v3 = .int .i64 k ∧ wr.heap[w1.heap.size]? = some (.stringIter a0 (posT a0 k)) ∧ Aside0 (points_Count.J a0 w.heap.size w k wr)) (fun _ wr => a0.size - wr.iterPos w1.heap.size)
   case atStart => exact ⟨0, rfl, points_Count.start w1 a0, ⟨⟨a0.size, by simp [posT, Lib.runeCount], by simp [posT]⟩, Nat.zero_le _, HB.out.alloc HB.out.size _⟩⟩
   case round =>
    obtain ⟨k, rfl, hit, HJ⟩ := hrel
    have HI := am hit
    have hcnt := runeCount_lt a0
    have hsz := HS.out
    by_cases hp : posT a0 k < a0.size
    ·have hnx : ∀ ty, (Instr.next (.pointer (some ⟨w1.heap.size, 0, none⟩)) true ty).run Tryd.prog wr = _ := fun ty => Lib.run_next_any_at wr w1.heap.size a0 (posT a0 k) ty hit hp
     have hk := HJ.out.2.1
     clear hit
     go_wp2
     have hwd := Lib.decode_width_pos a0 (posT a0 k) hp
     obtain ⟨⟨b, j1, j2⟩, j3, j4⟩ := HJ.out
     have hj := runeCount_from a0 k b j1 j2 hp
     have e : posT a0 (k + 1) = posT a0 k + (Utf8.decode a0 (posT a0 k)).2 := by rw [posT, if_pos hp]
     go_roundw
     case rel =>
      exact ⟨k + 1, by go_num, by rw [e]; exact Lib.iterAt_heap _ _ _ _ _ HI.out, ⟨⟨⟨b - 1, hj.1, hj.2⟩, by omega, Lib.below_iterAt j4 HB.out.size _ _⟩⟩⟩
     case measure =>
      have h1 : wr.iterPos w1.heap.size = posT a0 k := by simp [World.iterPos, HI.out]
      rw [h1]
      simp [World.iterPos, Lib.iterAt_heap _ _ _ _ _ HI.out]
      omega
    ·have hnx : ∀ ty, (Instr.next (.pointer (some ⟨w1.heap.size, 0, none⟩)) true ty).run Tryd.prog wr = _ := fun ty => Lib.run_next_end_at wr w1.heap.size a0 (posT a0 k) ty hit hp
     obtain ⟨⟨b, j1, j2⟩, j3, j4⟩ := HJ.out
     rw [Lib.runeCountFrom_end a0 b _ hp, Nat.add_zero] at j1
     have J1 := am j1
     clear hit j1
     go_wp2
     go_ret
     exact ⟨by rw [J1.out]; rfl, j4⟩
  ·have v' : validT a0 = false := by simpa using v
   have HR : Aside0 (countT a0 = -1) := ⟨by unfold countT; rw [if_neg v]⟩
   rw [HR.out]
   rw [v'] at HV
   clear v v' HR
   go_enter Tryd.func10, Tryd.ntmps10
   go_wp2_with (go_at_call 41; (with_reducible refine (HV.out).mono ?_); rintro e w1 ⟨rfl, hb⟩)
   go_ret
   exact ⟨rfl, hb⟩
 ·rw [if_neg c] at h; cases h
def span_Out.f (a0_0 : Int) (a0_1 : Int) (a0_2 : ByteArray) : Option (Int) := (span_of.f a0_0 a0_1 a0_2).bind fun bt121 => (if bt121.2.1 = true then (some a0_1) else (if a0_0 = 2 then ((points_Count.f a0_2).bind fun t125 => (some (mx t125 0))) else (some 0)))
set_option maxHeartbeats 8000000 in
set_option maxRecDepth 100000 in
theorem span_Out.calls (a0_0 : Int) (a0_1 : Int) (a0_2 : ByteArray) (r : Int) (w : World) (hT : Tabs w) (h : span_Out.f a0_0 a0_1 a0_2 = some r) :
  Calls Tryd.prog 48 #[.agg #[.int .i64 a0_0, .int .i64 a0_1, .string a0_2]] w fun e w' => e = .returned (.int .i64 r) ∧ Below w.heap.size w w' := by
 have HT := am hT
 clear hT
 have hu25 := Tryd.underlying25
 have hu138 := Tryd.underlying138
 have HB := am (Below.refl w.heap.size w)
 have H : ((span_of.f a0_0 a0_1 a0_2).bind fun bt121 => (if bt121.2.1 = true then (some a0_1) else (if a0_0 = 2 then ((points_Count.f a0_2).bind fun t125 => (some (mx t125 0))) else (some 0)))) = some r := h
 clear h
 replace H := Option.bind_eq_some_iff.mp H
 obtain ⟨⟨t121, t122, t123⟩, A20, H⟩ := H
 replace H : (if t122 = true then (some a0_1) else (if a0_0 = 2 then ((points_Count.f a0_2).bind fun t125 => (some (mx t125 0))) else (some 0))) = some r := H
 have A2 := am A20
 clear A20
 by_cases c3 : t122 = true
 ·subst c3
  have H1 : (some a0_1) = some r := by rw [if_pos rfl] at H; exact H
  clear H
  have H := H1
  clear H1
  obtain rfl := Option.some.inj H
  simp only [Option.some.injEq, Prod.mk.injEq] at H
  obtain ⟨rfl⟩ := H
  go_enter Tryd.func48, Tryd.ntmps48
  go_wp2_with (first | ((with_reducible refine gate_dst (N := 1) rfl ?_); refine box_event ?hg (N := 1) ?hd (cs := #[.int .i64 a0_0, .int .i64 a0_1, .string a0_2]) (t := 25) ?hr ?_; (case hd => rfl); (case hg => rfl); (case hr => first | (go_simp; done) | (go_simp; rfl)); intro gb120 hg w4 hbox hb; have n0_ := am (below_step bl hb); have n1_ := am (hbox); have n2_ := am ((gs : w.heap.size ≤ gb120)); have n3_ := am ((gs : w.heap.size ≤ gb120)); clear HB; have HB := n0_; have BK120 := n1_; have GW120 := n2_; have GE120 := n3_; clear n0_ n1_ n2_ n3_; clear hb hbox hg; have hcz5_0 : w4.cell? ⟨gb120, 0, none⟩ = some (.int .i64 a0_0) := (blk_cell BK120.out 0).trans rfl; have hcz5_1 : w4.cell? ⟨gb120, 1, none⟩ = some (.int .i64 a0_1) := (blk_cell BK120.out 1).trans rfl; have hcz5_2 : w4.cell? ⟨gb120, 2, none⟩ = some (.string a0_2) := (blk_cell BK120.out 2).trans rfl; have hfz5_0 := blk_frozen BK120.out 0; have hfz5_1 := blk_frozen BK120.out 1; have hfz5_2 := blk_frozen BK120.out 2) | ((with_reducible refine gate_callee (f := 85) rfl ?_); refine goesL_ (some 7) rfl rfl Tryd.func85 (by kernel_rfl) rfl #[.agg #[.int .i64 a0_0, .int .i64 a0_1, .string a0_2]] rfl ar ?_; (with_reducible refine (span_of.calls a0_0 a0_1 a0_2 t121 true t123 _ ?side1 A2.out).mono ?_); (case side1 => exact Tabs.below HT.out bl); rintro e w6 ⟨rfl, hb⟩; refine ⟨_, rfl, ?_⟩; have n0_ := am (blk_below (g := gb120) (o := .cells #[.int .i64 a0_0, .int .i64 a0_1, .string a0_2] 25 (0, 0)) (by refine bk ?_; exact BK120.out) hb); have n1_ := am (below_step bl hb); clear BK120; clear HB; have BK120 := n0_; have HB := n1_; clear n0_ n1_; (try clear hb); (try clear hb2); (try clear hk); (try clear hi)) | ((with_reducible refine gate_dst (N := 3) rfl ?_); refine box_event ?hg (N := 3) ?hd (cs := #[.bool false, .bool false]) (t := 138) ?hr ?_; (case hd => rfl); (case hg => rfl); (case hr => first | (go_simp; done) | (go_simp; rfl)); intro gb124 hg w7 hbox hb; have n0_ := am (blk_below (g := gb120) (o := .cells #[.int .i64 a0_0, .int .i64 a0_1, .string a0_2] 25 (0, 0)) (by refine bk ?_; exact BK120.out) hb); have n1_ := am (below_step bl hb); have n2_ := am (hbox); have n3_ := am ((gs : w.heap.size ≤ gb124)); have n4_ := am ((gs : w.heap.size ≤ gb124)); have n5_ := am ((by rw [hg]; exact Nat.ne_of_lt (blk_lt (g := gb120) (o := .cells #[.int .i64 a0_0, .int .i64 a0_1, .string a0_2] 25 (0, 0)) (by refine bk ?_; exact BK120.out)) : gb120 ≠ gb124)); have n6_ := am ((by rw [hg]; exact Nat.ne_of_gt (blk_lt (g := gb120) (o := .cells #[.int .i64 a0_0, .int .i64 a0_1, .string a0_2] 25 (0, 0)) (by refine bk ?_; exact BK120.out)) : gb124 ≠ gb120)); clear BK120; clear HB; have BK120 := n0_; have HB := n1_; have BK124 := n2_; have GW124 := n3_; have GE124 := n4_; have NB120_124 := n5_; have NB124_120 := n6_; clear n0_ n1_ n2_ n3_ n4_ n5_ n6_; clear hb hbox hg; have hnb8 := NB124_120.out; have hnc8 := NB120_124.out; have hcz9_0 : w7.cell? ⟨gb124, 0, none⟩ = some (.bool false) := (blk_cell BK124.out 0).trans rfl; have hcz9_1 : w7.cell? ⟨gb124, 1, none⟩ = some (.bool false) := (blk_cell BK124.out 1).trans rfl; have hfz9_0 := blk_frozen BK124.out 0; have hfz9_1 := blk_frozen BK124.out 1; have hcz10_0 : w7.cell? ⟨gb120, 0, none⟩ = some (.int .i64 a0_0) := (blk_cell BK120.out 0).trans rfl; have hcz10_1 : w7.cell? ⟨gb120, 1, none⟩ = some (.int .i64 a0_1) := (blk_cell BK120.out 1).trans rfl; have hcz10_2 : w7.cell? ⟨gb120, 2, none⟩ = some (.string a0_2) := (blk_cell BK120.out 2).trans rfl; have hfz10_0 := blk_frozen BK120.out 0; have hfz10_1 := blk_frozen BK120.out 1; have hfz10_2 := blk_frozen BK120.out 2))
  go_ret
  exact ⟨by first | rfl | (simp [errW_none, errW_some] <;> rfl) | (simp [*, errW_none, errW_some] <;> rfl), bl⟩
 ·replace c3 := Bool.eq_false_iff.mpr c3
  subst c3
  have H1 : (if a0_0 = 2 then ((points_Count.f a0_2).bind fun t125 => (some (mx t125 0))) else (some 0)) = some r := by rw [if_neg (show ¬ (false = true) by decide)] at H; exact H
  clear H
  have H := H1
  clear H1
  by_cases c11 : a0_0 = 2
  ·rw [if_pos c11] at H
   have c11b0 : (a0_0 == 2) = true := beq_iff_eq.mpr c11
   have c11b1 : (a0_0 != 2) = false := bne_eq_false_iff_eq.mpr c11
   clear c11
   replace H := Option.bind_eq_some_iff.mp H
   obtain ⟨t125, A120, H⟩ := H
   replace H : (some (mx t125 0)) = some r := H
   have A12 := am A120
   clear A120
   obtain ⟨ji13, hji13⟩ : ∃ j_ : Int, (mx t125 0) = j_ := ⟨_, rfl⟩
   replace H : (some ji13) = some r := by first | (rw [hji13] at H; exact H) | (simp only [hji13] at H ⊢; exact H)
   (try rw [hji13] at A2)
   (try rw [hji13] at A12)
   (try (have hji13l : 0 ≤ ji13 := by (rw [← hji13]; unfold mx; (repeat' split) <;> omega)))
   (try (have hji13m : 0 ≤ ji13 := by omega))
   have hji13_ : (if t125 < 0 then 0 else t125) = ji13 := hji13
   obtain rfl := Option.some.inj H
   simp only [Option.some.injEq, Prod.mk.injEq] at H
   obtain ⟨rfl⟩ := H
   go_enter Tryd.func48, Tryd.ntmps48
   go_wp2_with (first | ((with_reducible refine gate_dst (N := 1) rfl ?_); refine box_event ?hg (N := 1) ?hd (cs := #[.int .i64 a0_0, .int .i64 a0_1, .string a0_2]) (t := 25) ?hr ?_; (case hd => rfl); (case hg => rfl); (case hr => first | (go_simp; done) | (go_simp; rfl)); intro gb120 hg w14 hbox hb; have n0_ := am (below_step bl hb); have n1_ := am (hbox); have n2_ := am ((gs : w.heap.size ≤ gb120)); have n3_ := am ((gs : w.heap.size ≤ gb120)); clear HB; have HB := n0_; have BK120 := n1_; have GW120 := n2_; have GE120 := n3_; clear n0_ n1_ n2_ n3_; clear hb hbox hg; have hcz15_0 : w14.cell? ⟨gb120, 0, none⟩ = some (.int .i64 a0_0) := (blk_cell BK120.out 0).trans rfl; have hcz15_1 : w14.cell? ⟨gb120, 1, none⟩ = some (.int .i64 a0_1) := (blk_cell BK120.out 1).trans rfl; have hcz15_2 : w14.cell? ⟨gb120, 2, none⟩ = some (.string a0_2) := (blk_cell BK120.out 2).trans rfl; have hfz15_0 := blk_frozen BK120.out 0; have hfz15_1 := blk_frozen BK120.out 1; have hfz15_2 := blk_frozen BK120.out 2) | ((with_reducible refine gate_callee (f := 85) rfl ?_); refine goesL_ (some 7) rfl rfl Tryd.func85 (by kernel_rfl) rfl #[.agg #[.int .i64 a0_0, .int .i64 a0_1, .string a0_2]] rfl ar ?_; (with_reducible refine (span_of.calls a0_0 a0_1 a0_2 t121 false t123 _ ?side1 A2.out).mono ?_); (case side1 => exact Tabs.below HT.out bl); rintro e w16 ⟨rfl, hb⟩; refine ⟨_, rfl, ?_⟩; have n0_ := am (blk_below (g := gb120) (o := .cells #[.int .i64 a0_0, .int .i64 a0_1, .string a0_2] 25 (0, 0)) (by refine bk ?_; exact BK120.out) hb); have n1_ := am (below_step bl hb); clear BK120; clear HB; have BK120 := n0_; have HB := n1_; clear n0_ n1_; (try clear hb); (try clear hb2); (try clear hk); (try clear hi)) | ((with_reducible refine gate_dst (N := 3) rfl ?_); refine box_event ?hg (N := 3) ?hd (cs := #[.bool false, .bool false]) (t := 138) ?hr ?_; (case hd => rfl); (case hg => rfl); (case hr => first | (go_simp; done) | (go_simp; rfl)); intro gb124 hg w17 hbox hb; have n0_ := am (blk_below (g := gb120) (o := .cells #[.int .i64 a0_0, .int .i64 a0_1, .string a0_2] 25 (0, 0)) (by refine bk ?_; exact BK120.out) hb); have n1_ := am (below_step bl hb); have n2_ := am (hbox); have n3_ := am ((gs : w.heap.size ≤ gb124)); have n4_ := am ((gs : w.heap.size ≤ gb124)); have n5_ := am ((by rw [hg]; exact Nat.ne_of_lt (blk_lt (g := gb120) (o := .cells #[.int .i64 a0_0, .int .i64 a0_1, .string a0_2] 25 (0, 0)) (by refine bk ?_; exact BK120.out)) : gb120 ≠ gb124)); have n6_ := am ((by rw [hg]; exact Nat.ne_of_gt (blk_lt (g := gb120) (o := .cells #[.int .i64 a0_0, .int .i64 a0_1, .string a0_2] 25 (0, 0)) (by refine bk ?_; exact BK120.out)) : gb124 ≠ gb120)); clear BK120; clear HB; have BK120 := n0_; have HB := n1_; have BK124 := n2_; have GW124 := n3_; have GE124 := n4_; have NB120_124 := n5_; have NB124_120 := n6_; clear n0_ n1_ n2_ n3_ n4_ n5_ n6_; clear hb hbox hg; have hnb18 := NB124_120.out; have hnc18 := NB120_124.out; have hcz19_0 : w17.cell? ⟨gb124, 0, none⟩ = some (.bool false) := (blk_cell BK124.out 0).trans rfl; have hcz19_1 : w17.cell? ⟨gb124, 1, none⟩ = some (.bool false) := (blk_cell BK124.out 1).trans rfl; have hfz19_0 := blk_frozen BK124.out 0; have hfz19_1 := blk_frozen BK124.out 1; have hcz20_0 : w17.cell? ⟨gb120, 0, none⟩ = some (.int .i64 a0_0) := (blk_cell BK120.out 0).trans rfl; have hcz20_1 : w17.cell? ⟨gb120, 1, none⟩ = some (.int .i64 a0_1) := (blk_cell BK120.out 1).trans rfl; have hcz20_2 : w17.cell? ⟨gb120, 2, none⟩ = some (.string a0_2) := (blk_cell BK120.out 2).trans rfl; have hfz20_0 := blk_frozen BK120.out 0; have hfz20_1 := blk_frozen BK120.out 1; have hfz20_2 := blk_frozen BK120.out 2) | ((with_reducible refine gate_callee (f := 10) rfl ?_); refine goesL_ (some 21) rfl rfl Tryd.func10 (by kernel_rfl) rfl #[.string a0_2] rfl ar ?_; (with_reducible refine (points_Count.calls a0_2 t125 _ ?side1 A12.out).mono ?_); (case side1 => exact Tabs.below HT.out bl); rintro e w21 ⟨rfl, hb⟩; refine ⟨_, rfl, ?_⟩; have n0_ := am (blk_below (g := gb120) (o := .cells #[.int .i64 a0_0, .int .i64 a0_1, .string a0_2] 25 (0, 0)) (by refine bk ?_; refine blk_far ?_ NB120_124.out _; refine bk ?_; refine blk_far ?_ NB120_124.out _; refine bk ?_; exact BK120.out) hb); have n1_ := am (blk_below (g := gb124) (o := .cells #[.bool t121, .bool false] 138 (0, 0)) (by refine bk ?_; refine blk_put (cs := #[.bool t121, .bool false]) ?_ 1 _ rfl; refine bk ?_; refine blk_put (cs := #[.bool false, .bool false]) ?_ 0 _ rfl; refine bk ?_; exact BK124.out) hb); have n2_ := am (below_step bl hb); clear BK120; clear BK124; clear HB; have BK120 := n0_; have BK124 := n1_; have HB := n2_; clear n0_ n1_ n2_; (try clear hb); (try clear hb2); (try clear hk); (try clear hi)))
   go_ret
   exact ⟨by first | rfl | (simp [errW_none, errW_some] <;> rfl) | (simp only [← hji13]; first | rfl | (simp [errW_none, errW_some] <;> rfl)) | (simp [*, errW_none, errW_some] <;> rfl), bl⟩
  ·rw [if_neg c11] at H
   have c11b0 : (a0_0 == 2) = false := beq_eq_false_iff_ne.mpr c11
   have c11b1 : (a0_0 != 2) = true := bne_iff_ne.mpr c11
   obtain rfl := Option.some.inj H
   simp only [Option.some.injEq, Prod.mk.injEq] at H
   obtain ⟨rfl⟩ := H
   go_enter Tryd.func48, Tryd.ntmps48
   go_wp2_with (first | ((with_reducible refine gate_dst (N := 1) rfl ?_); refine box_event ?hg (N := 1) ?hd (cs := #[.int .i64 a0_0, .int .i64 a0_1, .string a0_2]) (t := 25) ?hr ?_; (case hd => rfl); (case hg => rfl); (case hr => first | (go_simp; done) | (go_simp; rfl)); intro gb120 hg w22 hbox hb; have n0_ := am (below_step bl hb); have n1_ := am (hbox); have n2_ := am ((gs : w.heap.size ≤ gb120)); have n3_ := am ((gs : w.heap.size ≤ gb120)); clear HB; have HB := n0_; have BK120 := n1_; have GW120 := n2_; have GE120 := n3_; clear n0_ n1_ n2_ n3_; clear hb hbox hg; have hcz23_0 : w22.cell? ⟨gb120, 0, none⟩ = some (.int .i64 a0_0) := (blk_cell BK120.out 0).trans rfl; have hcz23_1 : w22.cell? ⟨gb120, 1, none⟩ = some (.int .i64 a0_1) := (blk_cell BK120.out 1).trans rfl; have hcz23_2 : w22.cell? ⟨gb120, 2, none⟩ = some (.string a0_2) := (blk_cell BK120.out 2).trans rfl; have hfz23_0 := blk_frozen BK120.out 0; have hfz23_1 := blk_frozen BK120.out 1; have hfz23_2 := blk_frozen BK120.out 2) | ((with_reducible refine gate_callee (f := 85) rfl ?_); refine goesL_ (some 7) rfl rfl Tryd.func85 (by kernel_rfl) rfl #[.agg #[.int .i64 a0_0, .int .i64 a0_1, .string a0_2]] rfl ar ?_; (with_reducible refine (span_of.calls a0_0 a0_1 a0_2 t121 false t123 _ ?side1 A2.out).mono ?_); (case side1 => exact Tabs.below HT.out bl); rintro e w24 ⟨rfl, hb⟩; refine ⟨_, rfl, ?_⟩; have n0_ := am (blk_below (g := gb120) (o := .cells #[.int .i64 a0_0, .int .i64 a0_1, .string a0_2] 25 (0, 0)) (by refine bk ?_; exact BK120.out) hb); have n1_ := am (below_step bl hb); clear BK120; clear HB; have BK120 := n0_; have HB := n1_; clear n0_ n1_; (try clear hb); (try clear hb2); (try clear hk); (try clear hi)) | ((with_reducible refine gate_dst (N := 3) rfl ?_); refine box_event ?hg (N := 3) ?hd (cs := #[.bool false, .bool false]) (t := 138) ?hr ?_; (case hd => rfl); (case hg => rfl); (case hr => first | (go_simp; done) | (go_simp; rfl)); intro gb124 hg w25 hbox hb; have n0_ := am (blk_below (g := gb120) (o := .cells #[.int .i64 a0_0, .int .i64 a0_1, .string a0_2] 25 (0, 0)) (by refine bk ?_; exact BK120.out) hb); have n1_ := am (below_step bl hb); have n2_ := am (hbox); have n3_ := am ((gs : w.heap.size ≤ gb124)); have n4_ := am ((gs : w.heap.size ≤ gb124)); have n5_ := am ((by rw [hg]; exact Nat.ne_of_lt (blk_lt (g := gb120) (o := .cells #[.int .i64 a0_0, .int .i64 a0_1, .string a0_2] 25 (0, 0)) (by refine bk ?_; exact BK120.out)) : gb120 ≠ gb124)); have n6_ := am ((by rw [hg]; exact Nat.ne_of_gt (blk_lt (g := gb120) (o := .cells #[.int .i64 a0_0, .int .i64 a0_1, .string a0_2] 25 (0, 0)) (by refine bk ?_; exact BK120.out)) : gb124 ≠ gb120)); clear BK120; clear HB; have BK120 := n0_; have HB := n1_; have BK124 := n2_; have GW124 := n3_; have GE124 := n4_; have NB120_124 := n5_; have NB124_120 := n6_; clear n0_ n1_ n2_ n3_ n4_ n5_ n6_; clear hb hbox hg; have hnb26 := NB124_120.out; have hnc26 := NB120_124.out; have hcz27_0 : w25.cell? ⟨gb124, 0, none⟩ = some (.bool false) := (blk_cell BK124.out 0).trans rfl; have hcz27_1 : w25.cell? ⟨gb124, 1, none⟩ = some (.bool false) := (blk_cell BK124.out 1).trans rfl; have hfz27_0 := blk_frozen BK124.out 0; have hfz27_1 := blk_frozen BK124.out 1; have hcz28_0 : w25.cell? ⟨gb120, 0, none⟩ = some (.int .i64 a0_0) := (blk_cell BK120.out 0).trans rfl; have hcz28_1 : w25.cell? ⟨gb120, 1, none⟩ = some (.int .i64 a0_1) := (blk_cell BK120.out 1).trans rfl; have hcz28_2 : w25.cell? ⟨gb120, 2, none⟩ = some (.string a0_2) := (blk_cell BK120.out 2).trans rfl; have hfz28_0 := blk_frozen BK120.out 0; have hfz28_1 := blk_frozen BK120.out 1; have hfz28_2 := blk_frozen BK120.out 2))
   go_ret
   exact ⟨by first | rfl | (simp [errW_none, errW_some] <;> rfl) | (simp [*, errW_none, errW_some] <;> rfl), bl⟩
set_option maxHeartbeats 8000000 in
set_option maxRecDepth 100000 in
theorem op_sum.callsspan_Out (A0 : Option Addr) (c0 : Nat) (l0 : List S25) (r : Int) (w : World) (hr0 : Kd.C k25 w A0 l0.length l0) (hc0 : l0.length ≤ c0) (hs : l0.length < 9223372036854775807) (hT : Tabs w) (h : op_sum.l (fun x : S25 => span_Out.f x.f0 x.f1 x.f2) 0 l0 = some r) :
  Calls Tryd.prog 59 #[.slice A0 l0.length c0, .func (Fn.func 48) #[] #[]] w fun e w' => e = .returned (.int .i64 r) ∧ Below w.heap.size w w' := by
 have HR0 := am hr0; have HC0 := am hc0; have HT := am hT; have HZ := am hs; have H := am h
 clear hr0 hc0 hT hs h
 go_enter Tryd.func59, Tryd.ntmps59
 go_wp2
 go_loopw [5, 10] (fun v5 v10 wr => ∃ j : Nat, v10 = .int .i64 j ∧ j ≤ l0.length ∧ ∃ n : Int, v5 = .int .i64 n ∧ Aside0 (op_sum.l (fun x : S25 => span_Out.f x.f0 x.f1 x.f2) n (l0.drop j) = some r) ∧ Aside0 (Below w.heap.size w wr)) (fun _ v10 _ => l0.length - (intOf v10).toNat)
 case atStart => exact ⟨0, rfl, Nat.zero_le _, 0, rfl, H, ⟨Below.refl _ _⟩⟩
 case round =>
  clear H
  obtain ⟨j, rfl, hj, n, rfl, HA, HB⟩ := hrel
  by_cases hlt : j < l0.length
  ·have hltb : decide ((j : Int) < (l0.length : Int)) = true := decide_eq_true (by omega)
   have HL := am hlt
   have h := HA.out
   clear HA
   rw [op_sum.next l0 j hlt, op_sum.l] at h
   obtain ⟨v, hv, h⟩ := Option.bind_eq_some_iff.mp h
   obtain ⟨ad, rfl, hx0, hx1, hx2⟩ := at_T25 (Kd.C_below HR0.out HB.out) (j : Int) (by omega) (by omega)
   rw [Int.toNat_natCast] at hx0 hx1 hx2
   have p1 : (0 ≤ (j : Int)) = True := eq_true (by omega)
   have p2 : ((j : Int) < (l0.length : Int)) = True := eq_true (by omega)
   have p3 : (j < l0.length) = True := eq_true hlt
   have HV := am hv
   have HE := am h
   have ew : wrap64 ((j : Int) + 1) = ((j + 1 : Nat) : Int) := by have := HZ.out; unfold wrap64; omega
   clear h hv hlt
   go_wp2_with (go_at_call 48; (with_reducible refine (span_Out.calls _ _ _ v _ (Tabs.below HT.out (below_alloc HB.out _)) HV.out).mono ?_); rintro e w1 ⟨rfl, hb⟩; have HB1 := am (below_then (below_alloc HB.out _) (below_alloc HB.out _).size hb); clear hb)
   go_round
   case measure => exact op_sum.less HL.out ew
   case rel => exact ⟨j + 1, by rw [ew], HL.out, _, rfl, HE, HB1⟩
  ·have hltb : decide ((j : Int) < (l0.length : Int)) = false := decide_eq_false (by omega)
   have h := HA.out
   clear HA
   rw [List.drop_of_length_le (by omega), op_sum.l] at h
   obtain rfl := Option.some.inj h
   go_wp2
   go_ret
   exact ⟨rfl, HB.out⟩
def op_Out.f (l0 : List S25) : Option Int := if l0.length < 9223372036854775807 then op_sum.l (fun x : S25 => span_Out.f x.f0 x.f1 x.f2) 0 l0 else none
set_option maxHeartbeats 8000000 in
set_option maxRecDepth 100000 in
theorem op_Out.calls (A0 : Option Addr) (c0 : Nat) (l0 : List S25) (r : Int) (w : World) (hr0 : Kd.C k25 w A0 l0.length l0) (hc0 : l0.length ≤ c0) (hT : Tabs w) (h : op_Out.f l0 = some r) :
  Calls Tryd.prog 62 #[.slice A0 l0.length c0] w fun e w' => e = .returned (.int .i64 r) ∧ Below w.heap.size w w' := by
 unfold op_Out.f at h
 by_cases c : l0.length < 9223372036854775807
 ·rw [if_pos c] at h
  have HW := am (op_sum.callsspan_Out A0 c0 l0 r w hr0 hc0 c hT h)
  clear hr0 hc0 c hT h
  go_enter Tryd.func62, Tryd.ntmps62
  go_wp2_with (go_at_call 59; (with_reducible refine HW.out.mono ?_); rintro e w1 ⟨rfl, hb⟩; have HB1 := am hb; clear hb)
  go_ret
  exact ⟨rfl, HB1.out⟩
 ·rw [if_neg c] at h; cases h
def runesP (s : ByteArray) : Nat → Nat → List Int
 | 0, _ => []
 | b + 1, i => if i < s.size then ((Utf8.decode s i).1 : Int) :: runesP s b (i + (Utf8.decode s i).2) else []
def runesS (s : ByteArray) : List Int := runesP s s.size 0
theorem runesP_eq (s : ByteArray) : ∀ (b i : Nat) (acc : Array Value), Conv.runesFrom s b i acc = acc ++ ((runesP s b i).map (Value.int .i32)).toArray
 | 0, i, acc => by simp [Conv.runesFrom, runesP]
 | b + 1, i, acc => by
  unfold Conv.runesFrom runesP
  by_cases c : i < s.size
  ·rw [if_pos c, if_pos c]
   simp only []
   rw [runesP_eq s b]
   simp
  ·rw [if_neg c, if_neg c]; simp
theorem runesS_eq (s : ByteArray) : Conv.runesFrom s s.size 0 #[] = ((runesS s).map (Value.int .i32)).toArray := by
 rw [runesP_eq]; simp [runesS]
theorem runesP_len (s : ByteArray) : ∀ (b i : Nat), (runesP s b i).length ≤ b
 | 0, _ => by simp [runesP]
 | b + 1, i => by
  unfold runesP
  split
  ·have := runesP_len s b (i + (Utf8.decode s i).2)
   rw [List.length_cons]; omega
  ·simp
section
variable {ops : Array Oper} {rest : List Oper} {o : Oper} {a : Act} {Q : Exit → Act → World → Prop} {W : World}
theorem runes_conv (base : Nat) (hgd : o.guard = none) (x : Operand) (ho : o.op = .convert 9 87 x) (s : ByteArray) (hx : a.eval x = .string s) (hs : s.size ≤ 70368744177664) (hbase : base ≤ W.heap.size)
  (h : ∀ v w1, Kd.R (Kd.int .i32) 21 w1 base (fun k => W.heap.size ≤ k) v (runesS s) → Below W.heap.size W w1 → wpList Tryd.prog ops Q rest (a.put o.dst v) w1) : wpList Tryd.prog ops Q (o :: rest) a W := by
 have hl : (runesS s).length ≤ s.size := runesP_len s s.size 0
 have hsz : (Conv.runesFrom s s.size 0 #[]).size = (runesS s).length := by rw [runesS_eq]; simp
 have hr := run_runes_of_string (P := Tryd.prog) W 9 87 21 s Tryd.underlying9 Tryd.underlying87 Tryd.underlying21 (by rw [hsz]; omega)
 rw [hsz] at hr
 have hge := grownCap_ge W (runesS s).length 0 21
 have hle := grownCap_le_maxLen W (runesS s).length 0 21 (by unfold maxLen; omega)
 generalize grownCap W (runesS s).length 0 21 = cap at hr hge hle
 rw [runesS_eq] at hr
 have hb : Below W.heap.size W (W.drew.alloc (.cells (((runesS s).map (Value.int .i32)).toArray ++ Array.replicate (cap - (runesS s).length) (.int .i32 0)) 21)) := below_alloc (below_drew (Below.refl _ _)) _
 refine wpList_plain hgd fun K hK => ?_
 unfold Oper.wp execOp
 simp only [ho, hx, Sem.run_bind, Sem.run_pure, Result.andThen_ok, hr]
 refine hK _ _ (h _ _ ?_ hb)
 refine Kd.R_of_own (h1 := fun _ => rfl) ?_ (fun k hk => ?_)
 ·refine ⟨by rw [encs_length]; omega, .inr ⟨W.heap.size, cap, _, rfl, hbase, heap_alloc_new _ _, by omega, hle, ?_, ?_⟩⟩
  ·simp; omega
  ·simp [encs]
 ·simp [Value.ownBlock] at hk; omega
end
def RD (w0 W : World) (g B : Nat) (l : List S25) (t : List Int) : Prop :=
 w0.heap.size ≤ g ∧ ∃ (A : Option Addr) (c : Nat) (A' : Option Addr) (c' : Nat), W.heap[g]? = some (.cells #[.slice A l.length c, .slice A' t.length c'] 154 (0, 0)) ∧ l.length ≤ c ∧ t.length ≤ c' ∧
  Kd.Q k25 25 W w0.heap.size (fun k => k = B) (.slice A l.length c) l ∧ Kd.Q (Kd.int .i32) 21 W w0.heap.size (fun _ => True) (.slice A' t.length c') t
theorem RD_kept {w0 W W1 : World} {g B : Nat} {l : List S25} {t : List Int} {S : Nat → Prop} (h : RD w0 W g B l t) (hk : Kept W W1 S) (hg : ¬ S g) (hB : ¬ S B)
  (hS : ∀ k, S k → ∃ cells q, W.heap[k]? = some (.cells cells q (0, 0)) ∧ q ≠ 21) : RD w0 W1 g B l t := by
 obtain ⟨h0, A, c, A', c', hc, h1, h2, q1, q2⟩ := h
 refine ⟨h0, A, c, A', c', blk_kept hc hk hg, h1, h2, Kd.Q_kept q1 hk (fun k e => by rw [e]; exact hB), ?_⟩
 refine Kd.Q_mono (Kd.Q_kept (Kd.Q_bound q2) hk ?_) (fun _ _ => trivial)
 intro k ⟨_, _, _, q, hq, cells, e⟩ hs
 obtain ⟨cells', q', e', hne⟩ := hS k hs
 rw [e] at e'
 injection e' with e'
 injection e' with _ e'
 have : q = 21 := by simpa [Kd.int, Kd.scalar] using hq
 exact hne (by rw [← e', this])
theorem RD_lt {w0 W : World} {g B : Nat} {l : List S25} {t : List Int} (h : RD w0 W g B l t) : g < W.heap.size := by
 obtain ⟨_, A, c, A', c', hc, _⟩ := h
 exact blk_lt hc
def loadT : List S25 → List Int
 | [] => []
 | x :: _ => runesS x.f2
set_option maxHeartbeats 8000000 in
set_option maxRecDepth 100000 in
theorem compose_Of.load (w0 w : World) (g B : Nat) (l : List S25) (t : List Int) (hI : RD w0 w g B l t) (hB : Below w0.heap.size w0 w) (hs : normal_Of.t l ≤ 70368744177664) :
  Calls Tryd.prog 92 #[.pointer (some ⟨g, 0, none⟩)] w fun e w' => e = .returned (.tuple #[]) ∧ RD w0 w' g B l (loadT l) ∧ Below w0.heap.size w0 w' ∧ Kept w w' (fun k => k = g) := by
 obtain ⟨h0, A, c, A', c', hc, h1, h2, q1, q2⟩ := hI
 have HC := am hc; have HQ := am q1; have HB := am hB; have H0 := am h0; have H1 := am h1
 have k0 : w.cell? ⟨g, 0, none⟩ = some (.slice A l.length c) := (blk_cell hc 0).trans rfl
 have k1 : w.cell? ⟨g, 1, none⟩ = some (.slice A' t.length c') := (blk_cell hc 1).trans rfl
 have fz : w.frozen? ⟨g, 1, none⟩ = false := blk_frozen hc 1
 clear hc q2 hB h0 h2
 have hp1 := blk_put HC.out 1 (.slice none 0 0) rfl
 have hq2 := Kd.Q_set q1 HC.out (by decide) 1 (.slice none 0 0)
 have HP1 := am hp1
 have HQ2 := am hq2
 have HB1 := am (HB.out.setCell (p := ⟨g, 1, none⟩) H0.out (.slice none 0 0))
 clear hp1 q1
 cases l with
 | nil =>
  clear hq2
  go_enter Tryd.func92, Tryd.ntmps92
  go_wp2
  go_end0
  refine ⟨rfl, ⟨H0.out, A, c, none, 0, HP1.out, H1.out, Nat.le_refl _, HQ2.out, Kd.Q_nil _ _ _ _ _⟩, HB1.out, (Kept.refl w (fun k => k = g)).setCell (p := ⟨g, 1, none⟩) (.inl rfl) _⟩
 | cons x l =>
  obtain ⟨gB, oB, cap, hv, hb1, hb2, cells, hcl⟩ := Kd.Q_form hq2 (by simp)
  injection hv with e1 e2 e3
  subst e1; subst e3
  obtain ⟨ce, _, hM, hcc, _⟩ := Kd.Q_elem hq2 z25 0 (by omega) (by simp)
  obtain rfl := k25_openM hM
  have x2 : (w.setCell ⟨g, 1, none⟩ (.slice none 0 0)).cell? ⟨gB, oB + 2, none⟩ = some (.string x.f2) := hcc 2 _ rfl
  have f1 : (w.setCell ⟨g, 1, none⟩ (.slice none 0 0)).frozen? ⟨g, 1, none⟩ = false := blk_frozen HP1.out 1
  have p1 : (0 < l.length + 1) = True := eq_true (by omega)
  have hsx : x.f2.size ≤ 70368744177664 := by rw [normal_Of.t] at hs; omega
  have HSX := am hsx
  clear hs hsx hq2 hcc hM hcl hb1 hb2
  go_enter Tryd.func92, Tryd.ntmps92
  go_wp2_with ((with_reducible refine gate_dst (N := 19) rfl ?_); refine runes_conv w0.heap.size rfl (.tmp 18) rfl x.f2 rfl HSX.out HB1.out.size ?_; intro v1 w1 ho hb; obtain ⟨A1, c1, rfl, hc1, _⟩ := Kd.R_reads ho; have HC1 := am hc1; clear hc1; have HO1 := am ho; have HP2 := am (blk_below HP1.out hb); have HQ3 := am (Kd.Q_below HQ2.out hb); have HB2 := am (below_then HB1.out HB1.out.size hb); have HBB := am hb; clear ho hb; have f2 : w1.frozen? ⟨g, 1, none⟩ = false := blk_frozen HP2.out 1; have c2 : w1.cell? ⟨g, 1, none⟩ = some (.slice none 0 0) := (blk_cell HP2.out 1).trans rfl)
  go_end0
  have HP3 := blk_put HP2.out 1 (.slice A1 (runesS x.f2).length c1) rfl
  refine ⟨rfl, ⟨H0.out, _, c, A1, c1, HP3, H1.out, HC1.out, Kd.Q_set HQ3.out HP2.out (by decide) 1 _, Kd.Q_set (Kd.Q_mono (Kd.Q_of_R HO1.out) (fun _ _ => trivial)) HP2.out (by decide) 1 _⟩, HB2.out.setCell (p := ⟨g, 1, none⟩) H0.out _, ?_⟩
  exact (((Kept.refl w (fun k => k = g)).setCell (p := ⟨g, 1, none⟩) (.inl rfl) _).below HBB.out).setCell (p := ⟨g, 1, none⟩) (.inl rfl) _
theorem normal_Of.t_n (l : List S25) : normal_Of.t (normal_Of.n l) ≤ normal_Of.t l := by
 have h := (normal_Of.d_facts (normal_Of.keep l) (normal_Of.keep l).length (Nat.le_refl _)).2.2
 unfold normal_Of.d at h
 rw [List.take_length] at h
 have e : normal_Of.n l = (normal_Of.keep l).foldl normal_Of.step [] := rfl
 rw [e, h]
 exact normal_Of.t_keep l
theorem RD_new {w0 w1 : World} {A1 : Option Addr} {c1 : Nat} {q : List S25} {base : Nat} {ok : Nat → Prop} (d : Nat) (hO : Kd.R k25 25 w1 base ok (.slice A1 q.length c1) q) (hc : q.length ≤ c1) (hb : w0.heap.size ≤ base) (h0 : w0.heap.size ≤ w1.heap.size) :
  RD w0 (w1.alloc (.cells #[.slice A1 q.length c1, .slice none 0 0] 154)) w1.heap.size (((Value.slice A1 q.length c1).ownBlock).getD d) q [] :=
 ⟨h0, A1, c1, none, 0, heap_alloc_new w1 _, hc, Nat.le_refl _, Kd.Q_alloc (Kd.Q_mono (Kd.Q_lower (Kd.Q_tight rfl (Kd.Q_of_R hO)) hb) (fun k_ e_ => by rw [← e_]; rfl)) _, Kd.Q_nil _ _ _ _ _⟩
set_option maxHeartbeats 8000000 in
set_option maxRecDepth 100000 in
theorem compose_Of.reader (w0 w : World) (A0 : Option Addr) (c0 : Nat) (l0 : List S25) (hr0 : Kd.C k25 w A0 l0.length l0) (hc0 : l0.length ≤ c0) (hB : Below w0.heap.size w0 w) (hl : l0.length < 1000000000) (ht : normal_Of.t l0 ≤ 70368744177664) :
  Calls Tryd.prog 79 #[.slice A0 l0.length c0] w fun e w' => ∃ g B, e = .returned (.pointer (some ⟨g, 0, none⟩)) ∧ RD w0 w' g B (normal_Of.n l0) (loadT (normal_Of.n l0)) ∧ w.heap.size ≤ g ∧ w.heap.size ≤ B ∧ B < w'.heap.size ∧ Below w0.heap.size w0 w' ∧ Kept w w' (fun _ => False) := by
 have hf : normal_Of.f l0 = some (normal_Of.n l0) := by unfold normal_Of.f; rw [if_pos ⟨hl, by omega⟩]
 have HN := am (normal_Of.calls A0 c0 l0 _ w hr0 hc0 hf)
 have HB := am hB
 have HT : Aside0 (normal_Of.t (normal_Of.n l0) ≤ 70368744177664) := ⟨Nat.le_trans (normal_Of.t_n l0) ht⟩
 clear hr0 hc0 hB hl ht hf
 generalize normal_Of.n l0 = q at *
 go_enter Tryd.func79, Tryd.ntmps79
 go_wp2_with (first | (go_at_call 33; (with_reducible refine HN.out.mono ?_); rintro e w1 ⟨v1, rfl, ho, hb⟩; obtain ⟨A1, c1, rfl, hc1, _⟩ := Kd.R_reads ho; have HO1 := am ho; have HC1 := am hc1; have HB1 := am hb; clear ho hc1 hb) | (go_at_call 92; (with_reducible refine (compose_Of.load w0 _ w1.heap.size (((Value.slice A1 q.length c1).ownBlock).getD w.heap.size) q [] (RD_new w.heap.size HO1.out HC1.out HB.out.size (Nat.le_trans HB.out.size HB1.out.size)) (below_alloc (below_then HB.out HB.out.size HB1.out) _) HT.out).mono ?_); rintro e w2 ⟨rfl, hI, hb2, hk2⟩; have HI2 := am hI; have HB2 := am hb2; have HK2 := am hk2; clear hI hb2 hk2))
 go_ret
 have hle : w1.heap.size + 1 ≤ w2.heap.size := by have := HK2.out.1; simpa using this
 refine ⟨w1.heap.size, _, rfl, HI2.out, HB1.out.size, ?_, ?_, HB2.out, ?_⟩
 ·cases A1 with
  | none => exact Nat.le_refl _
  | some a1 => exact Kd.R_base HO1.out _ rfl
 ·cases A1 with
  | none => show w.heap.size < _; have := HB1.out.size; omega
  | some a1 =>
   have := Kd.Q_lt (Kd.Q_of_R HO1.out) _ rfl
   show a1.block < _; omega
 ·have h1 : Kept w (w1.alloc (.cells #[.slice A1 q.length c1, .slice none 0 0] 154)) (fun _ => False) := (Kept.of_below HB1.out _).alloc _
  exact h1.then_ HK2.out (fun k hk => .inr (by rw [hk]; exact HB1.out.size))
def kindT : List S25 → Int
 | [] => 0
 | x :: _ => x.f0
theorem RD_open {w0 w : World} {g B : Nat} {x : S25} {l : List S25} {t : List Int} (h : RD w0 w g B (x :: l) t) :
  ∃ (o c : Nat) (A' : Option Addr) (c' : Nat), w.heap[g]? = some (.cells #[.slice (some ⟨B, o, none⟩) (l.length + 1) c, .slice A' t.length c'] 154 (0, 0)) ∧ l.length + 1 ≤ c ∧ t.length ≤ c' ∧
   Kd.Q k25 25 w w0.heap.size (fun k => k = B) (.slice (some ⟨B, o, none⟩) (l.length + 1) c) (x :: l) ∧ Kd.Q (Kd.int .i32) 21 w w0.heap.size (fun _ => True) (.slice A' t.length c') t ∧
   w.cell? ⟨B, o, none⟩ = some (.int .i64 x.f0) ∧ w.cell? ⟨B, o + 1, none⟩ = some (.int .i64 x.f1) ∧ w.cell? ⟨B, o + 2, none⟩ = some (.string x.f2) ∧ w.frozen? ⟨B, o + 1, none⟩ = false ∧
   w0.heap.size ≤ B ∧ B < w.heap.size ∧ w0.heap.size ≤ g ∧ ∃ cells, w.heap[B]? = some (.cells cells 25 (0, 0)) := by
 obtain ⟨h0, A, c, A', c', hc, h1, h2, q1, q2⟩ := h
 obtain ⟨gB, oB, cap, hv, hb1, hb2, cells, hcl⟩ := Kd.Q_form q1 (by simp)
 injection hv with e1 e2 e3
 subst e1; subst e3
 obtain rfl : gB = B := q1.1 gB rfl
 obtain ⟨ce, _, hM, hcc, hfr⟩ := Kd.Q_elem q1 z25 0 (by omega) (by simp)
 obtain rfl := k25_openM hM
 exact ⟨oB, c, A', c', hc, h1, h2, q1, q2, hcc 0 _ rfl, hcc 1 _ rfl, hcc 2 _ rfl, hfr 1, hb1, hb2, h0, cells, hcl⟩
set_option maxHeartbeats 8000000 in
set_option maxRecDepth 100000 in
theorem compose_Of.kind (w0 w : World) (g B : Nat) (l : List S25) (t : List Int) (hI : RD w0 w g B l t) :
  Calls Tryd.prog 80 #[.pointer (some ⟨g, 0, none⟩)] w fun e w' => e = .returned (.int .i64 (kindT l)) ∧ w' = w := by
 cases l with
 | nil =>
  obtain ⟨h0, A, c, A', c', hc, h1, h2, q1, q2⟩ := hI
  have k0 : w.cell? ⟨g, 0, none⟩ = some (.slice A 0 c) := (blk_cell hc 0).trans rfl
  clear q1 q2 hc h0 h1 h2
  go_enter Tryd.func80, Tryd.ntmps80
  go_wp2
  go_ret
  exact ⟨rfl, rfl⟩
 | cons x l =>
  obtain ⟨o, c, A', c', hc, h1, h2, q1, q2, x0, x1, x2, f1, _⟩ := RD_open hI
  have k0 : w.cell? ⟨g, 0, none⟩ = some (.slice (some ⟨B, o, none⟩) (l.length + 1) c) := (blk_cell hc 0).trans rfl
  have p0 : (((l.length + 1 : Nat) : Int) == 0) = false := beq_eq_false_iff_ne.mpr (by omega)
  have p1 : (0 < l.length + 1) = True := eq_true (by omega)
  have p2 : (((l.length : Int) + 1) == 0) = false := beq_eq_false_iff_ne.mpr (by omega)
  clear q1 q2 hc h1 h2 hI
  go_enter Tryd.func80, Tryd.ntmps80
  go_wp2
  go_ret
  exact ⟨rfl, rfl⟩
set_option maxHeartbeats 8000000 in
set_option maxRecDepth 100000 in
theorem compose_Of.size (w0 w : World) (g B : Nat) (x : S25) (l : List S25) (t : List Int) (hI : RD w0 w g B (x :: l) t) :
  Calls Tryd.prog 82 #[.pointer (some ⟨g, 0, none⟩)] w fun e w' => e = .returned (.int .i64 (wrap64 (x.f1 + (t.length : Int)))) ∧ ∃ m, w' = w.drewN m := by
 obtain ⟨o, c, A', c', hc, h1, h2, q1, q2, x0, x1, x2, f1, _⟩ := RD_open hI
 have k0 : w.cell? ⟨g, 0, none⟩ = some (.slice (some ⟨B, o, none⟩) (l.length + 1) c) := (blk_cell hc 0).trans rfl
 have k1 : w.cell? ⟨g, 1, none⟩ = some (.slice A' t.length c') := (blk_cell hc 1).trans rfl
 have p1 : (0 < l.length + 1) = True := eq_true (by omega)
 clear q1 q2 hc h1 h2 hI
 go_enter Tryd.func82, Tryd.ntmps82
 go_wp2
 go_quiet (fail)
 go_wp2
 go_ret
 exact ⟨rfl, _, rfl⟩
theorem RD_drewN {w0 w : World} {g B : Nat} {l : List S25} {t : List Int} (h : RD w0 w g B l t) (m : Nat) : RD w0 (w.drewN m) g B l t :=
 RD_kept h ((Kept.refl w (fun _ => False)).drewN m) (fun h => h) (fun h => h) (fun _ h => h.elim)
theorem runes_str {w : World} {base : Nat} {A : Option Addr} {c : Nat} {t : List Int} (h : Kd.Q (Kd.int .i32) 21 w base (fun _ => True) (.slice A t.length c) t) (n : Nat) (hn : n ≤ t.length) (m : Nat) :
  (convert 87 9 (.slice A n c)).run Tryd.prog (w.drewN m) = .ok (.string (runesBytes (t.take n))) (w.drewN m) := by
 cases A with
 | none =>
  have hq := Kd.Q_reads' h
  rcases Nat.eq_zero_or_pos t.length with h0 | h0
  ·obtain rfl : t = [] := List.eq_nil_of_length_eq_zero h0
   rw [run_convert_runes_nil (w.drewN m) 87 9 21 n c Tryd.underlying87 Tryd.underlying21 Tryd.underlying9]
   simp [runesBytes]
  ·obtain ⟨ad, e, _⟩ := hq.2.2.2.2 h0
   cases e
 | some a =>
  refine run_convert_runes (w.drewN m) 87 9 21 a n c t hn Tryd.underlying87 Tryd.underlying21 Tryd.underlying9 ?_
  intro j hj
  obtain ⟨ad, e, hx⟩ := Kd.at_int (Kd.Q_reads' h).2.2 (j : Int) (by omega) (by omega)
  injection e with e
  subst e
  rw [Int.toNat_natCast] at hx
  have hr : rd t (j : Int) = t.getD j 0 := by unfold rd; rw [Int.toNat_natCast]
  rw [hr] at hx
  exact hx
theorem RD_text {w0 W : World} {g B c c' : Nat} {A A2 : Option Addr} {u : Value} {l : List S25} {t2 : List Int} (h0 : w0.heap.size ≤ g) (hc : W.heap[g]? = some (.cells #[.slice A l.length c, u] 154 (0, 0))) (h1 : l.length ≤ c) (h2 : t2.length ≤ c')
  (q1 : Kd.Q k25 25 W w0.heap.size (fun k => k = B) (.slice A l.length c) l) (q2 : Kd.Q (Kd.int .i32) 21 W w0.heap.size (fun _ => True) (.slice A2 t2.length c') t2) : RD w0 (W.setCell ⟨g, 1, none⟩ (.slice A2 t2.length c')) g B l t2 :=
 ⟨h0, A, c, A2, c', blk_put hc 1 _ rfl, h1, h2, Kd.Q_set q1 hc (by decide) 1 _, Kd.Q_set q2 hc (by decide) 1 _⟩
theorem RD_next {w0 W : World} {g B : Nat} {x : S25} {l : List S25} {t : List Int} {A3 : Option Addr} {c3 : Nat} (h : RD w0 W g B (x :: l) t) (h3 : l.length ≤ c3) (q3 : Kd.Q k25 25 W w0.heap.size (fun k => k = B) (.slice A3 l.length c3) l) : RD w0 (W.setCell ⟨g, 0, none⟩ (.slice A3 l.length c3)) g B l t := by
 obtain ⟨h0, A, c, A', c', hc, h1, h2, q1, q2⟩ := h
 exact ⟨h0, A3, c3, A', c', blk_put hc 0 _ rfl, h3, h2, Kd.Q_set q3 hc (by decide) 0 _, Kd.Q_set q2 hc (by decide) 0 _⟩
def TK (w0 w W : World) (g B : Nat) (l : List S25) (t : List Int) (s0 s1 : Int) (s2 : ByteArray) : Prop :=
 RD w0 W g B l t ∧ Below w0.heap.size w0 W ∧ Kept w W (fun k => k = g ∨ k = B) ∧ W.heap[w.heap.size + 1]? = some (.cells #[.int .i64 s0, .int .i64 s1, .string s2] 25 (0, 0)) ∧ W.heap[w.heap.size]? = some (.cells #[.int .i64 0, .int .i64 0, .string ⟨#[]⟩] 25 (0, 0))
theorem TK_drewN {w0 w W : World} {g B : Nat} {l : List S25} {t : List Int} {s0 s1 : Int} {s2 : ByteArray} (h : TK w0 w W g B l t s0 s1 s2) (m : Nat) : TK w0 w (W.drewN m) g B l t s0 s1 s2 :=
 ⟨RD_drewN h.1 m, pw_below_drewN h.2.1 m, h.2.2.1.drewN m, h.2.2.2.1, h.2.2.2.2⟩
theorem TK_step {w0 w W W' : World} {g B : Nat} {l l' : List S25} {t t' : List Int} {s0 s1 : Int} {s2 : ByteArray} (h : TK w0 w W g B l t s0 s1 s2) (hg : g < w.heap.size) (hI : RD w0 W' g B l' t') (hB : Below w0.heap.size w0 W') (hK : Kept W W' (fun k => k = g)) : TK w0 w W' g B l' t' s0 s1 s2 :=
 ⟨hI, hB, h.2.2.1.then_ hK (fun k hk => .inl (.inl hk)), blk_kept h.2.2.2.1 hK (by omega), blk_kept h.2.2.2.2 hK (by omega)⟩
theorem TK_end {w0 w W : World} {g B : Nat} {l : List S25} {t : List Int} {s0 s1 : Int} {s2 : ByteArray} (h : TK w0 w W g B l t s0 s1 s2) (hg : g < w.heap.size) (hB : B < w.heap.size ∨ B ≠ w.heap.size) (h0 : w0.heap.size ≤ w.heap.size) :
  let W' := ((W.setCell ⟨w.heap.size, 0, none⟩ (.int .i64 s0)).setCell ⟨w.heap.size, 1, none⟩ (.int .i64 s1)).setCell ⟨w.heap.size, 2, none⟩ (.string s2)
  W'.heap[w.heap.size]? = some (.cells #[.int .i64 s0, .int .i64 s1, .string s2] 25 (0, 0)) ∧ RD w0 W' g B l t ∧ Below w0.heap.size w0 W' ∧ Kept w W' (fun k => k = g ∨ k = B) := by
 obtain ⟨hI, hb, hK, _, h4⟩ := h
 have k : Kept W (((W.setCell ⟨w.heap.size, 0, none⟩ (.int .i64 s0)).setCell ⟨w.heap.size, 1, none⟩ (.int .i64 s1)).setCell ⟨w.heap.size, 2, none⟩ (.string s2)) (fun k => k = w.heap.size) :=
  (((Kept.refl W (fun k => k = w.heap.size)).setCell (p := ⟨w.heap.size, 0, none⟩) (.inl rfl) _).setCell (p := ⟨w.heap.size, 1, none⟩) (.inl rfl) _).setCell (p := ⟨w.heap.size, 2, none⟩) (.inl rfl) _
 refine ⟨blk_put (blk_put (blk_put h4 0 _ rfl) 1 _ rfl) 2 _ rfl, ?_, ((hb.setCell (p := ⟨w.heap.size, 0, none⟩) h0 _).setCell (p := ⟨w.heap.size, 1, none⟩) h0 _).setCell (p := ⟨w.heap.size, 2, none⟩) h0 _, hK.then_ k (fun j hj => .inr (by omega))⟩
 have hS : ∀ j, j = w.heap.size → ∃ cells q, W.heap[j]? = some (.cells cells q (0, 0)) ∧ q ≠ 21 := by
  intro j hj
  subst hj
  exact ⟨_, _, h4, by decide⟩
 exact RD_kept hI k (by omega) (by omega) hS
theorem TK_text {w0 w : World} {g B c : Nat} {A A' A2 : Option Addr} {c' : Nat} {l : List S25} {t : List Int} {n : Nat} {s : ByteArray} (hI : RD w0 w g B l t) (hc : w.heap[g]? = some (.cells #[.slice A l.length c, .slice A' t.length c'] 154 (0, 0))) (h1 : l.length ≤ c) (h2 : t.length ≤ c')
  (q1 : Kd.Q k25 25 w w0.heap.size (fun k => k = B) (.slice A l.length c) l) (q2 : Kd.Q (Kd.int .i32) 21 w w0.heap.size (fun _ => True) (.slice A' t.length c') t) (hB : Below w0.heap.size w0 w) (hn : n ≤ t.length)
  (hA2 : (if c' = n then A' else A'.map (·.add (n * 1))) = A2) :
  TK w0 w ((((w.alloc (.cells #[.int .i64 0, .int .i64 0, .string ⟨#[]⟩] 25)).alloc (.cells #[.int .i64 2, .int .i64 0, .string s] 25)).setCell ⟨g, 1, none⟩ (.slice A2 (t.length - n) (c' - n))).drew) g B l (t.drop n) 2 0 s := by
 have hg := RD_lt hI
 have hq := Kd.Q_drop (k := n) (Kd.Q_alloc (Kd.Q_alloc q2 (.cells #[.int .i64 0, .int .i64 0, .string ⟨#[]⟩] 25)) (.cells #[.int .i64 2, .int .i64 0, .string s] 25)) hn
 have hA3 : (if c' = n then A' else A'.map (·.add (n * (Kd.int .i32).sz))) = A2 := hA2
 rw [hA3] at hq
 have hl : (t.drop n).length = t.length - n := List.length_drop
 rw [← hl] at hq ⊢
 have hc2 := blk_below hc (below_alloc (below_alloc (Below.refl w.heap.size w) (.cells #[.int .i64 0, .int .i64 0, .string ⟨#[]⟩] 25)) (.cells #[.int .i64 2, .int .i64 0, .string s] 25))
 have hR := RD_text (l := l) hI.1 hc2 h1 (by rw [hl]; omega) (Kd.Q_alloc (Kd.Q_alloc q1 _) _) hq
 refine ⟨RD_drewN hR 1, pw_below_drewN ((below_alloc (below_alloc hB _) _).setCell (p := ⟨g, 1, none⟩) hI.1 _) 1, ((((Kept.refl w _).alloc _).alloc _).setCell (p := ⟨g, 1, none⟩) (.inl (.inl rfl)) _).drewN 1, ?_, ?_⟩
 ·refine (Below.heap_setCell _ _ _ _ (by show w.heap.size + 1 ≠ g; omega)).trans ?_
  exact heap_alloc2_new w _ _
 ·refine (Below.heap_setCell _ _ _ _ (by show w.heap.size ≠ g; omega)).trans ?_
  refine (heap_alloc_old _ _ ?_).trans (heap_alloc_new w _)
  show w.heap.size < (w.heap.push _).size
  rw [Array.size_push]; omega
theorem compose_Of.cut1 (c : Nat) (A : Option Addr) (l : List S25) (W : World) : (Instr.slice 27 (.slice A (l.length + 1) c) (some (.int .i64 1)) none none).run Tryd.prog W = .ok (.slice (if c = 1 then A else A.map (·.add 3)) l.length (c - 1)) W := by
 obtain ⟨i0, hi0, _, hsz, _⟩ := info_parts info25
 have h := cut_from (P := Tryd.prog) 27 25 .i64 Tryd.underlying27 hi0 3 hsz A (l.length + 1) c 1 (by omega) (by omega) W
 exact h
theorem compose_Of.q1 {w : World} {base B c : Nat} {A : Option Addr} {x : S25} {l : List S25} (h : Kd.Q k25 25 w base (fun k => k = B) (.slice A (l.length + 1) c) (x :: l)) : Kd.Q k25 25 w base (fun k => k = B) (.slice (if c = 1 then A else A.map (·.add 3)) l.length (c - 1)) l := by
 have h2 := Kd.Q_drop (k := 1) h (by simp)
 exact h2
theorem compose_Of.cutq {w : World} {base B c : Nat} {A : Option Addr} {x : S25} {l : List S25} (hc : l.length + 1 ≤ c) (h : Kd.Q k25 25 w base (fun k => k = B) (.slice A (l.length + 1) c) (x :: l)) :
  ∃ (A3 : Option Addr) (c3 : Nat), (∀ W, (Instr.slice 27 (.slice A (l.length + 1) c) (some (.int .i64 1)) none none).run Tryd.prog W = .ok (.slice A3 l.length c3) W) ∧ Kd.Q k25 25 w base (fun k => k = B) (.slice A3 l.length c3) l ∧ l.length ≤ c3 :=
 ⟨_, _, compose_Of.cut1 c A l, compose_Of.q1 h, by omega⟩
theorem compose_Of.le_tail {x : S25} {l : List S25} {n : Nat} (h : normal_Of.t (x :: l) ≤ n) : normal_Of.t l ≤ n := by rw [normal_Of.t] at h; omega
theorem compose_Of.cells {w : World} {g : Nat} {a b c : Value} {t : TypeId} (h : w.heap[g]? = some (.cells #[a, b, c] t (0, 0))) : w.cell? ⟨g, 0, none⟩ = some a ∧ w.cell? ⟨g, 1, none⟩ = some b ∧ w.cell? ⟨g, 2, none⟩ = some c :=
 ⟨(blk_cell h 0).trans rfl, (blk_cell h 1).trans rfl, (blk_cell h 2).trans rfl⟩
set_option maxHeartbeats 8000000 in
set_option maxRecDepth 100000 in
theorem compose_Of.takeText (w0 w : World) (g B : Nat) (x : S25) (l : List S25) (t : List Int) (n : Nat) (hI : RD w0 w g B (x :: l) t) (hB : Below w0.heap.size w0 w) (hk : x.f0 = 2) (hn : n ≤ t.length) (hs : normal_Of.t (x :: l) ≤ 70368744177664) :
  Calls Tryd.prog 81 #[.pointer (some ⟨g, 0, none⟩), .int .i64 n] w fun e w' => e = .returned (.agg #[.int .i64 2, .int .i64 0, .string (runesBytes (t.take n))]) ∧ RD w0 w' g B (if wrap64 (x.f1 + ((t.drop n).length : Int)) = 0 then l else x :: l) (if wrap64 (x.f1 + ((t.drop n).length : Int)) = 0 then loadT l else t.drop n) ∧ Below w0.heap.size w0 w' ∧ Kept w w' (fun k => k = g ∨ k = B) := by
 obtain ⟨o, c, A', c', hc, h1, h2, q1, q2, x0, x1, x2, f1, _, hBl, _⟩ := RD_open hI
 have k0 : w.cell? ⟨g, 0, none⟩ = some (.slice (some ⟨B, o, none⟩) (l.length + 1) c) := (blk_cell hc 0).trans rfl
 have k1 : w.cell? ⟨g, 1, none⟩ = some (.slice A' t.length c') := (blk_cell hc 1).trans rfl
 have fz : w.frozen? ⟨g, 1, none⟩ = false := blk_frozen hc 1
 have p1 : (0 < l.length + 1) = True := eq_true (by omega)
 have hcv := fun (o1 o2 : Obj) (m : Nat) => runes_str (Kd.Q_alloc (Kd.Q_alloc q2 o1) o2) n hn m
 have hcv1 := fun (o1 o2 : Obj) => (show (convert 87 9 (.slice A' n c')).run Tryd.prog (((w.alloc o1).alloc o2).drew) = .ok (.string (runesBytes (t.take n))) (((w.alloc o1).alloc o2).drew) from hcv o1 o2 1)
 have hcv2 := fun (o1 o2 : Obj) => (show (convert 87 9 (.slice A' n c')).run Tryd.prog (((w.alloc o1).alloc o2).drew.drew) = .ok (.string (runesBytes (t.take n))) (((w.alloc o1).alloc o2).drew.drew) from hcv o1 o2 2)
 obtain ⟨i0, hi0, _, hsz, _⟩ := info_parts info21
 have hcut := cut_from (P := Tryd.prog) 87 21 .i64 Tryd.underlying87 hi0 1 hsz A' t.length c' (n : Int) (by omega) (by omega)
 have hcut2 := cut_to (P := Tryd.prog) 87 21 .i64 Tryd.underlying87 hi0 A' t.length c' (n : Int) (by omega) (by omega) h2
 rw [Int.toNat_natCast] at hcut2
 obtain ⟨A2, hA2⟩ : ∃ A2, (if c' = ((n : Int)).toNat then A' else A'.map (·.add (((n : Int)).toNat * 1))) = A2 := ⟨_, rfl⟩
 rw [hA2, Int.toNat_natCast] at hcut
 have ha := fun (o1 : Obj) => blk_below hc (below_alloc (Below.refl w.heap.size w) o1)
 have hb := fun (o1 o2 : Obj) => blk_below hc (below_alloc (below_alloc (Below.refl w.heap.size w) o1) o2)
 have k0a : ∀ o1 : Obj, (w.alloc o1).cell? ⟨g, 0, none⟩ = some (.slice (some ⟨B, o, none⟩) (l.length + 1) c) := fun o1 => (blk_cell (ha o1) 0).trans rfl
 have k1b : ∀ o1 o2 : Obj, ((w.alloc o1).alloc o2).cell? ⟨g, 1, none⟩ = some (.slice A' t.length c') := fun o1 o2 => (blk_cell (hb o1 o2) 1).trans rfl
 have k0b : ∀ o1 o2 : Obj, ((w.alloc o1).alloc o2).cell? ⟨g, 0, none⟩ = some (.slice (some ⟨B, o, none⟩) (l.length + 1) c) := fun o1 o2 => (blk_cell (hb o1 o2) 0).trans rfl
 have fzb : ∀ o1 o2 : Obj, ((w.alloc o1).alloc o2).frozen? ⟨g, 1, none⟩ = false := fun o1 o2 => blk_frozen (hb o1 o2) 1
 have x0a : ∀ o1 : Obj, (w.alloc o1).cell? ⟨B, o, none⟩ = some (.int .i64 x.f0) := fun o1 => pw_cell_below (below_alloc (Below.refl _ _) o1) x0
 clear ha hb
 have HI := am hI; have HB := am hB; have HC := am hc; have HQ2 := am q2; have HQ1 := am q1; have H1 := am h1; have H2 := am h2; have HN := am hn; have HS := am hs; have HA2 := am hA2
 obtain ⟨k, f1', f2'⟩ := x
 dsimp only at hk
 subst hk
 clear q1 q2 hc h1 h2 hI hB hn hs hi0 hsz hA2
 obtain ⟨t2, ht2⟩ : ∃ t2, t.drop n = t2 := ⟨_, rfl⟩
 obtain ⟨str, hstr⟩ : ∃ str, runesBytes (t.take n) = str := ⟨_, rfl⟩
 simp only [hstr] at hcv hcv1 hcv2
 rw [ht2, hstr]
 dsimp only
 obtain ⟨l3, hl3⟩ : ∃ l3, (if wrap64 (f1' + (t2.length : Int)) = 0 then l else (⟨2, f1', f2'⟩ : S25) :: l) = l3 := ⟨_, rfl⟩
 obtain ⟨t3, ht3⟩ : ∃ t3, (if wrap64 (f1' + (t2.length : Int)) = 0 then loadT l else t2) = t3 := ⟨_, rfl⟩
 rw [hl3, ht3]
 have HT2 := am ht2; have HL3 := am hl3; have HT33 := am ht3
 clear ht2 hstr hl3 ht3
 go_enter Tryd.func81, Tryd.ntmps81
 go_wp2
 go_region
 have hT := TK_text (s := str) HI.out HC.out H1.out H2.out HQ1.out HQ2.out HB.out HN.out HA2.out
 rw [HT2.out] at hT
 have HT3 := am hT
 have HR3 := am hT.1
 have HGL := am (RD_lt HI.out)
 have HBL := am hBl
 clear hT hBl
 by_cases z : wrap64 (f1' + (t2.length : Int)) = 0
 ·have zb : (wrap64 (f1' + (t2.length : Int)) == 0) = true := beq_iff_eq.mpr z
  clear z
  go_wp2_with (first | (go_at_call 82; (with_reducible refine (compose_Of.size w0 _ g B (⟨2, f1', f2'⟩ : S25) l t2 HR3.out).mono ?_); rintro e w4 ⟨rfl, m, hm⟩; have HT4 := am (show TK w0 w w4 g B (⟨2, f1', f2'⟩ :: l) t2 2 0 str from by rw [hm]; exact TK_drewN HT3.out m); clear hm HT3 HR3; obtain ⟨o4, c4, A4, c4', hc4, h41, h42, q41, q42, _⟩ := RD_open HT4.out.1; have k4 : w4.cell? ⟨g, 0, none⟩ = some (.slice (some ⟨B, o4, none⟩) (l.length + 1) c4) := (blk_cell hc4 0).trans rfl; have fz4 : w4.frozen? ⟨g, 0, none⟩ = false := blk_frozen hc4 0; obtain ⟨A5, c5, hcut4, hq4, h43⟩ := compose_Of.cutq h41 q41; have HNX := am (RD_next HT4.out.1 h43 hq4); have HBX := am (HT4.out.2.1.setCell (p := ⟨g, 0, none⟩) HT4.out.1.1 (.slice A5 l.length c5)); clear hc4 h41 h42 h43 q41 q42 hq4) | (go_at_call 92; (with_reducible refine (compose_Of.load w0 _ g B l t2 HNX.out HBX.out (compose_Of.le_tail HS.out)).mono ?_); rintro e w5 ⟨rfl, hI5, hB5, hK5⟩; have HT5 := am (TK_step HT4.out HGL.out hI5 hB5 (((Kept.refl w4 (fun k => k = g)).setCell (p := ⟨g, 0, none⟩) (.inl rfl) _).then_ hK5 (fun k hk => .inl hk))); clear hI5 hB5 hK5 HT4 HNX HBX; obtain ⟨s50, s51, s52⟩ := compose_Of.cells HT5.out.2.2.2.1; obtain ⟨r50, r51, r52⟩ := compose_Of.cells HT5.out.2.2.2.2; have z50 : w5.frozen? ⟨w.heap.size, 0, none⟩ = false := blk_frozen HT5.out.2.2.2.2 0; have z51 : w5.frozen? ⟨w.heap.size, 1, none⟩ = false := blk_frozen HT5.out.2.2.2.2 1; have z52 : w5.frozen? ⟨w.heap.size, 2, none⟩ = false := blk_frozen HT5.out.2.2.2.2 2))
  have hl3 := HL3.out; have ht3 := HT33.out
  have hzz : wrap64 (f1' + (t2.length : Int)) = 0 := beq_iff_eq.mp zb
  rw [if_pos hzz] at hl3 ht3
  subst hl3; subst ht3
  obtain ⟨e1, e2, e3, e4⟩ := TK_end HT5.out HGL.out (.inl HBL.out) HB.out.size
  refine bodyPost_ret (results_cell_row rfl _ _ w.heap.size 25 #[.int .i64 2, .int .i64 0, .string str] (0, 0) _ rfl e1 Tryd.underlying25 rfl (by kernel_rfl)) rfl ?_
  exact ⟨rfl, e2, e3, e4⟩
 ·have zb : (wrap64 (f1' + (t2.length : Int)) == 0) = false := beq_eq_false_iff_ne.mpr z
  clear z
  go_wp2_with (go_at_call 82; (with_reducible refine (compose_Of.size w0 _ g B (⟨2, f1', f2'⟩ : S25) l t2 HR3.out).mono ?_); rintro e w4 ⟨rfl, m, hm⟩; have HT4 := am (show TK w0 w w4 g B (⟨2, f1', f2'⟩ :: l) t2 2 0 str from by rw [hm]; exact TK_drewN HT3.out m); clear hm HT3 HR3; obtain ⟨s50, s51, s52⟩ := compose_Of.cells HT4.out.2.2.2.1; obtain ⟨r50, r51, r52⟩ := compose_Of.cells HT4.out.2.2.2.2; have z50 : w4.frozen? ⟨w.heap.size, 0, none⟩ = false := blk_frozen HT4.out.2.2.2.2 0; have z51 : w4.frozen? ⟨w.heap.size, 1, none⟩ = false := blk_frozen HT4.out.2.2.2.2 1; have z52 : w4.frozen? ⟨w.heap.size, 2, none⟩ = false := blk_frozen HT4.out.2.2.2.2 2)
  have hl3 := HL3.out; have ht3 := HT33.out
  have hzz : ¬ wrap64 (f1' + (t2.length : Int)) = 0 := beq_eq_false_iff_ne.mp zb
  rw [if_neg hzz] at hl3 ht3
  subst hl3; subst ht3
  obtain ⟨e1, e2, e3, e4⟩ := TK_end HT4.out HGL.out (.inl HBL.out) HB.out.size
  refine bodyPost_ret (results_cell_row rfl _ _ w.heap.size 25 #[.int .i64 2, .int .i64 0, .string str] (0, 0) _ rfl e1 Tryd.underlying25 rfl (by kernel_rfl)) rfl ?_
  exact ⟨rfl, e2, e3, e4⟩
theorem compose_Of.froz {w W : World} {B : Nat} {t : TypeId} (h : ∃ cells, w.heap[B]? = some (.cells cells t (0, 0))) (hb : Below w.heap.size w W) (j : Nat) : W.frozen? ⟨B, j, none⟩ = false := by
 obtain ⟨cells, h⟩ := h
 exact blk_frozen (blk_below h hb) j
theorem TK_num {w0 w : World} {g B o c c' : Nat} {A' : Option Addr} {x : S25} {l : List S25} {t : List Int} {n : Int} (v1 : Int) (hI : RD w0 w g B (x :: l) t) (hB : Below w0.heap.size w0 w)
  (hc : w.heap[g]? = some (.cells #[.slice (some ⟨B, o, none⟩) (l.length + 1) c, .slice A' t.length c'] 154 (0, 0))) (h1 : l.length + 1 ≤ c) (h2 : t.length ≤ c')
  (q1 : Kd.Q k25 25 w w0.heap.size (fun k => k = B) (.slice (some ⟨B, o, none⟩) (l.length + 1) c) (x :: l)) (q2 : Kd.Q (Kd.int .i32) 21 w w0.heap.size (fun _ => True) (.slice A' t.length c') t)
  (hBc : ∃ cells, w.heap[B]? = some (.cells cells 25 (0, 0))) (hBb : w0.heap.size ≤ B) :
  TK w0 w ((((w.alloc (.cells #[.int .i64 0, .int .i64 0, .string ⟨#[]⟩] 25)).alloc (.cells #[.int .i64 x.f0, .int .i64 n, .string ⟨#[]⟩] 25)).setCell ⟨B, o + 1, none⟩ (.int .i64 v1))) g B (⟨x.f0, v1, x.f2⟩ :: l) t x.f0 n ⟨#[]⟩ := by
 have hg := RD_lt hI
 obtain ⟨cells, hcl⟩ := hBc
 have hBl := blk_lt hcl
 have hb := below_alloc (below_alloc (Below.refl w.heap.size w) (.cells #[.int .i64 0, .int .i64 0, .string ⟨#[]⟩] 25)) (.cells #[.int .i64 x.f0, .int .i64 n, .string ⟨#[]⟩] 25)
 have hc2 := blk_below hc hb
 have hcl2 := blk_below hcl hb
 have q1' := Kd.Q_below q1 hb
 have q2' := Kd.Q_below q2 hb
 have hne : g ≠ B := by
  intro e
  subst e
  rw [hc] at hcl
  injection hcl with hcl
  injection hcl with _ hcl
  exact absurd hcl (by decide)
 obtain ⟨ce, hce, hM, hcc, hfr⟩ := Kd.Q_elem q1' z25 0 (by omega) (by simp)
 obtain rfl := k25_openM hM
 obtain ⟨q3, hg3⟩ := Kd.Q_seg q1' 0 (by omega) (by simp) (seg := [.int .i64 v1]) (j := 1) hce hcc (show 2 ≤ 3 from by decide) (x' := (⟨x.f0, v1, x.f2⟩ : S25)) (k25_mkM _ _ _ (⟨x.f0, v1, x.f2⟩ : S25)) (fun _ hk => hk)
 refine ⟨⟨hI.1, some ⟨B, o, none⟩, c, A', c', ?_, h1, h2, q3, Kd.Q_set q2' hcl2 (by decide) (o + 1) _⟩, (below_alloc (below_alloc hB _) _).setCell (p := ⟨B, o + 1, none⟩) hBb _, (((Kept.refl w (fun k => k = g ∨ k = B)).alloc _).alloc _).setCell (p := ⟨B, o + 1, none⟩) (.inl (.inr rfl)) _, ?_, ?_⟩
 ·exact (Below.heap_setCell _ _ _ _ hne).trans hc2
 ·refine (Below.heap_setCell _ _ _ _ (by show w.heap.size + 1 ≠ B; omega)).trans ?_
  exact heap_alloc2_new w _ _
 ·refine (Below.heap_setCell _ _ _ _ (by show w.heap.size ≠ B; omega)).trans ?_
  refine (heap_alloc_old _ _ ?_).trans (heap_alloc_new w _)
  show w.heap.size < (w.heap.push _).size
  rw [Array.size_push]; omega
set_option maxHeartbeats 8000000 in
set_option maxRecDepth 100000 in
theorem compose_Of.takeN (w0 w : World) (g B : Nat) (x : S25) (l : List S25) (t : List Int) (n : Int) (hI : RD w0 w g B (x :: l) t) (hB : Below w0.heap.size w0 w) (hk : x.f0 ≠ 2) (hs : normal_Of.t (x :: l) ≤ 70368744177664) :
  Calls Tryd.prog 81 #[.pointer (some ⟨g, 0, none⟩), .int .i64 n] w fun e w' => e = .returned (.agg #[.int .i64 x.f0, .int .i64 n, .string ⟨#[]⟩]) ∧ RD w0 w' g B (if wrap64 (wrap64 (x.f1 - n) + (t.length : Int)) = 0 then l else ⟨x.f0, wrap64 (x.f1 - n), x.f2⟩ :: l) (if wrap64 (wrap64 (x.f1 - n) + (t.length : Int)) = 0 then loadT l else t) ∧ Below w0.heap.size w0 w' ∧ Kept w w' (fun k => k = g ∨ k = B) := by
 obtain ⟨o, c, A', c', hc, h1, h2, q1, q2, x0, x1, x2, f1, hBb, hBl, hg0, hBc⟩ := RD_open hI
 have k0 : w.cell? ⟨g, 0, none⟩ = some (.slice (some ⟨B, o, none⟩) (l.length + 1) c) := (blk_cell hc 0).trans rfl
 have k1 : w.cell? ⟨g, 1, none⟩ = some (.slice A' t.length c') := (blk_cell hc 1).trans rfl
 have fz : w.frozen? ⟨g, 1, none⟩ = false := blk_frozen hc 1
 have p1 : (0 < l.length + 1) = True := eq_true (by omega)
 have ha := fun (o1 : Obj) => blk_below hc (below_alloc (Below.refl w.heap.size w) o1)
 have hb := fun (o1 o2 : Obj) => blk_below hc (below_alloc (below_alloc (Below.refl w.heap.size w) o1) o2)
 have k0a : ∀ o1 : Obj, (w.alloc o1).cell? ⟨g, 0, none⟩ = some (.slice (some ⟨B, o, none⟩) (l.length + 1) c) := fun o1 => (blk_cell (ha o1) 0).trans rfl
 have k1b : ∀ o1 o2 : Obj, ((w.alloc o1).alloc o2).cell? ⟨g, 1, none⟩ = some (.slice A' t.length c') := fun o1 o2 => (blk_cell (hb o1 o2) 1).trans rfl
 have k0b : ∀ o1 o2 : Obj, ((w.alloc o1).alloc o2).cell? ⟨g, 0, none⟩ = some (.slice (some ⟨B, o, none⟩) (l.length + 1) c) := fun o1 o2 => (blk_cell (hb o1 o2) 0).trans rfl
 have fzb : ∀ o1 o2 : Obj, ((w.alloc o1).alloc o2).frozen? ⟨g, 1, none⟩ = false := fun o1 o2 => blk_frozen (hb o1 o2) 1
 have x0a : ∀ o1 : Obj, (w.alloc o1).cell? ⟨B, o, none⟩ = some (.int .i64 x.f0) := fun o1 => pw_cell_below (below_alloc (Below.refl _ _) o1) x0
 have x1b : ∀ o1 o2 : Obj, ((w.alloc o1).alloc o2).cell? ⟨B, o + 1, none⟩ = some (.int .i64 x.f1) := fun o1 o2 => pw_cell_below (below_alloc (below_alloc (Below.refl _ _) o1) o2) x1
 have f1b : ∀ o1 o2 : Obj, ((w.alloc o1).alloc o2).frozen? ⟨B, o + 1, none⟩ = false := fun o1 o2 => compose_Of.froz hBc (below_alloc (below_alloc (Below.refl _ _) o1) o2) _
 have HBC := am hBc
 clear ha hb hBc
 have HI := am hI; have HB := am hB; have HC := am hc; have HQ2 := am q2; have HQ1 := am q1; have H1 := am h1; have H2 := am h2; have HS := am hs; have HBB := am hBb; have HGL := am (RD_lt hI); have HBL := am hBl
 have kb : (x.f0 == 2) = false := beq_eq_false_iff_ne.mpr hk
 clear q1 q2 hc h1 h2 hI hB hs hk hBb hBl hg0
 obtain ⟨v1, hv1⟩ : ∃ v1, wrap64 (x.f1 - n) = v1 := ⟨_, rfl⟩
 rw [hv1]
 obtain ⟨l3, hl3⟩ : ∃ l3, (if wrap64 (v1 + (t.length : Int)) = 0 then l else (⟨x.f0, v1, x.f2⟩ : S25) :: l) = l3 := ⟨_, rfl⟩
 obtain ⟨t3, ht3⟩ : ∃ t3, (if wrap64 (v1 + (t.length : Int)) = 0 then loadT l else t) = t3 := ⟨_, rfl⟩
 rw [hl3, ht3]
 have HL3 := am hl3; have HT33 := am ht3
 clear hl3 ht3
 go_enter Tryd.func81, Tryd.ntmps81
 have hT := TK_num (n := n) v1 HI.out HB.out HC.out H1.out H2.out HQ1.out HQ2.out HBC.out HBB.out
 have HT3 := am hT
 have HR3 := am hT.1
 clear hT
 by_cases z : wrap64 (v1 + (t.length : Int)) = 0
 ·have zb : (wrap64 (v1 + (t.length : Int)) == 0) = true := beq_iff_eq.mpr z
  clear z
  go_wp2_with (first | (go_at_call 82; (with_reducible refine (compose_Of.size w0 _ g B (⟨x.f0, v1, x.f2⟩ : S25) l t HR3.out).mono ?_); rintro e w4 ⟨rfl, m, hm⟩; have HT4 := am (show TK w0 w w4 g B (⟨x.f0, v1, x.f2⟩ :: l) t x.f0 n ⟨#[]⟩ from by rw [hm]; exact TK_drewN HT3.out m); clear hm HT3 HR3; obtain ⟨o4, c4, A4, c4', hc4, h41, h42, q41, q42, _⟩ := RD_open HT4.out.1; have k4 : w4.cell? ⟨g, 0, none⟩ = some (.slice (some ⟨B, o4, none⟩) (l.length + 1) c4) := (blk_cell hc4 0).trans rfl; have fz4 : w4.frozen? ⟨g, 0, none⟩ = false := blk_frozen hc4 0; obtain ⟨A5, c5, hcut4, hq4, h43⟩ := compose_Of.cutq h41 q41; have HNX := am (RD_next HT4.out.1 h43 hq4); have HBX := am (HT4.out.2.1.setCell (p := ⟨g, 0, none⟩) HT4.out.1.1 (.slice A5 l.length c5)); clear hc4 h41 h42 h43 q41 q42 hq4) | (go_at_call 92; (with_reducible refine (compose_Of.load w0 _ g B l t HNX.out HBX.out (compose_Of.le_tail HS.out)).mono ?_); rintro e w5 ⟨rfl, hI5, hB5, hK5⟩; have HT5 := am (TK_step HT4.out HGL.out hI5 hB5 (((Kept.refl w4 (fun k => k = g)).setCell (p := ⟨g, 0, none⟩) (.inl rfl) _).then_ hK5 (fun k hk => .inl hk))); clear hI5 hB5 hK5 HT4 HNX HBX; obtain ⟨s50, s51, s52⟩ := compose_Of.cells HT5.out.2.2.2.1; obtain ⟨r50, r51, r52⟩ := compose_Of.cells HT5.out.2.2.2.2; have z50 : w5.frozen? ⟨w.heap.size, 0, none⟩ = false := blk_frozen HT5.out.2.2.2.2 0; have z51 : w5.frozen? ⟨w.heap.size, 1, none⟩ = false := blk_frozen HT5.out.2.2.2.2 1; have z52 : w5.frozen? ⟨w.heap.size, 2, none⟩ = false := blk_frozen HT5.out.2.2.2.2 2))
  have hl3 := HL3.out; have ht3 := HT33.out
  have hzz : wrap64 (v1 + (t.length : Int)) = 0 := beq_iff_eq.mp zb
  rw [if_pos hzz] at hl3 ht3
  subst hl3; subst ht3
  obtain ⟨e1, e2, e3, e4⟩ := TK_end HT5.out HGL.out (.inl HBL.out) HB.out.size
  refine bodyPost_ret (results_cell_row rfl _ _ w.heap.size 25 #[.int .i64 x.f0, .int .i64 n, .string ⟨#[]⟩] (0, 0) _ rfl e1 Tryd.underlying25 rfl (by kernel_rfl)) rfl ?_
  exact ⟨rfl, e2, e3, e4⟩
 ·have zb : (wrap64 (v1 + (t.length : Int)) == 0) = false := beq_eq_false_iff_ne.mpr z
  clear z
  go_wp2_with (go_at_call 82; (with_reducible refine (compose_Of.size w0 _ g B (⟨x.f0, v1, x.f2⟩ : S25) l t HR3.out).mono ?_); rintro e w4 ⟨rfl, m, hm⟩; have HT4 := am (show TK w0 w w4 g B (⟨x.f0, v1, x.f2⟩ :: l) t x.f0 n ⟨#[]⟩ from by rw [hm]; exact TK_drewN HT3.out m); clear hm HT3 HR3; obtain ⟨s50, s51, s52⟩ := compose_Of.cells HT4.out.2.2.2.1; obtain ⟨r50, r51, r52⟩ := compose_Of.cells HT4.out.2.2.2.2; have z50 : w4.frozen? ⟨w.heap.size, 0, none⟩ = false := blk_frozen HT4.out.2.2.2.2 0; have z51 : w4.frozen? ⟨w.heap.size, 1, none⟩ = false := blk_frozen HT4.out.2.2.2.2 1; have z52 : w4.frozen? ⟨w.heap.size, 2, none⟩ = false := blk_frozen HT4.out.2.2.2.2 2)
  have hl3 := HL3.out; have ht3 := HT33.out
  have hzz : ¬ wrap64 (v1 + (t.length : Int)) = 0 := beq_eq_false_iff_ne.mp zb
  rw [if_neg hzz] at hl3 ht3
  subst hl3; subst ht3
  obtain ⟨e1, e2, e3, e4⟩ := TK_end HT4.out HGL.out (.inl HBL.out) HB.out.size
  refine bodyPost_ret (results_cell_row rfl _ _ w.heap.size 25 #[.int .i64 x.f0, .int .i64 n, .string ⟨#[]⟩] (0, 0) _ rfl e1 Tryd.underlying25 rfl (by kernel_rfl)) rfl ?_
  exact ⟨rfl, e2, e3, e4⟩
theorem compose_Of.cells2 {w : World} {g : Nat} {a b : Value} {t : TypeId} (h : w.heap[g]? = some (.cells #[a, b] t (0, 0))) : w.cell? ⟨g, 0, none⟩ = some a ∧ w.cell? ⟨g, 1, none⟩ = some b := ⟨(blk_cell h 0).trans rfl, (blk_cell h 1).trans rfl⟩
def compose_Of.sz : List S25 → List Int → Option Int
 | [], _ => none
 | x :: _, t => some (wrap64 (x.f1 + (t.length : Int)))
def compose_Of.tk : List S25 → List Int → Int → Option (S25 × List S25 × List Int)
 | [], _, _ => none
 | x :: l, t, n => if x.f0 = 2 then (if 0 ≤ n ∧ n ≤ (t.length : Int) then some (⟨2, 0, runesBytes (t.take n.toNat)⟩, (if wrap64 (x.f1 + ((t.drop n.toNat).length : Int)) = 0 then l else x :: l), (if wrap64 (x.f1 + ((t.drop n.toNat).length : Int)) = 0 then loadT l else t.drop n.toNat)) else none)
  else some (⟨x.f0, n, ⟨#[]⟩⟩, (if wrap64 (wrap64 (x.f1 - n) + (t.length : Int)) = 0 then l else ⟨x.f0, wrap64 (x.f1 - n), x.f2⟩ :: l), (if wrap64 (wrap64 (x.f1 - n) + (t.length : Int)) = 0 then loadT l else t))
def compose_Of.l : Nat → List S25 → List Int → List S25 → List Int → List S25 → Option (List S25)
 | 0, _, _, _, _, _ => none
 | k + 1, xl, xt, yl, yt, out =>
  if out.length < 1000000000 then
   if kindT yl = 2 then (compose_Of.sz yl yt).bind fun n => (compose_Of.tk yl yt n).bind fun r => compose_Of.l k xl xt r.2.1 r.2.2 (out ++ [r.1])
   else if kindT xl = 3 then (compose_Of.sz xl xt).bind fun n => (compose_Of.tk xl xt n).bind fun r => compose_Of.l k r.2.1 r.2.2 yl yt (out ++ [r.1])
   else if kindT xl = 0 then some out
   else if kindT yl = 0 then some out
   else (compose_Of.sz xl xt).bind fun n1 => (compose_Of.sz yl yt).bind fun n2 => (compose_Of.tk xl xt (mn n1 n2)).bind fun p => (compose_Of.tk yl yt (mn n1 n2)).bind fun q =>
    if q.1.f0 = 1 then compose_Of.l k p.2.1 p.2.2 q.2.1 q.2.2 (out ++ [p.1]) else if p.1.f0 = 1 then compose_Of.l k p.2.1 p.2.2 q.2.1 q.2.2 (out ++ [q.1]) else compose_Of.l k p.2.1 p.2.2 q.2.1 q.2.2 out
  else none
theorem compose_Of.mono_l : ∀ (k : Nat) (xl : List S25) (xt : List Int) (yl : List S25) (yt : List Int) (out : List S25), LeO (compose_Of.l k xl xt yl yt out) (compose_Of.l (k + 1) xl xt yl yt out)
 | 0, _, _, _, _, _ => fun r h => by simp [compose_Of.l] at h
 | k + 1, xl, xt, yl, yt, out => by
  have ih := compose_Of.mono_l k
  unfold compose_Of.l
  refine LeO.ite (LeO.ite (LeO.bind (LeO.refl _) fun n => LeO.bind (LeO.refl _) fun r => ih _ _ _ _ _) (LeO.ite (LeO.bind (LeO.refl _) fun n => LeO.bind (LeO.refl _) fun r => ih _ _ _ _ _) (LeO.ite (LeO.refl _) (LeO.ite (LeO.refl _) (LeO.bind (LeO.refl _) fun n1 => LeO.bind (LeO.refl _) fun n2 => LeO.bind (LeO.refl _) fun p => LeO.bind (LeO.refl _) fun q => LeO.ite (ih _ _ _ _ _) (LeO.ite (ih _ _ _ _ _) (ih _ _ _ _ _))))))) (LeO.none _)
theorem compose_Of.take (w0 w : World) (g B : Nat) (l : List S25) (t : List Int) (n : Int) (r : S25 × List S25 × List Int) (hI : RD w0 w g B l t) (hB : Below w0.heap.size w0 w) (hs : normal_Of.t l ≤ 70368744177664) (h : compose_Of.tk l t n = some r) :
  Calls Tryd.prog 81 #[.pointer (some ⟨g, 0, none⟩), .int .i64 n] w fun e w' => e = .returned (.agg #[.int .i64 r.1.f0, .int .i64 r.1.f1, .string r.1.f2]) ∧ RD w0 w' g B r.2.1 r.2.2 ∧ Below w0.heap.size w0 w' ∧ Kept w w' (fun k => k = g ∨ k = B) := by
 cases l with
 | nil => simp [compose_Of.tk] at h
 | cons x l =>
  rw [compose_Of.tk] at h
  by_cases c : x.f0 = 2
  ·rw [if_pos c] at h
   by_cases c2 : 0 ≤ n ∧ n ≤ (t.length : Int)
   ·rw [if_pos c2] at h
    obtain rfl := Option.some.inj h
    obtain ⟨m, rfl⟩ := Int.eq_ofNat_of_zero_le c2.1
    exact compose_Of.takeText w0 w g B x l t m hI hB c (by omega) hs
   ·rw [if_neg c2] at h; cases h
  ·rw [if_neg c] at h
   obtain rfl := Option.some.inj h
   exact compose_Of.takeN w0 w g B x l t n hI hB c hs
theorem compose_Of.size' (w0 w : World) (g B : Nat) (l : List S25) (t : List Int) (n : Int) (hI : RD w0 w g B l t) (h : compose_Of.sz l t = some n) :
  Calls Tryd.prog 82 #[.pointer (some ⟨g, 0, none⟩)] w fun e w' => e = .returned (.int .i64 n) ∧ ∃ m, w' = w.drewN m := by
 cases l with
 | nil => simp [compose_Of.sz] at h
 | cons x l =>
  obtain rfl := Option.some.inj h
  exact compose_Of.size w0 w g B x l t hI
theorem compose_Of.tk_t {l : List S25} {t : List Int} {n : Int} {r : S25 × List S25 × List Int} (h : compose_Of.tk l t n = some r) : l ≠ [] ∧ normal_Of.t r.2.1 ≤ normal_Of.t l := by
 cases l with
 | nil => simp [compose_Of.tk] at h
 | cons x l =>
  refine ⟨by simp, ?_⟩
  rw [compose_Of.tk] at h
  split at h
  ·split at h
   ·obtain rfl := Option.some.inj h
    dsimp only
    split <;> simp [normal_Of.t]
   ·cases h
  ·obtain rfl := Option.some.inj h
   dsimp only
   split <;> simp [normal_Of.t]
def CI (w0 W : World) (g1 B1 g2 B2 : Nat) (xl : List S25) (xt : List Int) (yl : List S25) (yt : List Int) (v : Value) (out : List S25) : Prop :=
 RD w0 W g1 B1 xl xt ∧ RD w0 W g2 B2 yl yt ∧ Kd.R k25 25 W w0.heap.size (fun k => k ≠ B1 ∧ k ≠ B2) v out ∧ Below w0.heap.size w0 W ∧ (g1 ≠ g2 ∧ g1 ≠ B2 ∧ B1 ≠ g2 ∧ B1 ≠ B2) ∧ B1 < W.heap.size ∧ B2 < W.heap.size ∧ normal_Of.t xl ≤ 70368744177664 ∧ normal_Of.t yl ≤ 70368744177664
theorem RD_typed {w0 W : World} {g B : Nat} {l : List S25} {t : List Int} (h : RD w0 W g B l t) : ∃ cells, W.heap[g]? = some (.cells cells 154 (0, 0)) := by
 obtain ⟨_, A, c, A', c', hc, _⟩ := h
 exact ⟨_, hc⟩
theorem RD_typed2 {w0 W : World} {g B : Nat} {l : List S25} {t : List Int} (h : RD w0 W g B l t) (hl : l ≠ []) : ∃ cells, W.heap[B]? = some (.cells cells 25 (0, 0)) := by
 cases l with
 | nil => exact absurd rfl hl
 | cons x l => exact (RD_open h).choose_spec.choose_spec.choose_spec.choose_spec.2.2.2.2.2.2.2.2.2.2.2.2
theorem CI_R {w0 W W' : World} {B1 B2 g B : Nat} {v : Value} {out : List S25} (h : Kd.R k25 25 W w0.heap.size (fun k => k ≠ B1 ∧ k ≠ B2) v out) (hk : Kept W W' (fun k => k = g ∨ k = B)) (hB : B = B1 ∨ B = B2) (hg : ∃ cells, W.heap[g]? = some (.cells cells 154 (0, 0))) :
  Kd.R k25 25 W' w0.heap.size (fun k => k ≠ B1 ∧ k ≠ B2) v out := by
 obtain ⟨cells, hg⟩ := hg
 refine Kd.R_mono (Kd.R_kept (Kd.R_types h hg (by decide)) hk ?_) (fun k hk => hk.1)
 intro k hk1 hk2
 rcases hk2 with e | e
 ·exact hk1.2 e
 ·rcases hB with hB | hB
  ·exact hk1.1.1 (by omega)
  ·exact hk1.1.2 (by omega)
theorem CI_y {w0 W W' : World} {g1 B1 g2 B2 : Nat} {xl : List S25} {xt : List Int} {yl yl' : List S25} {yt yt' : List Int} {v : Value} {out : List S25} (h : CI w0 W g1 B1 g2 B2 xl xt yl yt v out) (hI : RD w0 W' g2 B2 yl' yt') (hB : Below w0.heap.size w0 W') (hK : Kept W W' (fun k => k = g2 ∨ k = B2)) (hne : yl ≠ []) (ht : normal_Of.t yl' ≤ normal_Of.t yl) :
  CI w0 W' g1 B1 g2 B2 xl xt yl' yt' v out := by
 obtain ⟨h1, h2, h3, h4, ⟨d1, d2, d3, d4⟩, b1, b2, t1, t2⟩ := h
 refine ⟨RD_kept h1 hK (by omega) (by omega) ?_, hI, CI_R h3 hK (.inr rfl) (RD_typed h2), hB, ⟨d1, d2, d3, d4⟩, Nat.lt_of_lt_of_le b1 hK.1, Nat.lt_of_lt_of_le b2 hK.1, t1, Nat.le_trans ht t2⟩
 intro k hk
 rcases hk with rfl | rfl
 ·obtain ⟨c, e⟩ := RD_typed h2; exact ⟨c, _, e, by decide⟩
 ·obtain ⟨c, e⟩ := RD_typed2 h2 hne; exact ⟨c, _, e, by decide⟩
theorem CI_x {w0 W W' : World} {g1 B1 g2 B2 : Nat} {xl xl' : List S25} {xt xt' : List Int} {yl : List S25} {yt : List Int} {v : Value} {out : List S25} (h : CI w0 W g1 B1 g2 B2 xl xt yl yt v out) (hI : RD w0 W' g1 B1 xl' xt') (hB : Below w0.heap.size w0 W') (hK : Kept W W' (fun k => k = g1 ∨ k = B1)) (hne : xl ≠ []) (ht : normal_Of.t xl' ≤ normal_Of.t xl) :
  CI w0 W' g1 B1 g2 B2 xl' xt' yl yt v out := by
 obtain ⟨h1, h2, h3, h4, ⟨d1, d2, d3, d4⟩, b1, b2, t1, t2⟩ := h
 refine ⟨hI, RD_kept h2 hK (by omega) (by omega) ?_, CI_R h3 hK (.inl rfl) (RD_typed h1), hB, ⟨d1, d2, d3, d4⟩, Nat.lt_of_lt_of_le b1 hK.1, Nat.lt_of_lt_of_le b2 hK.1, Nat.le_trans ht t1, t2⟩
 intro k hk
 rcases hk with rfl | rfl
 ·obtain ⟨c, e⟩ := RD_typed h1; exact ⟨c, _, e, by decide⟩
 ·obtain ⟨c, e⟩ := RD_typed2 h1 hne; exact ⟨c, _, e, by decide⟩
theorem CI_drewN {w0 W : World} {g1 B1 g2 B2 : Nat} {xl : List S25} {xt : List Int} {yl : List S25} {yt : List Int} {v : Value} {out : List S25} (h : CI w0 W g1 B1 g2 B2 xl xt yl yt v out) (m : Nat) : CI w0 (W.drewN m) g1 B1 g2 B2 xl xt yl yt v out := by
 obtain ⟨h1, h2, h3, h4, d, b1, b2, t1, t2⟩ := h
 exact ⟨RD_drewN h1 m, RD_drewN h2 m, Kd.R_drewN h3 m, pw_below_drewN h4 m, d, b1, b2, t1, t2⟩
theorem RD_below {w0 W W1 : World} {g B : Nat} {l : List S25} {t : List Int} (h : RD w0 W g B l t) (hb : Below W.heap.size W W1) : RD w0 W1 g B l t :=
 RD_kept h (Kept.of_below hb (fun _ => False)) (fun h => h) (fun h => h) (fun _ h => h.elim)
theorem CI_below {w0 W W1 : World} {g1 B1 g2 B2 : Nat} {xl : List S25} {xt : List Int} {yl : List S25} {yt : List Int} {v : Value} {out : List S25} (h : CI w0 W g1 B1 g2 B2 xl xt yl yt v out) (hb : Below W.heap.size W W1) : CI w0 W1 g1 B1 g2 B2 xl xt yl yt v out := by
 obtain ⟨h1, h2, h3, h4, d, b1, b2, t1, t2⟩ := h
 exact ⟨RD_below h1 hb, RD_below h2 hb, Kd.R_below h3 hb, below_then h4 h4.size hb, d, Nat.lt_of_lt_of_le b1 hb.size, Nat.lt_of_lt_of_le b2 hb.size, t1, t2⟩
theorem CI_app {w0 W W1 : World} {g1 B1 g2 B2 : Nat} {xl : List S25} {xt : List Int} {yl : List S25} {yt : List Int} {v v1 : Value} {out out1 : List S25} (h : CI w0 W g1 B1 g2 B2 xl xt yl yt v out) (hO : Kd.R k25 25 W1 w0.heap.size (fun k => k ≠ B1 ∧ k ≠ B2) v1 out1) (hB : Below w0.heap.size w0 W1) (hg : W.grownBy W1 v.ownBlock) : CI w0 W1 g1 B1 g2 B2 xl xt yl yt v1 out1 := by
 obtain ⟨h1, h2, h3, h4, d, b1, b2, t1, t2⟩ := h
 have hK : Kept W W1 (fun k => v.ownBlock = some k) := Kept.of_grown hg (Kept.refl _ _) (fun k e => .inl e)
 have hty : ∀ k, v.ownBlock = some k → ∃ cells, W.heap[k]? = some (.cells cells 25 (0, 0)) := fun k e => Kd.Q_typed (Kd.Q_of_R h3) k e
 have hS : ∀ k, v.ownBlock = some k → ∃ cells q, W.heap[k]? = some (.cells cells q (0, 0)) ∧ q ≠ 21 := fun k e => by
  obtain ⟨c, e'⟩ := hty k e
  exact ⟨c, _, e', by decide⟩
 have hng : ∀ g B l t, RD w0 W g B l t → ¬ v.ownBlock = some g := fun g B l t hR e => by
  obtain ⟨c, e1⟩ := RD_typed hR
  obtain ⟨c', e2⟩ := hty g e
  rw [e1] at e2
  injection e2 with e2
  injection e2 with _ e2
  exact absurd e2 (by decide)
 exact ⟨RD_kept h1 hK (hng _ _ _ _ h1) (fun e => (h3.1 _ e).1 rfl) hS, RD_kept h2 hK (hng _ _ _ _ h2) (fun e => (h3.1 _ e).2 rfl) hS, hO, hB, d, Nat.lt_of_lt_of_le b1 hK.1, Nat.lt_of_lt_of_le b2 hK.1, t1, t2⟩
theorem CI_new {w0 w2 w3 w4 : World} {g1 B1 g2 B2 : Nat} {l0 l1 : List S25} {xt yt : List Int} (h1 : RD w0 w3 g1 B1 (normal_Of.n l0) xt) (h2 : RD w0 w4 g2 B2 (normal_Of.n l1) yt) (d : w2.heap.size ≤ g1 ∧ w2.heap.size ≤ B1 ∧ B1 < w3.heap.size) (e1 : w3.heap.size ≤ g2) (e2 : w3.heap.size ≤ B2) (e3 : B2 < w4.heap.size)
  (hb : Below w0.heap.size w0 w4) (hk : Kept w3 w4 (fun _ => False)) (t1 : normal_Of.t l0 ≤ 70368744177664) (t2 : normal_Of.t l1 ≤ 70368744177664) : CI w0 w4 g1 B1 g2 B2 (normal_Of.n l0) xt (normal_Of.n l1) yt (.slice none 0 0) [] := by
 have hg := RD_lt h1
 refine ⟨RD_kept h1 hk (fun h => h) (fun h => h) (fun _ h => h.elim), h2, Kd.R_nil _ _ _ _ _, hb, ⟨by omega, by omega, by omega, by omega⟩, Nat.lt_of_lt_of_le d.2.2 hk.1, e3, Nat.le_trans (normal_Of.t_n l0) t1, Nat.le_trans (normal_Of.t_n l1) t2⟩
theorem CI_fresh {w0 W : World} {g1 B1 g2 B2 : Nat} {xl : List S25} {xt : List Int} {yl : List S25} {yt : List Int} {v : Value} {out : List S25} (h : CI w0 W g1 B1 g2 B2 xl xt yl yt v out) : ∀ k, W.heap.size ≤ k → k ≠ B1 ∧ k ≠ B2 := by
 obtain ⟨_, _, _, _, _, b1, b2, _, _⟩ := h
 intro k hk
 omega
theorem compose_Of.room {n : Nat} (h : n < 1000000000) : (n + 1) * 32 ≤ 140737488355328 := by omega
theorem compose_Of.lt {a b : Nat} (h : a + 1 ≤ b) : a < a + 1 := by omega
theorem compose_Of.size2 (w : World) (o1 o2 : Obj) : ((w.alloc o1).alloc o2).heap.size = w.heap.size + 2 := by
 show ((w.heap.push o1).push o2).size = _
 rw [Array.size_push, Array.size_push]
def compose_Of.f (k : Nat) (l0 l1 : List S25) : Option (List S25 × Int) :=
 (op_May.f k l0).bind fun e0 => if e0 = 0 then (op_May.f k l1).bind fun e1 => (if e1 = 0 then (op_Out.f l0).bind fun n0 => (op_In.f l1).bind fun n1 => (if n0 = n1 then (if l0.length < 1000000000 ∧ l1.length < 1000000000 ∧ normal_Of.t l0 ≤ 70368744177664 ∧ normal_Of.t l1 ≤ 70368744177664 then (compose_Of.l k (normal_Of.n l0) (loadT (normal_Of.n l0)) (normal_Of.n l1) (loadT (normal_Of.n l1)) []).bind fun out => (normal_Of.f out).bind fun r => some (r, 0) else none) else some ([], 5)) else some ([], e1)) else some ([], e0)
theorem compose_Of.mono (l0 l1 : List S25) (k : Nat) : LeO (compose_Of.f k l0 l1) (compose_Of.f (k + 1) l0 l1) := by
 unfold compose_Of.f
 exact LeO.bind (op_May.mono _ _) fun e0 => LeO.ite (LeO.bind (op_May.mono _ _) fun e1 => LeO.ite (LeO.bind (LeO.refl _) fun n0 => LeO.bind (LeO.refl _) fun n1 => LeO.ite (LeO.ite (LeO.bind (compose_Of.mono_l _ _ _ _ _ _) fun out => LeO.refl _) (LeO.none _)) (LeO.refl _)) (LeO.refl _)) (LeO.refl _)
set_option maxHeartbeats 8000000 in
set_option maxRecDepth 100000 in
theorem compose_Of.calls (k : Nat) (A0 : Option Addr) (c0 : Nat) (l0 : List S25) (A1 : Option Addr) (c1 : Nat) (l1 : List S25) (r1 : List S25) (r2 : Int) (w : World) (hr0 : Kd.C k25 w A0 l0.length l0) (hc0 : l0.length ≤ c0) (hr1 : Kd.C k25 w A1 l1.length l1) (hc1 : l1.length ≤ c1) (hT : Tabs w) (h : compose_Of.f k l0 l1 = some (r1, r2)) :
  Calls Tryd.prog 44 #[.slice A0 l0.length c0, .slice A1 l1.length c1] w fun e w' => ∃ v0_ : Value, e = .returned (.tuple #[v0_, .int .i64 r2]) ∧ Kd.R k25 25 w' w.heap.size (fun _ => True) v0_ r1 ∧ Below w.heap.size w w' := by
 unfold compose_Of.f at h
 obtain ⟨e0, he0, h⟩ := Option.bind_eq_some_iff.mp h
 have HR0 := am hr0; have HC0 := am hc0; have HR1 := am hr1; have HC1 := am hc1; have HT := am hT; have HE0 := am he0
 by_cases z0 : e0 = 0
 ·subst z0
  rw [if_pos rfl] at h
  obtain ⟨e1, he1, h⟩ := Option.bind_eq_some_iff.mp h
  have HE1 := am he1
  by_cases z1 : e1 = 0
  ·subst z1
   rw [if_pos rfl] at h
   obtain ⟨n0, hn0, h⟩ := Option.bind_eq_some_iff.mp h
   obtain ⟨n1, hn1, h⟩ := Option.bind_eq_some_iff.mp h
   have HN0 := am hn0; have HN1 := am hn1
   by_cases z2 : n0 = n1
   ·rw [if_pos z2] at h
    by_cases z3 : l0.length < 1000000000 ∧ l1.length < 1000000000 ∧ normal_Of.t l0 ≤ 70368744177664 ∧ normal_Of.t l1 ≤ 70368744177664
    ·rw [if_pos z3] at h
     obtain ⟨out, hout, h⟩ := Option.bind_eq_some_iff.mp h
     obtain ⟨r, hr, h⟩ := Option.bind_eq_some_iff.mp h
     simp only [Option.some.injEq, Prod.mk.injEq] at h
     obtain ⟨rfl, rfl⟩ := h
     have z2b : (n0 != n1) = false := bne_eq_false_iff_eq.mpr z2
     have HZ3 := am z3; have HOUT := am hout; have HRR := am hr
     clear hr0 hc0 hr1 hc1 hT he0 he1 hn0 hn1 z2 z3 hout hr
     go_enter Tryd.func44, Tryd.ntmps44
     go_wp2
     go_step3
     go_wp2
     go_loopw [7, 8, 19] (fun _ _ v19 wr => ∃ j : Nat, v19 = .int .i64 j ∧ j ≤ 2 ∧ Aside0 (wr.heap[w.heap.size]? = some (.cells #[.slice A0 l0.length c0, .slice A1 l1.length c1] 27 (0, 0))) ∧ Aside0 (Below w.heap.size w wr)) (fun _ _ v19 _ => 2 - (intOf v19).toNat)
     case atStart => exact ⟨0, rfl, by omega, ⟨heap_alloc_new w _⟩, ⟨below_alloc (Below.refl _ _) _⟩⟩
     case round =>
      obtain ⟨j, rfl, hj, HS, HB⟩ := hrel
      obtain ⟨k0, k1⟩ := compose_Of.cells2 HS.out
      rcases (by omega : j = 0 ∨ j = 1 ∨ j = 2) with rfl | rfl | rfl
      ·go_wp2_with (go_at_call 46; (with_reducible refine (op_May.calls k A0 c0 l0 0 _ (Kd.C_below HR0.out HB.out) HC0.out (Tabs.below HT.out HB.out) HE0.out).mono ?_); rintro e w1 ⟨rfl, hb⟩; have HS1 := am (blk_below HS.out hb); have HB1 := am (below_then HB.out HB.out.size hb); clear hb)
       go_round
       case measure => decide
       case rel => exact ⟨1, rfl, by omega, HS1, HB1⟩
      ·go_wp2_with (go_at_call 46; (with_reducible refine (op_May.calls k A1 c1 l1 0 _ (Kd.C_below HR1.out HB.out) HC1.out (Tabs.below HT.out HB.out) HE1.out).mono ?_); rintro e w1 ⟨rfl, hb⟩; have HS1 := am (blk_below HS.out hb); have HB1 := am (below_then HB.out HB.out.size hb); clear hb)
       go_round
       case measure => decide
       case rel => exact ⟨2, rfl, by omega, HS1, HB1⟩
      ·go_wp2_with (first | (go_at_call 62; (with_reducible refine (op_Out.calls A0 c0 l0 n0 _ (Kd.C_below HR0.out HB.out) HC0.out (Tabs.below HT.out HB.out) HN0.out).mono ?_); rintro e w1 ⟨rfl, hb⟩; have HB1 := am (below_then HB.out HB.out.size hb); clear hb) | (go_at_call 20; (with_reducible refine (op_In.calls A1 c1 l1 n1 _ (Kd.C_below HR1.out HB1.out) HC1.out (Tabs.below HT.out HB1.out) HN1.out).mono ?_); rintro e w2 ⟨rfl, hb⟩; have HB2 := am (below_then HB1.out HB1.out.size hb); clear hb) | (go_at_call 79; (with_reducible refine (compose_Of.reader w w2 A0 c0 l0 (Kd.C_below HR0.out HB2.out) HC0.out HB2.out HZ3.out.1 HZ3.out.2.2.1).mono ?_); rintro e w3 ⟨g1, B1, rfl, hI, hg1, hB1, hB1', hb, hk⟩; have HX3 := am hI; have HD3 := am (And.intro hg1 (And.intro hB1 hB1')); have HB3 := am hb; clear hI hg1 hB1 hB1' hb hk) | (go_at_call 79; (with_reducible refine (compose_Of.reader w w3 A1 c1 l1 (Kd.C_below HR1.out HB3.out) HC1.out HB3.out HZ3.out.2.1 HZ3.out.2.2.2).mono ?_); rintro e w4 ⟨g2, B2, rfl, hI, hg2, hB2, hB2', hb, hk⟩; have HCI := am (CI_new HX3.out hI HD3.out hg2 hB2 hB2' hb hk HZ3.out.2.2.1 HZ3.out.2.2.2); clear hI hg2 hB2 hB2' hb hk HX3 HD3))
       go_step3
       go_wp2
       go_loopg [11] k (fun kq v11 wr => ∃ (xl : List S25) (xt : List Int) (yl : List S25) (yt : List Int) (ot : List S25), Aside0 (compose_Of.l kq xl xt yl yt ot = some out) ∧ Aside0 (CI w wr g1 B1 g2 B2 xl xt yl yt v11 ot) ∧ Aside0 (kq ≤ k))
       case atStart => exact ⟨_, _, _, _, _, HOUT, HCI, ⟨Nat.le_refl _⟩⟩
       case round =>
        clear HCI
        obtain ⟨xl, xt, yl, yt, ot, HA, HCI, HK1⟩ := hrel
        have HX := am HCI.out.1; have HY := am HCI.out.2.1
        cases gk with
        | zero => exact absurd HA.out (by simp [compose_Of.l])
        | succ k1 =>
         have H := HA.out
         clear HA
         rw [compose_Of.l] at H
         by_cases hlen : ot.length < 1000000000
         ·rw [if_pos hlen] at H
          have HLEN := am hlen
          clear hlen
          by_cases yk : kindT yl = 2
          ·rw [if_pos yk] at H
           have ykb : (kindT yl == 2) = true := beq_iff_eq.mpr yk
           clear yk
           obtain ⟨n, hn, H⟩ := Option.bind_eq_some_iff.mp H
           obtain ⟨r, hr, H⟩ := Option.bind_eq_some_iff.mp H
           have HSZ := am hn; have HTK := am hr; have HNE := am (compose_Of.tk_t hr).1; have HLE := am (compose_Of.tk_t hr).2; have H' := am H
           clear hn hr H
           go_wp2_with (first | (go_at_call 80; (with_reducible refine (compose_Of.kind w _ g2 B2 yl yt HY.out).mono ?_); rintro e w_ ⟨rfl, rfl⟩) | (go_at_call 82; (with_reducible refine (compose_Of.size' w _ g2 B2 yl yt n HY.out HSZ.out).mono ?_); rintro e w5 ⟨rfl, m_, hm⟩; have HC5 := am (show CI w w5 g1 B1 g2 B2 xl xt yl yt u11 ot from by rw [hm]; exact CI_drewN HCI.out m_); have HR5 := am (HC5.out.2.1); have HR5y := am (HC5.out.2.1); clear hm; have HC5B := am (HC5.out.2.2.2.1); have HC5T := am (HC5.out.2.2.2.2.2.2.2.2)) | (go_at_call 81; (with_reducible refine (compose_Of.take w _ g2 B2 yl yt n r HR5.out HC5B.out HC5T.out HTK.out).mono ?_); rintro e w6 ⟨rfl, hI, hb, hk⟩; have HC6 := am (CI_y HC5.out hI hb hk HNE.out HLE.out); clear hI hb hk; have HC6B := am (HC6.out.2.2.2.1); have HC6T := am (HC6.out.2.2.2.2.2.2.2.2); have HC6Y := am (HC6.out.2.1)) | ((with_reducible refine gate_builtin (b := .append) (xs := #[.tmp 42, .tmp 47]) rfl ?_); at_builtin; refine Kd.R_append k25 (w0 := w) w.heap.size rfl (.tmp 42) (.tmp 47) 27 25 (.agg #[(.int .i64 0), (.int .i64 0), (.string ⟨#[]⟩)]) 32 rfl Tryd.underlying27 info25 rfl (by decide) (by omega) u11 ot r.1 [.int .i64 (r.1).f0, .int .i64 (r.1).f1, .string (r.1).f2] (fun k_ => k_ ≠ B1 ∧ k_ ≠ B2) (fun _ => False) rfl rfl ?aP (fun _ hk => hk.elim) ?aF ?aO ?aB ?aS ?aL ?_; (case aP => exact k25_mkM _ _ _ _); (case aF => exact CI_fresh HC6.out); (case aO => exact HC6.out.2.2.1); (case aB => exact HC6.out.2.2.2.1); (case aS => exact HC6.out.2.2.2.1.size); (case aL => exact compose_Of.room HLEN.out); intro v7 w7 ho hb hg hat; have HC7 := am (CI_app HC6.out ho hb hg); clear ho hb hg hat))
           go_roundg k1
           case measure => exact compose_Of.lt HK1.out
           case rel => exact ⟨xl, xt, r.2.1, r.2.2, _, H', HC7, ⟨Nat.le_of_succ_le HK1.out⟩⟩
          ·rw [if_neg yk] at H
           have ykb : (kindT yl == 2) = false := beq_eq_false_iff_ne.mpr yk
           clear yk
           by_cases xk : kindT xl = 3
           ·rw [if_pos xk] at H
            have xkb : (kindT xl == 3) = true := beq_iff_eq.mpr xk
            clear xk
            obtain ⟨n, hn, H⟩ := Option.bind_eq_some_iff.mp H
            obtain ⟨r, hr, H⟩ := Option.bind_eq_some_iff.mp H
            have HSZ := am hn; have HTK := am hr; have HNE := am (compose_Of.tk_t hr).1; have HLE := am (compose_Of.tk_t hr).2; have H' := am H
            clear hn hr H
            go_wp2_with (first | (go_at_call 80; (with_reducible refine (compose_Of.kind w _ g2 B2 yl yt HY.out).mono ?_); rintro e w_ ⟨rfl, rfl⟩) | (go_at_call 80; (with_reducible refine (compose_Of.kind w _ g1 B1 xl xt HX.out).mono ?_); rintro e w_ ⟨rfl, rfl⟩) | (go_at_call 82; (with_reducible refine (compose_Of.size' w _ g1 B1 xl xt n HX.out HSZ.out).mono ?_); rintro e w5 ⟨rfl, m_, hm⟩; have HC5 := am (show CI w w5 g1 B1 g2 B2 xl xt yl yt u11 ot from by rw [hm]; exact CI_drewN HCI.out m_); have HR5 := am (HC5.out.1); have HR5y := am (HC5.out.2.1); clear hm; have HC5B := am (HC5.out.2.2.2.1); have HC5T := am (HC5.out.2.2.2.2.2.2.2.1)) | (go_at_call 81; (with_reducible refine (compose_Of.take w _ g1 B1 xl xt n r HR5.out HC5B.out HC5T.out HTK.out).mono ?_); rintro e w6 ⟨rfl, hI, hb, hk⟩; have HC6 := am (CI_x HC5.out hI hb hk HNE.out HLE.out); clear hI hb hk; have HC6B := am (HC6.out.2.2.2.1); have HC6T := am (HC6.out.2.2.2.2.2.2.2.2); have HC6Y := am (HC6.out.2.1)) | ((with_reducible refine gate_builtin (b := .append) (xs := #[.tmp 53, .tmp 58]) rfl ?_); at_builtin; refine Kd.R_append k25 (w0 := w) w.heap.size rfl (.tmp 53) (.tmp 58) 27 25 (.agg #[(.int .i64 0), (.int .i64 0), (.string ⟨#[]⟩)]) 32 rfl Tryd.underlying27 info25 rfl (by decide) (by omega) u11 ot r.1 [.int .i64 (r.1).f0, .int .i64 (r.1).f1, .string (r.1).f2] (fun k_ => k_ ≠ B1 ∧ k_ ≠ B2) (fun _ => False) rfl rfl ?aP (fun _ hk => hk.elim) ?aF ?aO ?aB ?aS ?aL ?_; (case aP => exact k25_mkM _ _ _ _); (case aF => exact CI_fresh HC6.out); (case aO => exact HC6.out.2.2.1); (case aB => exact HC6.out.2.2.2.1); (case aS => exact HC6.out.2.2.2.1.size); (case aL => exact compose_Of.room HLEN.out); intro v7 w7 ho hb hg hat; have HC7 := am (CI_app HC6.out ho hb hg); clear ho hb hg hat))
            go_roundg k1
            case measure => exact compose_Of.lt HK1.out
            case rel => exact ⟨r.2.1, r.2.2, yl, yt, _, H', HC7, ⟨Nat.le_of_succ_le HK1.out⟩⟩
           ·rw [if_neg xk] at H
            have xkb : (kindT xl == 3) = false := beq_eq_false_iff_ne.mpr xk
            clear xk
            by_cases x0 : kindT xl = 0
            ·rw [if_pos x0] at H
             have x0b : (kindT xl == 0) = true := beq_iff_eq.mpr x0
             clear x0
             obtain rfl := Option.some.inj H
             obtain ⟨AE, cE, rfl, hcE, _⟩ := Kd.R_reads HCI.out.2.2.1
             have HRE := am HCI.out.2.2.1; have HCE := am hcE
             clear hcE
             go_wp2_with (first | (go_at_call 80; (with_reducible refine (compose_Of.kind w _ g2 B2 yl yt HY.out).mono ?_); rintro e w_ ⟨rfl, rfl⟩) | (go_at_call 80; (with_reducible refine (compose_Of.kind w _ g1 B1 xl xt HX.out).mono ?_); rintro e w_ ⟨rfl, rfl⟩) | (go_at_call 33; (with_reducible refine (normal_Of.calls _ _ ot _ _ (Kd.R_reads' HRE.out).2.2 HCE.out HRR.out).mono ?_); rintro e w9 ⟨v9, rfl, ho, hb⟩; have HO9 := am ho; have HB9 := am (below_then HCI.out.2.2.2.1 HCI.out.2.2.2.1.size hb); have HS9 := am HCI.out.2.2.2.1.size; clear ho hb))
             rw [Exit.noGoto_ret]
             go_ret2
             exact ⟨_, rfl, Kd.R_lower HO9.out HS9.out, HB9.out⟩
            ·rw [if_neg x0] at H
             have x0b : (kindT xl == 0) = false := beq_eq_false_iff_ne.mpr x0
             clear x0
             by_cases y0 : kindT yl = 0
             ·rw [if_pos y0] at H
              have y0b : (kindT yl == 0) = true := beq_iff_eq.mpr y0
              clear y0
              obtain rfl := Option.some.inj H
              obtain ⟨AE, cE, rfl, hcE, _⟩ := Kd.R_reads HCI.out.2.2.1
              have HRE := am HCI.out.2.2.1; have HCE := am hcE
              clear hcE
              go_wp2_with (first | (go_at_call 80; (with_reducible refine (compose_Of.kind w _ g2 B2 yl yt HY.out).mono ?_); rintro e w_ ⟨rfl, rfl⟩) | (go_at_call 80; (with_reducible refine (compose_Of.kind w _ g1 B1 xl xt HX.out).mono ?_); rintro e w_ ⟨rfl, rfl⟩) | (go_at_call 33; (with_reducible refine (normal_Of.calls _ _ ot _ _ (Kd.R_reads' HRE.out).2.2 HCE.out HRR.out).mono ?_); rintro e w9 ⟨v9, rfl, ho, hb⟩; have HO9 := am ho; have HB9 := am (below_then HCI.out.2.2.2.1 HCI.out.2.2.2.1.size hb); have HS9 := am HCI.out.2.2.2.1.size; clear ho hb))
              rw [Exit.noGoto_ret]
              go_ret2
              exact ⟨_, rfl, Kd.R_lower HO9.out HS9.out, HB9.out⟩
             ·rw [if_neg y0] at H
              have y0b : (kindT yl == 0) = false := beq_eq_false_iff_ne.mpr y0
              clear y0
              obtain ⟨n1, hn1, H⟩ := Option.bind_eq_some_iff.mp H
              obtain ⟨n2, hn2, H⟩ := Option.bind_eq_some_iff.mp H
              obtain ⟨nm, hnm⟩ : ∃ nm, mn n1 n2 = nm := ⟨_, rfl⟩
              simp only [hnm] at H
              have hnm_ : (if n2 < n1 then n2 else n1) = nm := hnm
              clear hnm
              obtain ⟨p, hp, H⟩ := Option.bind_eq_some_iff.mp H
              obtain ⟨q, hq, H⟩ := Option.bind_eq_some_iff.mp H
              have HS1 := am hn1; have HS2 := am hn2; have HTP := am hp; have HTQ := am hq
              have HNEP := am (compose_Of.tk_t hp).1; have HLEP := am (compose_Of.tk_t hp).2; have HNEQ := am (compose_Of.tk_t hq).1; have HLEQ := am (compose_Of.tk_t hq).2
              clear hn1 hn2 hp hq
              by_cases qk : q.1.f0 = 1
              ·rw [if_pos qk] at H
               have qkb : (q.1.f0 == 1) = true := beq_iff_eq.mpr qk
               have H' := am H
               clear H qk
               go_wp2_with (first | (go_at_call 80; (with_reducible refine (compose_Of.kind w _ g2 B2 yl yt HY.out).mono ?_); rintro e w_ ⟨rfl, rfl⟩) | (go_at_call 80; (with_reducible refine (compose_Of.kind w _ g1 B1 xl xt HX.out).mono ?_); rintro e w_ ⟨rfl, rfl⟩) | (go_at_call 82; (with_reducible refine (compose_Of.size' w _ g1 B1 xl xt n1 HX.out HS1.out).mono ?_); rintro e w5 ⟨rfl, m_, hm⟩; have HC5 := am (show CI w w5 g1 B1 g2 B2 xl xt yl yt u11 ot from by rw [hm]; exact CI_drewN HCI.out m_); have HY5 := am HC5.out.2.1; clear hm) | (go_at_call 82; (with_reducible refine (compose_Of.size' w _ g2 B2 yl yt n2 HY5.out HS2.out).mono ?_); rintro e w6 ⟨rfl, m_, hm⟩; have HC6 := am (show CI w w6 g1 B1 g2 B2 xl xt yl yt u11 ot from by rw [hm]; exact CI_drewN HC5.out m_); have HX6 := am HC6.out.1; have HC6B := am (HC6.out.2.2.2.1); have HC6T := am (HC6.out.2.2.2.2.2.2.2.1); clear hm HY5) | (go_at_call 81; (with_reducible refine (compose_Of.take w _ g1 B1 xl xt nm p HX6.out HC6B.out HC6T.out HTP.out).mono ?_); rintro e w7 ⟨rfl, hI, hb, hk⟩; have HC7 := am (CI_x HC6.out hI hb hk HNEP.out HLEP.out); have HY7 := am HC7.out.2.1; have HC7B := am (HC7.out.2.2.2.1); have HC7T := am (HC7.out.2.2.2.2.2.2.2.2); clear hI hb hk HX6) | (go_at_call 81; (with_reducible refine (compose_Of.take w _ g2 B2 yl yt nm q HY7.out HC7B.out HC7T.out HTQ.out).mono ?_); rintro e w8 ⟨rfl, hI, hb, hk⟩; have HC8 := am (CI_y HC7.out hI hb hk HNEQ.out HLEQ.out); have HC9 := am (fun (o1 o2 : Obj) => CI_below HC8.out (below_alloc (below_alloc (Below.refl _ _) o1) o2)); clear hI hb hk HY7) | ((with_reducible refine gate_builtin (b := .append) (xs := #[.tmp 84, .tmp 86]) rfl ?_); at_builtin; refine Kd.R_append k25 (w0 := w) w.heap.size rfl (.tmp 84) (.tmp 86) 27 25 (.agg #[(.int .i64 0), (.int .i64 0), (.string ⟨#[]⟩)]) 32 rfl Tryd.underlying27 info25 rfl (by decide) (by omega) u11 ot p.1 [.int .i64 (p.1).f0, .int .i64 (p.1).f1, .string (p.1).f2] (fun k_ => k_ ≠ B1 ∧ k_ ≠ B2) (fun _ => False) rfl (by rw [compose_Of.size2]; rfl) ?aP (fun _ hk => hk.elim) ?aF ?aO ?aB ?aS ?aL ?_; (case aP => exact k25_mkM _ _ _ _); (case aF => exact CI_fresh (HC9.out _ _)); (case aO => exact (HC9.out _ _).2.2.1); (case aB => exact (HC9.out _ _).2.2.2.1); (case aS => exact (HC9.out _ _).2.2.2.1.size); (case aL => exact compose_Of.room HLEN.out); intro v9 w9 ho hb hg hat; have HC10 := am (CI_app (HC9.out _ _) ho hb hg); clear ho hb hg hat))
               go_roundg k1
               case measure => exact compose_Of.lt HK1.out
               case rel => exact ⟨p.2.1, p.2.2, q.2.1, q.2.2, _, H', HC10, ⟨Nat.le_of_succ_le HK1.out⟩⟩
              ·rw [if_neg qk] at H
               have qkb : (q.1.f0 == 1) = false := beq_eq_false_iff_ne.mpr qk
               clear qk
               by_cases pk : p.1.f0 = 1
               ·rw [if_pos pk] at H
                have pkb : (p.1.f0 == 1) = true := beq_iff_eq.mpr pk
                have H' := am H
                clear H pk
                go_wp2_with (first | (go_at_call 80; (with_reducible refine (compose_Of.kind w _ g2 B2 yl yt HY.out).mono ?_); rintro e w_ ⟨rfl, rfl⟩) | (go_at_call 80; (with_reducible refine (compose_Of.kind w _ g1 B1 xl xt HX.out).mono ?_); rintro e w_ ⟨rfl, rfl⟩) | (go_at_call 82; (with_reducible refine (compose_Of.size' w _ g1 B1 xl xt n1 HX.out HS1.out).mono ?_); rintro e w5 ⟨rfl, m_, hm⟩; have HC5 := am (show CI w w5 g1 B1 g2 B2 xl xt yl yt u11 ot from by rw [hm]; exact CI_drewN HCI.out m_); have HY5 := am HC5.out.2.1; clear hm) | (go_at_call 82; (with_reducible refine (compose_Of.size' w _ g2 B2 yl yt n2 HY5.out HS2.out).mono ?_); rintro e w6 ⟨rfl, m_, hm⟩; have HC6 := am (show CI w w6 g1 B1 g2 B2 xl xt yl yt u11 ot from by rw [hm]; exact CI_drewN HC5.out m_); have HX6 := am HC6.out.1; have HC6B := am (HC6.out.2.2.2.1); have HC6T := am (HC6.out.2.2.2.2.2.2.2.1); clear hm HY5) | (go_at_call 81; (with_reducible refine (compose_Of.take w _ g1 B1 xl xt nm p HX6.out HC6B.out HC6T.out HTP.out).mono ?_); rintro e w7 ⟨rfl, hI, hb, hk⟩; have HC7 := am (CI_x HC6.out hI hb hk HNEP.out HLEP.out); have HY7 := am HC7.out.2.1; have HC7B := am (HC7.out.2.2.2.1); have HC7T := am (HC7.out.2.2.2.2.2.2.2.2); clear hI hb hk HX6) | (go_at_call 81; (with_reducible refine (compose_Of.take w _ g2 B2 yl yt nm q HY7.out HC7B.out HC7T.out HTQ.out).mono ?_); rintro e w8 ⟨rfl, hI, hb, hk⟩; have HC8 := am (CI_y HC7.out hI hb hk HNEQ.out HLEQ.out); have HC9 := am (fun (o1 o2 : Obj) => CI_below HC8.out (below_alloc (below_alloc (Below.refl _ _) o1) o2)); clear hI hb hk HY7) | ((with_reducible refine gate_builtin (b := .append) (xs := #[.tmp 92, .tmp 94]) rfl ?_); at_builtin; refine Kd.R_append k25 (w0 := w) w.heap.size rfl (.tmp 92) (.tmp 94) 27 25 (.agg #[(.int .i64 0), (.int .i64 0), (.string ⟨#[]⟩)]) 32 rfl Tryd.underlying27 info25 rfl (by decide) (by omega) u11 ot q.1 [.int .i64 (q.1).f0, .int .i64 (q.1).f1, .string (q.1).f2] (fun k_ => k_ ≠ B1 ∧ k_ ≠ B2) (fun _ => False) rfl (by rw [compose_Of.size2]; rfl) ?aP (fun _ hk => hk.elim) ?aF ?aO ?aB ?aS ?aL ?_; (case aP => exact k25_mkM _ _ _ _); (case aF => exact CI_fresh (HC9.out _ _)); (case aO => exact (HC9.out _ _).2.2.1); (case aB => exact (HC9.out _ _).2.2.2.1); (case aS => exact (HC9.out _ _).2.2.2.1.size); (case aL => exact compose_Of.room HLEN.out); intro v9 w9 ho hb hg hat; have HC10 := am (CI_app (HC9.out _ _) ho hb hg); clear ho hb hg hat))
                go_roundg k1
                case measure => exact compose_Of.lt HK1.out
                case rel => exact ⟨p.2.1, p.2.2, q.2.1, q.2.2, _, H', HC10, ⟨Nat.le_of_succ_le HK1.out⟩⟩
               ·rw [if_neg pk] at H
                have pkb : (p.1.f0 == 1) = false := beq_eq_false_iff_ne.mpr pk
                have H' := am H
                clear H pk
                go_wp2_with (first | (go_at_call 80; (with_reducible refine (compose_Of.kind w _ g2 B2 yl yt HY.out).mono ?_); rintro e w_ ⟨rfl, rfl⟩) | (go_at_call 80; (with_reducible refine (compose_Of.kind w _ g1 B1 xl xt HX.out).mono ?_); rintro e w_ ⟨rfl, rfl⟩) | (go_at_call 82; (with_reducible refine (compose_Of.size' w _ g1 B1 xl xt n1 HX.out HS1.out).mono ?_); rintro e w5 ⟨rfl, m_, hm⟩; have HC5 := am (show CI w w5 g1 B1 g2 B2 xl xt yl yt u11 ot from by rw [hm]; exact CI_drewN HCI.out m_); have HY5 := am HC5.out.2.1; clear hm) | (go_at_call 82; (with_reducible refine (compose_Of.size' w _ g2 B2 yl yt n2 HY5.out HS2.out).mono ?_); rintro e w6 ⟨rfl, m_, hm⟩; have HC6 := am (show CI w w6 g1 B1 g2 B2 xl xt yl yt u11 ot from by rw [hm]; exact CI_drewN HC5.out m_); have HX6 := am HC6.out.1; have HC6B := am (HC6.out.2.2.2.1); have HC6T := am (HC6.out.2.2.2.2.2.2.2.1); clear hm HY5) | (go_at_call 81; (with_reducible refine (compose_Of.take w _ g1 B1 xl xt nm p HX6.out HC6B.out HC6T.out HTP.out).mono ?_); rintro e w7 ⟨rfl, hI, hb, hk⟩; have HC7 := am (CI_x HC6.out hI hb hk HNEP.out HLEP.out); have HY7 := am HC7.out.2.1; have HC7B := am (HC7.out.2.2.2.1); have HC7T := am (HC7.out.2.2.2.2.2.2.2.2); clear hI hb hk HX6) | (go_at_call 81; (with_reducible refine (compose_Of.take w _ g2 B2 yl yt nm q HY7.out HC7B.out HC7T.out HTQ.out).mono ?_); rintro e w8 ⟨rfl, hI, hb, hk⟩; have HC8 := am (CI_y HC7.out hI hb hk HNEQ.out HLEQ.out); have HC9 := am (fun (o1 o2 : Obj) => CI_below HC8.out (below_alloc (below_alloc (Below.refl _ _) o1) o2)); clear hI hb hk HY7))
                go_roundg k1
                case measure => exact compose_Of.lt HK1.out
                case rel => exact ⟨p.2.1, p.2.2, q.2.1, q.2.2, _, H', ⟨HC9.out _ _⟩, ⟨Nat.le_of_succ_le HK1.out⟩⟩
         ·rw [if_neg hlen] at H; cases H
    ·rw [if_neg z3] at h; cases h
   ·rw [if_neg z2] at h
    simp only [Option.some.injEq, Prod.mk.injEq] at h
    obtain ⟨rfl, rfl⟩ := h
    have z2b : (n0 != n1) = true := bne_iff_ne.mpr z2
    clear hr0 hc0 hr1 hc1 hT he0 he1 hn0 hn1 z2
    go_enter Tryd.func44, Tryd.ntmps44
    go_wp2
    go_step3
    go_wp2
    go_loopw [7, 8, 19] (fun _ _ v19 wr => ∃ j : Nat, v19 = .int .i64 j ∧ j ≤ 2 ∧ Aside0 (wr.heap[w.heap.size]? = some (.cells #[.slice A0 l0.length c0, .slice A1 l1.length c1] 27 (0, 0))) ∧ Aside0 (Below w.heap.size w wr)) (fun _ _ v19 _ => 2 - (intOf v19).toNat)
    case atStart => exact ⟨0, rfl, by omega, ⟨heap_alloc_new w _⟩, ⟨below_alloc (Below.refl _ _) _⟩⟩
    case round =>
     obtain ⟨j, rfl, hj, HS, HB⟩ := hrel
     obtain ⟨k0, k1⟩ := compose_Of.cells2 HS.out
     rcases (by omega : j = 0 ∨ j = 1 ∨ j = 2) with rfl | rfl | rfl
     ·go_wp2_with (go_at_call 46; (with_reducible refine (op_May.calls k A0 c0 l0 0 _ (Kd.C_below HR0.out HB.out) HC0.out (Tabs.below HT.out HB.out) HE0.out).mono ?_); rintro e w1 ⟨rfl, hb⟩; have HS1 := am (blk_below HS.out hb); have HB1 := am (below_then HB.out HB.out.size hb); clear hb)
      go_round
      case measure => decide
      case rel => exact ⟨1, rfl, by omega, HS1, HB1⟩
     ·go_wp2_with (go_at_call 46; (with_reducible refine (op_May.calls k A1 c1 l1 0 _ (Kd.C_below HR1.out HB.out) HC1.out (Tabs.below HT.out HB.out) HE1.out).mono ?_); rintro e w1 ⟨rfl, hb⟩; have HS1 := am (blk_below HS.out hb); have HB1 := am (below_then HB.out HB.out.size hb); clear hb)
      go_round
      case measure => decide
      case rel => exact ⟨2, rfl, by omega, HS1, HB1⟩
     ·go_wp2_with (first | (go_at_call 62; (with_reducible refine (op_Out.calls A0 c0 l0 n0 _ (Kd.C_below HR0.out HB.out) HC0.out (Tabs.below HT.out HB.out) HN0.out).mono ?_); rintro e w1 ⟨rfl, hb⟩; have HB1 := am (below_then HB.out HB.out.size hb); clear hb) | (go_at_call 20; (with_reducible refine (op_In.calls A1 c1 l1 n1 _ (Kd.C_below HR1.out HB1.out) HC1.out (Tabs.below HT.out HB1.out) HN1.out).mono ?_); rintro e w2 ⟨rfl, hb⟩; have HB2 := am (below_then HB1.out HB1.out.size hb); clear hb))
      first | go_ret2 | (rw [Exit.noGoto_ret]; go_ret2)
      exact ⟨_, rfl, Kd.R_nil _ _ _ _ _, HB2.out⟩
  ·rw [if_neg z1] at h
   simp only [Option.some.injEq, Prod.mk.injEq] at h
   obtain ⟨rfl, rfl⟩ := h
   have z1b : (e1 != 0) = true := bne_iff_ne.mpr z1
   clear hr0 hc0 hr1 hc1 hT he0 he1 z1
   go_enter Tryd.func44, Tryd.ntmps44
   go_wp2
   go_step3
   go_wp2
   go_loopw [7, 8, 19] (fun _ _ v19 wr => ∃ j : Nat, v19 = .int .i64 j ∧ j ≤ 1 ∧ Aside0 (wr.heap[w.heap.size]? = some (.cells #[.slice A0 l0.length c0, .slice A1 l1.length c1] 27 (0, 0))) ∧ Aside0 (Below w.heap.size w wr)) (fun _ _ v19 _ => 2 - (intOf v19).toNat)
   case atStart => exact ⟨0, rfl, by omega, ⟨heap_alloc_new w _⟩, ⟨below_alloc (Below.refl _ _) _⟩⟩
   case round =>
    obtain ⟨j, rfl, hj, HS, HB⟩ := hrel
    obtain ⟨k0, k1⟩ := compose_Of.cells2 HS.out
    rcases (by omega : j = 0 ∨ j = 1) with rfl | rfl
    ·go_wp2_with (go_at_call 46; (with_reducible refine (op_May.calls k A0 c0 l0 0 _ (Kd.C_below HR0.out HB.out) HC0.out (Tabs.below HT.out HB.out) HE0.out).mono ?_); rintro e w1 ⟨rfl, hb⟩; have HS1 := am (blk_below HS.out hb); have HB1 := am (below_then HB.out HB.out.size hb); clear hb)
     go_round
     case measure => decide
     case rel => exact ⟨1, rfl, by omega, HS1, HB1⟩
    ·go_wp2_with (go_at_call 46; (with_reducible refine (op_May.calls k A1 c1 l1 e1 _ (Kd.C_below HR1.out HB.out) HC1.out (Tabs.below HT.out HB.out) HE1.out).mono ?_); rintro e w1 ⟨rfl, hb⟩; have HS1 := am (blk_below HS.out hb); have HB1 := am (below_then HB.out HB.out.size hb); clear hb)
     first | go_ret2 | (rw [Exit.noGoto_ret]; go_ret2)
     exact ⟨_, rfl, Kd.R_nil _ _ _ _ _, HB1.out⟩
 ·rw [if_neg z0] at h
  simp only [Option.some.injEq, Prod.mk.injEq] at h
  obtain ⟨rfl, rfl⟩ := h
  have z0b : (e0 != 0) = true := bne_iff_ne.mpr z0
  clear hr0 hc0 hr1 hc1 hT he0 z0
  go_enter Tryd.func44, Tryd.ntmps44
  go_wp2
  go_step3
  go_wp2
  go_loopw [7, 8, 19] (fun _ _ v19 wr => ∃ j : Nat, v19 = .int .i64 j ∧ j ≤ 0 ∧ Aside0 (wr.heap[w.heap.size]? = some (.cells #[.slice A0 l0.length c0, .slice A1 l1.length c1] 27 (0, 0))) ∧ Aside0 (Below w.heap.size w wr)) (fun _ _ v19 _ => 2 - (intOf v19).toNat)
  case atStart => exact ⟨0, rfl, by omega, ⟨heap_alloc_new w _⟩, ⟨below_alloc (Below.refl _ _) _⟩⟩
  case round =>
   obtain ⟨j, rfl, hj, HS, HB⟩ := hrel
   obtain ⟨k0, k1⟩ := compose_Of.cells2 HS.out
   obtain rfl : j = 0 := by omega
   go_wp2_with (go_at_call 46; (with_reducible refine (op_May.calls k A0 c0 l0 e0 _ (Kd.C_below HR0.out HB.out) HC0.out (Tabs.below HT.out HB.out) HE0.out).mono ?_); rintro e w1 ⟨rfl, hb⟩; have HS1 := am (blk_below HS.out hb); have HB1 := am (below_then HB.out HB.out.size hb); clear hb)
   first | go_ret2 | (rw [Exit.noGoto_ret]; go_ret2)
   exact ⟨_, rfl, Kd.R_nil _ _ _ _ _, HB1.out⟩
def rowsAt (xs : List (List S25)) (i : Nat) : List S25 := xs.getD i []
theorem at_rows {w : World} {A : Option Addr} {xs : List (List S25)} (h : Kd.C (Kd.slice 25 k25) w A xs.length xs) (i : Nat) (h1 : i < xs.length) : ∃ (ad : Addr) (A0 : Option Addr) (c0 : Nat), A = some ad ∧ w.cell? (ad.add i) = some (.slice A0 (rowsAt xs i).length c0) ∧ (rowsAt xs i).length ≤ c0 ∧ k25.C w A0 (rowsAt xs i).length (rowsAt xs i) := by
 obtain ⟨ad, c, e, _, hK, hc0⟩ := Kd.C_get h ([] : List S25) (i : Int) (by omega) (by omega)
 have hc : ∀ j u, c[j]? = some u → w.cell? (ad.add (i * 1 + j)) = some u := hc0
 obtain ⟨A0, c0, rfl, l0, g0⟩ := hK
 exact ⟨ad, A0, c0, e, by have hq := hc 0 _ rfl; rwa [Nat.mul_one, Nat.add_zero] at hq, l0, g0⟩
theorem rows_next (l : List (List S25)) (j : Nat) (h : j < l.length) : l.drop j = rowsAt l j :: l.drop (j + 1) := by
 rw [List.drop_eq_getElem_cons h]
 unfold rowsAt
 rw [List.getD_eq_getElem?_getD, List.getElem?_eq_getElem h]
 rfl
def fuse_Of.l (k : Nat) : List S25 → List (List S25) → Option (List S25 × Int)
 | x, [] => some (x, 0)
 | x, y :: l => (compose_Of.f k x y).bind fun r => if r.2 = 0 then fuse_Of.l k r.1 l else some ([], r.2)
theorem fuse_Of.mono_l (k : Nat) : ∀ (l : List (List S25)) (x : List S25), LeO (fuse_Of.l k x l) (fuse_Of.l (k + 1) x l)
 | [], x => LeO.refl _
 | y :: l, x => by
  unfold fuse_Of.l
  exact LeO.bind (compose_Of.mono _ _ _) fun r => LeO.ite (fuse_Of.mono_l k l _) (LeO.refl _)
def fuse_Of.f (k : Nat) (a0 : Int) (l1 : List (List S25)) : Option (List S25 × Int) := if l1.length < 1000000000 then (op_Keep.f k a0).bind fun t => (if t.2 = 0 then fuse_Of.l k t.1 l1 else some ([], t.2)) else none
theorem fuse_Of.mono (a0 : Int) (l1 : List (List S25)) (k : Nat) : LeO (fuse_Of.f k a0 l1) (fuse_Of.f (k + 1) a0 l1) := by
 unfold fuse_Of.f
 exact LeO.ite (LeO.bind (op_Keep.mono _ _) fun t => LeO.ite (fuse_Of.mono_l k _ _) (LeO.refl _)) (LeO.none _)
theorem fuse_Of.wrap {j n : Nat} (h : j < n) (hn : n < 1000000000) : wrap64 ((j : Int) + 1) = ((j + 1 : Nat) : Int) := by unfold wrap64; omega
set_option maxHeartbeats 8000000 in
set_option maxRecDepth 100000 in
theorem fuse_Of.fold (k : Nat) (v : Value) (xs : List S25) (A1 : Option Addr) (c1 : Nat) (l1 : List (List S25)) (r1 : List S25) (r2 : Int) (w0 w : World) (hO : Kd.R k25 25 w w0.heap.size (fun _ => True) v xs) (hB : Below w0.heap.size w0 w)
  (hr1 : Kd.C (Kd.slice 25 k25) w A1 l1.length l1) (hs : l1.length < 1000000000) (hT : Tabs w) (h : fuse_Of.l k xs l1 = some (r1, r2)) :
  Calls Tryd.prog 43 #[v, .slice A1 l1.length c1, .func (Fn.func 44) #[] #[]] w fun e w' => ∃ v0_ : Value, e = .returned (.tuple #[v0_, .int .i64 r2]) ∧ Kd.R k25 25 w' w0.heap.size (fun _ => True) v0_ r1 ∧ Below w0.heap.size w0 w' := by
 have HR1 := am hr1; have HT := am hT; have HZ := am hs; have HO := am hO; have HB := am hB; have H := am h
 clear hr1 hT hs hO hB h
 go_enter Tryd.func43, Tryd.ntmps43
 go_wp2
 go_loopw [0, 9, 10, 11, 12, 15] (fun v0 _ _ _ _ v15 wr => ∃ j : Nat, v15 = .int .i64 j ∧ j ≤ l1.length ∧ ∃ x : List S25, Aside0 (fuse_Of.l k x (l1.drop j) = some (r1, r2)) ∧ Aside0 (Kd.R k25 25 wr w0.heap.size (fun _ => True) v0 x) ∧ Aside0 (Below w0.heap.size w0 wr) ∧ Aside0 (Below w.heap.size w wr)) (fun _ _ _ _ _ v15 _ => l1.length - (intOf v15).toNat)
 case atStart => exact ⟨0, rfl, Nat.zero_le _, xs, H, HO, HB, ⟨Below.refl _ _⟩⟩
 case round =>
  clear H HO HB
  obtain ⟨j, rfl, hj, x, HA, HO, HB, HW⟩ := hrel
  obtain ⟨Ax, cx, rfl, hcx, hCx⟩ := Kd.R_reads HO.out
  by_cases hlt : j < l1.length
  ·have hltb : decide ((j : Int) < (l1.length : Int)) = true := decide_eq_true (by omega)
   have HL := am hlt
   have h := HA.out
   clear HA
   rw [rows_next l1 j hlt, fuse_Of.l] at h
   obtain ⟨r, hr, h2⟩ := Option.bind_eq_some_iff.mp h
   clear h
   obtain ⟨ad, Ay, cy, rfl, hx0, hcy, hCy⟩ := at_rows (Kd.C_below HR1.out HW.out) j hlt
   have p1 : (0 ≤ (j : Int)) = True := eq_true (by omega)
   have p2 : ((j : Int) < (l1.length : Int)) = True := eq_true (by omega)
   have p3 : (j < l1.length) = True := eq_true hlt
   have ew := fuse_Of.wrap hlt HZ.out
   have HCX := am hCx; have HCXX := am hcx; have HCY := am hCy; have HCYY := am hcy; have HRR := am hr
   clear hlt hr hCx hcx hCy hcy hj
   generalize rowsAt l1 j = y at *
   by_cases z : r.2 = 0
   ·rw [if_pos z] at h2
    have zb : (r.2 != 0) = false := bne_eq_false_iff_eq.mpr z
    have HE := am h2
    clear h2 z
    go_wp2_with (go_at_call 44; (with_reducible refine (compose_Of.calls k Ax cx x Ay cy y r.1 r.2 _ HCX.out HCXX.out HCY.out HCYY.out (Tabs.below HT.out HW.out) HRR.out).mono ?_); rintro e w1 ⟨v1, rfl, ho, hb⟩; have HO1 := am (Kd.R_lower ho HB.out.size); have HB1 := am (below_then HB.out HB.out.size hb); have HW1 := am (below_then HW.out HW.out.size hb); clear ho hb)
    go_round
    case measure => exact op_sum.less HL.out ew
    case rel => exact ⟨j + 1, by rw [ew], HL.out, r.1, HE, HO1, HB1, HW1⟩
   ·rw [if_neg z] at h2
    have zb : (r.2 != 0) = true := bne_iff_ne.mpr z
    simp only [Option.some.injEq, Prod.mk.injEq] at h2
    obtain ⟨rfl, rfl⟩ := h2
    clear z
    go_wp2_with (go_at_call 44; (with_reducible refine (compose_Of.calls k Ax cx x Ay cy y r.1 r.2 _ HCX.out HCXX.out HCY.out HCYY.out (Tabs.below HT.out HW.out) HRR.out).mono ?_); rintro e w1 ⟨v1, rfl, ho, hb⟩; have HB1 := am (below_then HB.out HB.out.size hb); clear ho hb)
    go_ret2
    exact ⟨_, rfl, Kd.R_nil _ _ _ _ _, HB1.out⟩
  ·have hltb : decide ((j : Int) < (l1.length : Int)) = false := decide_eq_false (by omega)
   have h := HA.out
   clear HA
   rw [List.drop_of_length_le (by omega), fuse_Of.l] at h
   simp only [Option.some.injEq, Prod.mk.injEq] at h
   obtain ⟨rfl, rfl⟩ := h
   go_wp2
   go_ret2
   exact ⟨_, rfl, HO.out, HB.out⟩
set_option maxHeartbeats 8000000 in
set_option maxRecDepth 100000 in
theorem fuse_Of.calls (k : Nat) (a0 : Int) (A1 : Option Addr) (c1 : Nat) (l1 : List (List S25)) (r1 : List S25) (r2 : Int) (w : World) (hr1 : Kd.C (Kd.slice 25 k25) w A1 l1.length l1) (hc1 : l1.length ≤ c1) (hT : Tabs w) (h : fuse_Of.f k a0 l1 = some (r1, r2)) :
  Calls Tryd.prog 11 #[.int .i64 a0, .slice A1 l1.length c1] w fun e w' => ∃ v0_ : Value, e = .returned (.tuple #[v0_, .int .i64 r2]) ∧ Kd.R k25 25 w' w.heap.size (fun _ => True) v0_ r1 ∧ Below w.heap.size w w' := by
 unfold fuse_Of.f at h
 by_cases c : l1.length < 1000000000
 ·rw [if_pos c] at h
  obtain ⟨t, ht, h⟩ := Option.bind_eq_some_iff.mp h
  have HR1 := am hr1; have HT := am hT; have HZ := am c; have HK := am ht
  clear hr1 hc1 hT c ht
  by_cases z : t.2 = 0
  ·rw [if_pos z] at h
   have zb : (t.2 != 0) = false := bne_eq_false_iff_eq.mpr z
   have H := am h
   clear h z
   go_enter Tryd.func11, Tryd.ntmps11
   go_wp2_with (first | (go_at_call 42; (with_reducible refine (op_Keep.calls k a0 t.1 t.2 _ HK.out).mono ?_); rintro e w1 ⟨v1, rfl, ho, hb⟩; have HO1 := am ho; have HB1 := am hb; clear ho hb) | (go_at_call 43; (with_reducible refine (fuse_Of.fold k v1 t.1 A1 c1 l1 r1 r2 w w1 HO1.out HB1.out (Kd.C_below HR1.out HB1.out) HZ.out (Tabs.below HT.out HB1.out) H.out).mono ?_); rintro e w2 ⟨v2, rfl, ho, hb⟩; have HO2 := am ho; have HB2 := am hb; clear ho hb))
   go_ret2
   exact ⟨_, rfl, HO2.out, HB2.out⟩
  ·rw [if_neg z] at h
   have zb : (t.2 != 0) = true := bne_iff_ne.mpr z
   simp only [Option.some.injEq, Prod.mk.injEq] at h
   obtain ⟨rfl, rfl⟩ := h
   clear z
   go_enter Tryd.func11, Tryd.ntmps11
   go_wp2_with (go_at_call 42; (with_reducible refine (op_Keep.calls k a0 t.1 t.2 _ HK.out).mono ?_); rintro e w1 ⟨v1, rfl, ho, hb⟩; have HB1 := am hb; clear ho hb)
   go_ret2
   exact ⟨_, rfl, Kd.R_nil _ _ _ _ _, HB1.out⟩
 ·rw [if_neg c] at h; cases h
def over_Of.cut : List S25 → Int → Option (List S25)
 | [], _ => none
 | x :: l, n => some (if wrap64 (x.f1 - n) = 0 then l else ⟨x.f0, wrap64 (x.f1 - n), x.f2⟩ :: l)
def QS (w0 W : World) (B : Nat) (v : Value) (l : List S25) : Prop := Kd.Q k25 25 W w0.heap.size (fun k => k = B) v l
theorem QS_open {w0 w : World} {B : Nat} {v : Value} {x : S25} {l : List S25} (h : QS w0 w B v (x :: l)) :
  ∃ (o c : Nat), v = .slice (some ⟨B, o, none⟩) (l.length + 1) c ∧ l.length + 1 ≤ c ∧ w.cell? ⟨B, o, none⟩ = some (.int .i64 x.f0) ∧ w.cell? ⟨B, o + 1, none⟩ = some (.int .i64 x.f1) ∧ w.cell? ⟨B, o + 2, none⟩ = some (.string x.f2) ∧ w.frozen? ⟨B, o + 1, none⟩ = false ∧
   w0.heap.size ≤ B ∧ B < w.heap.size ∧ ∃ cells, w.heap[B]? = some (.cells cells 25 (0, 0)) := by
 obtain ⟨gB, oB, cap, rfl, hb1, hb2, cells, hcl⟩ := Kd.Q_form h (by simp)
 obtain rfl : gB = B := h.1 gB rfl
 obtain ⟨ce, _, hM, hcc, hfr⟩ := Kd.Q_elem h z25 0 (by omega) (by simp)
 obtain rfl := k25_openM hM
 have hc := (Kd.Q_reads' h).2.1
 exact ⟨oB, cap, rfl, hc, hcc 0 _ rfl, hcc 1 _ rfl, hcc 2 _ rfl, hfr 1, hb1, hb2, cells, hcl⟩
theorem QS_num {w0 w : World} {B o c : Nat} {x : S25} {l : List S25} (v1 : Int) (h : QS w0 w B (.slice (some ⟨B, o, none⟩) (l.length + 1) c) (x :: l)) :
  QS w0 (w.setCell ⟨B, o + 1, none⟩ (.int .i64 v1)) B (.slice (some ⟨B, o, none⟩) (l.length + 1) c) (⟨x.f0, v1, x.f2⟩ :: l) := by
 obtain ⟨ce, hce, hM, hcc, hfr⟩ := Kd.Q_elem h z25 0 (by omega) (by simp)
 obtain rfl := k25_openM hM
 exact (Kd.Q_seg h 0 (by omega) (by simp) (seg := [.int .i64 v1]) (j := 1) hce hcc (show 2 ≤ 3 from by decide) (x' := (⟨x.f0, v1, x.f2⟩ : S25)) (k25_mkM _ _ _ (⟨x.f0, v1, x.f2⟩ : S25)) (fun _ hk => hk)).1
set_option maxHeartbeats 8000000 in
set_option maxRecDepth 100000 in
theorem over_Of.less (w0 w : World) (B : Nat) (v : Value) (l : List S25) (n : Int) (r : List S25) (hQ : QS w0 w B v l) (hB : Below w0.heap.size w0 w) (h : over_Of.cut l n = some r) :
  Calls Tryd.prog 49 #[v, .int .i64 n] w fun e w' => ∃ v', e = .returned v' ∧ QS w0 w' B v' r ∧ Below w0.heap.size w0 w' ∧ Kept w w' (fun k => k = B) := by
 cases l with
 | nil => simp [over_Of.cut] at h
 | cons x l =>
  obtain rfl := Option.some.inj h
  clear h
  obtain ⟨o, c, rfl, hc, x0, x1, x2, fz, hb1, hb2, hty⟩ := QS_open hQ
  obtain ⟨v1, hv1⟩ : ∃ v1, wrap64 (x.f1 - n) = v1 := ⟨_, rfl⟩
  rw [hv1]
  have hQ2 := QS_num v1 hQ
  obtain ⟨A3, c3, hcut, hq3, hc3⟩ := compose_Of.cutq hc hQ2
  have p1 : (0 < l.length + 1) = True := eq_true (by omega)
  have HQ2 := am hQ2; have HQ3 := am hq3; have HB := am hB; have HBB := am hb1
  have y1 : (w.setCell ⟨B, o + 1, none⟩ (.int .i64 v1)).cell? ⟨B, o + 1, none⟩ = some (.int .i64 v1) := by
   obtain ⟨o', c', e, _, _, h1, _⟩ := QS_open hQ2
   injection e with e
   injection e with e
   injection e with _ e
   subst e
   exact h1
  have hsub : wrap64 (x.f1 - n) = v1 := hv1
  clear hQ hB hQ2 hq3 hc3 hc hb1 hb2 hty
  by_cases z : v1 = 0
  ·have zb : (v1 == 0) = true := beq_iff_eq.mpr z
   rw [if_pos z]
   clear z
   go_enter Tryd.func49, Tryd.ntmps49
   go_wp2
   go_ret
   exact ⟨_, rfl, HQ3.out, HB.out.setCell (p := ⟨B, o + 1, none⟩) HBB.out _, (Kept.refl w (fun k => k = B)).setCell (p := ⟨B, o + 1, none⟩) (.inl rfl) _⟩
  ·have zb : (v1 == 0) = false := beq_eq_false_iff_ne.mpr z
   rw [if_neg z]
   clear z
   go_enter Tryd.func49, Tryd.ntmps49
   go_wp2
   go_ret
   exact ⟨_, rfl, HQ2.out, HB.out.setCell (p := ⟨B, o + 1, none⟩) HBB.out _, (Kept.refl w (fun k => k = B)).setCell (p := ⟨B, o + 1, none⟩) (.inl rfl) _⟩
set_option maxHeartbeats 8000000 in
set_option maxRecDepth 100000 in
theorem over_Of.door (w0 w : World) (p c : Nat) (A : Option Addr) (out r : List S25) (hp : w.heap[p]? = some (.cells #[.slice A out.length c] 27 (0, 0))) (hO : Kd.R k25 25 w w0.heap.size (fun _ => True) (.slice A out.length c) out) (hc : out.length ≤ c) (hB : Below w0.heap.size w0 w) (h0 : w0.heap.size ≤ p) (h : normal_Of.f out = some r) :
  CallsD Tryd.prog 47 #[.pointer (some ⟨p, 0, none⟩)] .returning w fun e u' w' => u' = .returning ∧ e = .returned (.tuple #[]) ∧ ∃ v, w'.heap[p]? = some (.cells #[v] 27 (0, 0)) ∧ Kd.R k25 25 w' w0.heap.size (fun _ => True) v r ∧ Below w0.heap.size w0 w' := by
 have HN := am (normal_Of.calls A c out r w (Kd.R_reads' hO).2.2 hc h)
 have HP := am hp; have HB := am hB; have H0 := am h0
 have k0 : w.cell? ⟨p, 0, none⟩ = some (.slice A out.length c) := (blk_cell hp 0).trans rfl
 clear hp hO hc hB h0 h
 go_enter_d Tryd.func47, Tryd.ntmps47
 go_wp2_with (go_at_call 33; (with_reducible refine HN.out.mono ?_); rintro e w1 ⟨v1, rfl, ho, hb⟩; obtain ⟨A1, c1, rfl, hc1, _⟩ := Kd.R_reads ho; have HP1 := am (blk_below HP.out hb); have HO1 := am (Kd.R_lower ho HB.out.size); have HB1 := am (below_then HB.out HB.out.size hb); clear ho hb hc1; have k1 : w1.cell? ⟨p, 0, none⟩ = some (.slice A out.length c) := (blk_cell HP1.out 0).trans rfl; have f1 : w1.frozen? ⟨p, 0, none⟩ = false := blk_frozen HP1.out 0)
 go_end0
 exact ⟨rfl, _, blk_put HP1.out 0 _ rfl, Kd.R_set HO1.out HP1.out (by decide) 0 _, HB1.out.setCell (p := ⟨p, 0, none⟩) H0.out _⟩
theorem QS_new {w0 w1 : World} {v : Value} {q : List S25} {base : Nat} {ok : Nat → Prop} (d : Nat) (hO : Kd.R k25 25 w1 base ok v q) (hb : w0.heap.size ≤ base) : QS w0 w1 ((v.ownBlock).getD d) v q :=
 Kd.Q_mono (Kd.Q_lower (Kd.Q_tight rfl (Kd.Q_of_R hO)) hb) (fun k_ e_ => by rw [← e_]; rfl)
def OI (w0 W : World) (p Ba Bs : Nat) (va vs : Value) (a s out : List S25) : Prop :=
 QS w0 W Ba va a ∧ QS w0 W Bs vs s ∧ (∃ v, W.heap[p]? = some (.cells #[v] 27 (0, 0)) ∧ Kd.R k25 25 W w0.heap.size (fun k => k ≠ Ba ∧ k ≠ Bs ∧ k ≠ p) v out) ∧ Below w0.heap.size w0 W ∧ (p ≠ Ba ∧ p ≠ Bs ∧ Ba ≠ Bs) ∧ (Ba < W.heap.size ∧ Bs < W.heap.size) ∧ w0.heap.size ≤ p
theorem OI_new {w w2 w3 w4 : World} {va vs : Value} {a s : List S25} {p : Nat} (h1 : Kd.R k25 25 w3 w2.heap.size (fun _ => True) va a) (hb1 : Below w2.heap.size w2 w3) (h2 : Kd.R k25 25 w4 w3.heap.size (fun _ => True) vs s) (hb2 : Below w3.heap.size w3 w4) (hp : w2.heap[p]? = some (.cells #[.slice none 0 0] 27 (0, 0))) (hB : Below w.heap.size w w2) (h0 : w.heap.size ≤ p) (h3 : 2 < p) (h4 : p + 1 < w2.heap.size) :
  OI w w4 p ((va.ownBlock).getD (p + 1)) ((vs.ownBlock).getD 2) va vs a s [] := by
 have s1 := hb1.size; have s2 := hb2.size; have s0 := hB.size
 have ha : p < (va.ownBlock).getD (p + 1) ∧ (va.ownBlock).getD (p + 1) < w3.heap.size ∧ 2 < (va.ownBlock).getD (p + 1) := by
  cases hv : va.ownBlock with
  | none => exact ⟨by show p < p + 1; omega, by show p + 1 < _; omega, by show 2 < p + 1; omega⟩
  | some k =>
   have := Kd.R_base h1 k hv; have := Kd.Q_lt (Kd.Q_of_R h1) k hv
   exact ⟨by show p < k; omega, by show k < _; omega, by show 2 < k; omega⟩
 have hs : ((vs.ownBlock).getD 2 = 2 ∨ w3.heap.size ≤ (vs.ownBlock).getD 2) ∧ (vs.ownBlock).getD 2 < w4.heap.size := by
  cases hv : vs.ownBlock with
  | none => exact ⟨.inl rfl, by show 2 < _; omega⟩
  | some k =>
   have := Kd.R_base h2 k hv; have := Kd.Q_lt (Kd.Q_of_R h2) k hv
   exact ⟨.inr (by show _ ≤ k; omega), by show k < _; omega⟩
 refine ⟨Kd.Q_below (QS_new _ h1 s0) hb2, QS_new _ h2 (Nat.le_trans s0 s1), ⟨_, blk_below (blk_below hp hb1) hb2, Kd.R_nil _ _ _ _ _⟩, below_then (below_then hB s0 hb1) (Nat.le_trans s0 s1) hb2, ⟨by omega, ?_, ?_⟩, ⟨by omega, hs.2⟩, h0⟩
 ·rcases hs.1 with h | h <;> omega
 ·rcases hs.1 with h | h <;> omega
theorem over_Of.cutq (c : Nat) (A : Option Addr) (x : S25) (l : List S25) (hc : l.length + 1 ≤ c) : ∃ (A3 : Option Addr) (c3 : Nat), (∀ W : World, (Instr.slice 27 (.slice A (l.length + 1) c) (some (.int .i64 1)) none none).run Tryd.prog W = .ok (.slice A3 l.length c3) W) ∧ Aside0 (∀ (w : World) (base B : Nat), Kd.Q k25 25 w base (fun k => k = B) (.slice A (l.length + 1) c) (x :: l) → Kd.Q k25 25 w base (fun k => k = B) (.slice A3 l.length c3) l) ∧ l.length ≤ c3 :=
 ⟨_, _, fun W => compose_Of.cut1 c A l W, ⟨fun w base B h => compose_Of.q1 h⟩, by omega⟩
theorem OI_tail_a {w0 W : World} {p Ba Bs : Nat} {va va1 vs : Value} {a a1 s out : List S25} (h : OI w0 W p Ba Bs va vs a s out) (hq : QS w0 W Ba va a → QS w0 W Ba va1 a1) : OI w0 W p Ba Bs va1 vs a1 s out := ⟨hq h.1, h.2⟩
theorem OI_tail_s {w0 W : World} {p Ba Bs : Nat} {va vs vs1 : Value} {a s s1 out : List S25} (h : OI w0 W p Ba Bs va vs a s out) (hq : QS w0 W Bs vs s → QS w0 W Bs vs1 s1) : OI w0 W p Ba Bs va vs1 a s1 out := ⟨h.1, hq h.2.1, h.2.2⟩
theorem OI_below {w0 W W1 : World} {p Ba Bs : Nat} {va vs : Value} {a s out : List S25} (h : OI w0 W p Ba Bs va vs a s out) (hb : Below W.heap.size W W1) : OI w0 W1 p Ba Bs va vs a s out := by
 obtain ⟨h1, h2, ⟨v, h3, h4⟩, h5, h6, h7, h8⟩ := h
 exact ⟨Kd.Q_below h1 hb, Kd.Q_below h2 hb, ⟨v, blk_below h3 hb, Kd.R_below h4 hb⟩, below_then h5 h5.size hb, h6, ⟨Nat.lt_of_lt_of_le h7.1 hb.size, Nat.lt_of_lt_of_le h7.2 hb.size⟩, h8⟩
theorem OI_less_a {w0 W W1 : World} {p Ba Bs : Nat} {va va1 vs : Value} {a a1 s out : List S25} (h : OI w0 W p Ba Bs va vs a s out) (hq : QS w0 W1 Ba va1 a1) (hB : Below w0.heap.size w0 W1) (hk : Kept W W1 (fun k => k = Ba)) : OI w0 W1 p Ba Bs va1 vs a1 s out := by
 obtain ⟨h1, h2, ⟨v, h3, h4⟩, h5, h6, h7, h8⟩ := h
 exact ⟨hq, Kd.Q_kept h2 hk (fun k e1 e2 => h6.2.2 (e2.symm.trans e1)), ⟨v, blk_kept h3 hk h6.1, Kd.R_kept h4 hk (fun k ho => ho.1)⟩, hB, h6, ⟨Nat.lt_of_lt_of_le h7.1 hk.1, Nat.lt_of_lt_of_le h7.2 hk.1⟩, h8⟩
theorem OI_less_s {w0 W W1 : World} {p Ba Bs : Nat} {va vs vs1 : Value} {a s s1 out : List S25} (h : OI w0 W p Ba Bs va vs a s out) (hq : QS w0 W1 Bs vs1 s1) (hB : Below w0.heap.size w0 W1) (hk : Kept W W1 (fun k => k = Bs)) : OI w0 W1 p Ba Bs va vs1 a s1 out := by
 obtain ⟨h1, h2, ⟨v, h3, h4⟩, h5, h6, h7, h8⟩ := h
 exact ⟨Kd.Q_kept h1 hk (fun k e1 e2 => h6.2.2 (e1.symm.trans e2)), hq, ⟨v, blk_kept h3 hk h6.2.1, Kd.R_kept h4 hk (fun k ho => ho.2.1)⟩, hB, h6, ⟨Nat.lt_of_lt_of_le h7.1 hk.1, Nat.lt_of_lt_of_le h7.2 hk.1⟩, h8⟩
theorem OI_app {w0 W W1 : World} {p Ba Bs : Nat} {va vs v v1 : Value} {a s out : List S25} {x : S25} (h : OI w0 W p Ba Bs va vs a s out) (hv : W.heap[p]? = some (.cells #[v] 27 (0, 0)))
  (hO : Kd.R k25 25 W1 w0.heap.size (fun k => k ≠ Ba ∧ k ≠ Bs ∧ k ≠ p) v1 (out ++ [x])) (hB : Below w0.heap.size w0 W1) (hg : W.grownBy W1 v.ownBlock) : OI w0 (W1.setCell ⟨p, 0, none⟩ v1) p Ba Bs va vs a s (out ++ [x]) := by
 obtain ⟨h1, h2, ⟨v', h3, h4⟩, h5, h6, h7, h8⟩ := h
 obtain rfl : v' = v := by
  rw [h3] at hv
  injection hv with hv
  injection hv with hv
  injection hv with hv
  injection hv with hv
 have hK : Kept W W1 (fun k => v'.ownBlock = some k) := Kept.of_grown hg (Kept.refl _ _) (fun k e => .inl e)
 have hok := h4.1
 have q1 : QS w0 W1 Ba va a := Kd.Q_kept h1 hK (fun k e1 e2 => (hok k e2).1 e1)
 have q2 : QS w0 W1 Bs vs s := Kd.Q_kept h2 hK (fun k e1 e2 => (hok k e2).2.1 e1)
 have q3 : W1.heap[p]? = some (.cells #[v'] 27 (0, 0)) := blk_kept h3 hK (fun e => (hok _ e).2.2 rfl)
 refine ⟨Kd.Q_far (p := ⟨p, 0, none⟩) q1 (fun k e => by rw [e]; exact h6.1.symm) _, Kd.Q_far (p := ⟨p, 0, none⟩) q2 (fun k e => by rw [e]; exact h6.2.1.symm) _, ⟨v1, blk_put q3 0 _ rfl, Kd.R_far (p := ⟨p, 0, none⟩) hO (fun k ho => ho.2.2) _⟩, hB.setCell (p := ⟨p, 0, none⟩) h8 _, h6, ?_, h8⟩
 have : (W1.setCell ⟨p, 0, none⟩ v1).heap.size = W1.heap.size := by simp
 rw [this]
 exact ⟨Nat.lt_of_lt_of_le h7.1 hK.1, Nat.lt_of_lt_of_le h7.2 hK.1⟩
theorem OI_fresh {w0 W : World} {p Ba Bs : Nat} {va vs : Value} {a s out : List S25} (h : OI w0 W p Ba Bs va vs a s out) : ∀ k, W.heap.size ≤ k → k ≠ Ba ∧ k ≠ Bs ∧ k ≠ p := by
 obtain ⟨h1, h2, ⟨v', h3, h4⟩, h5, h6, h7, h8⟩ := h
 have := blk_lt h3
 intro k hk
 omega
theorem OI_step {ops : Array Oper} {o : Oper} {act : Act} {Q : Exit → Act → World → Prop} {Kc : Act → World → Prop} {w0 W : World} {p Ba Bs : Nat} {va vs v : Value} {a s out : List S25} (x : S25) (h : OI w0 W p Ba Bs va vs a s out) (hv : W.heap[p]? = some (.cells #[v] 27 (0, 0))) (hl : out.length < 1000000000)
  (t1 t2 : Operand) (hw : Region.wanted o (yielded ops act.tmps) = true) (ho : o.op = .call { callee := .builtin .append, args := #[t1, t2], argTypes := #[27, 27] }) (hs : act.eval t1 = v) (hx : act.eval t2 = .slice (some ⟨W.heap.size, 0, none⟩) 1 1)
  (hk : ∀ v1 w1, (∃ A1 n1 c1, v1 = .slice A1 n1 c1) → Aside0 (OI w0 (w1.setCell ⟨p, 0, none⟩ v1) p Ba Bs va vs a s (out ++ [x])) → w1.cell? ⟨p, 0, none⟩ = some v → w1.frozen? ⟨p, 0, none⟩ = false → Kc (act.put o.dst v1) w1) :
  if Region.wanted o (yielded ops act.tmps) = true then Oper.wp Tryd.prog o act (W.alloc (.cells #[.int .i64 x.f0, .int .i64 x.f1, .string x.f2] 25)) Kc Q else Kc (act.put o.dst undef) (W.alloc (.cells #[.int .i64 x.f0, .int .i64 x.f1, .string x.f2] 25)) := by
 have hR : Kd.R k25 25 W w0.heap.size (fun k => k ≠ Ba ∧ k ≠ Bs ∧ k ≠ p) v out := by
  obtain ⟨h1, h2, ⟨v', h3, h4⟩, h5, h6, h7, h8⟩ := h
  obtain rfl : v' = v := by
   rw [h3] at hv
   injection hv with hv
   injection hv with hv
   injection hv with hv
   injection hv with hv
  exact h4
 refine Kd.R_append_step k25 (w0 := w0) (W := W) w0.heap.size hw t1 t2 27 25 (.agg #[(.int .i64 0), (.int .i64 0), (.string ⟨#[]⟩)]) 32 ho Tryd.underlying27 info25 rfl (by decide) (by omega) v out x [.int .i64 x.f0, .int .i64 x.f1, .string x.f2] (fun k_ => k_ ≠ Ba ∧ k_ ≠ Bs ∧ k_ ≠ p) (fun _ => False) hs hx (k25_mkM _ _ _ _) (fun _ hk => hk.elim) (OI_fresh h) hR h.2.2.2.1 h.2.2.2.1.size (compose_Of.room hl) ?_
 intro v1 w1 ho hb hg hat
 have hK : Kept W w1 (fun k => v.ownBlock = some k) := Kept.of_grown hg (Kept.refl _ _) (fun k e => .inl e)
 have hp : w1.heap[p]? = some (.cells #[v] 27 (0, 0)) := blk_kept hv hK (fun e => (hR.1 _ e).2.2 rfl)
 obtain ⟨A1, c1, e1, _, _⟩ := Kd.R_reads ho
 exact hk v1 w1 ⟨_, _, _, e1⟩ ⟨OI_app h hv ho hb hg⟩ ((blk_cell hp 0).trans rfl) (blk_frozen hp 0)
def over_Of.st (F : List S25 → List S25 → List S25 → Option (List S25)) (out : List S25) : List S25 → List S25 → Option (List S25)
 | a, y :: s' =>
  if y.f0 = 2 then (span_Out.f y.f0 y.f1 y.f2).bind fun n => F a s' (out ++ [⟨1, n, ⟨#[]⟩⟩])
  else match a with
   | x :: a' =>
    if x.f0 = 2 then F a' (y :: s') (out ++ [x])
    else (over_Of.cut (x :: a') (mn x.f1 y.f1)).bind fun a1 => (over_Of.cut (y :: s') (mn x.f1 y.f1)).bind fun s1 => if y.f0 = 1 then F a1 s1 (out ++ [⟨x.f0, mn x.f1 y.f1, ⟨#[]⟩⟩]) else F a1 s1 out
   | [] => none
 | x :: a', [] => if x.f0 = 2 then F a' [] (out ++ [x]) else none
 | [], [] => some out
def over_Of.l : Nat → List S25 → List S25 → List S25 → Option (List S25)
 | 0, _, _, _ => none
 | k + 1, a, s, out => if out.length < 1000000000 then over_Of.st (over_Of.l k) out a s else none
theorem over_Of.mono_l : ∀ (k : Nat) (a s out : List S25), LeO (over_Of.l k a s out) (over_Of.l (k + 1) a s out)
 | 0, a, s, out => by rw [show over_Of.l 0 a s out = none from rfl]; exact LeO.none _
 | k + 1, a, s, out => by
  rw [over_Of.l, over_Of.l]
  refine LeO.ite ?_ (LeO.refl _)
  cases s with
  | nil =>
   cases a with
   | nil => exact LeO.refl _
   | cons x a => exact LeO.ite (over_Of.mono_l k _ _ _) (LeO.refl _)
  | cons y s =>
   cases a with
   | nil => exact LeO.ite (LeO.bind (LeO.refl _) fun n => over_Of.mono_l k _ _ _) (LeO.refl _)
   | cons x a => exact LeO.ite (LeO.bind (LeO.refl _) fun n => over_Of.mono_l k _ _ _) (LeO.ite (over_Of.mono_l k _ _ _) (LeO.bind (LeO.refl _) fun a1 => LeO.bind (LeO.refl _) fun s1 => LeO.ite (over_Of.mono_l k _ _ _) (over_Of.mono_l k _ _ _)))
def over_Of.f (k : Nat) (l0 l1 : List S25) : Option (List S25 × Int) :=
 (op_May.f k l0).bind fun e0 => if e0 = 0 then (op_May.f k l1).bind fun e1 => (if e1 = 0 then (op_In.f l0).bind fun n0 => (op_In.f l1).bind fun n1 => (if n0 = n1 then (normal_Of.f l0).bind fun a => (normal_Of.f l1).bind fun s => (over_Of.l k a s []).bind fun out => (normal_Of.f out).bind fun r => some (r, 0) else some ([], 5)) else some ([], e1)) else some ([], e0)
theorem over_Of.mono (l0 l1 : List S25) (k : Nat) : LeO (over_Of.f k l0 l1) (over_Of.f (k + 1) l0 l1) := by
 unfold over_Of.f
 exact LeO.bind (op_May.mono _ _) fun e0 => LeO.ite (LeO.bind (op_May.mono _ _) fun e1 => LeO.ite (LeO.bind (LeO.refl _) fun n0 => LeO.bind (LeO.refl _) fun n1 => LeO.ite (LeO.bind (LeO.refl _) fun a => LeO.bind (LeO.refl _) fun s => LeO.bind (over_Of.mono_l _ _ _ _) fun out => LeO.refl _) (LeO.refl _)) (LeO.refl _)) (LeO.refl _)
theorem OI_ex {w0 W : World} {p Ba Bs : Nat} {va vs : Value} {a s out : List S25} (h : OI w0 W p Ba Bs va vs a s out) : ∃ Ba Bs, OI w0 W p Ba Bs va vs a s out := ⟨_, _, h⟩
theorem cell_past {W W1 : World} {a : Addr} {v : Value} (hb : Below W.heap.size W W1) (h : W.cell? a = some v) : W1.cell? a = some v := (hb.cell (World.block_lt_of_cell? W _ h)).trans h
set_option maxHeartbeats 8000000 in
set_option maxRecDepth 100000 in
theorem over_Of.calls (k : Nat) (A0 : Option Addr) (c0 : Nat) (l0 : List S25) (A1 : Option Addr) (c1 : Nat) (l1 : List S25) (r1 : List S25) (r2 : Int) (w : World) (hr0 : Kd.C k25 w A0 l0.length l0) (hc0 : l0.length ≤ c0) (hr1 : Kd.C k25 w A1 l1.length l1) (hc1 : l1.length ≤ c1) (hT : Tabs w) (h : over_Of.f k l0 l1 = some (r1, r2)) :
  Calls Tryd.prog 13 #[.slice A0 l0.length c0, .slice A1 l1.length c1] w fun e w' => ∃ v0_ : Value, e = .returned (.tuple #[v0_, .int .i64 r2]) ∧ Kd.R k25 25 w' w.heap.size (fun _ => True) v0_ r1 ∧ Below w.heap.size w w' := by
 unfold over_Of.f at h
 have hmf : ∀ (fn : Fn) (first cap : Array Value) (w : World), (Instr.makeFunc fn first cap).run Tryd.prog w = .ok (.func fn first cap) w := fun _ _ _ _ => rfl
 have h2p : 2 < w.heap.size := by
  have := hT.2 0 (by decide)
  exact World.block_lt_of_cell? w _ this
 obtain ⟨e0, he0, h⟩ := Option.bind_eq_some_iff.mp h
 have HR0 := am hr0; have HC0 := am hc0; have HR1 := am hr1; have HC1 := am hc1; have HT := am hT; have HE0 := am he0; have H2P := am h2p
 clear h2p
 have HPA : ∀ (t : TypeId) (o : Array Value) , Aside0 (((w.alloc (.cells #[.slice none 0 0] 27)).alloc (.cells o t)).heap[w.heap.size]? = some (.cells #[.slice none 0 0] 27 (0, 0))) := fun t o => ⟨blk_alloc (heap_alloc_new w _) _⟩
 have HBA : ∀ (t : TypeId) (o : Array Value) , Aside0 (Below w.heap.size w ((w.alloc (.cells #[.slice none 0 0] 27)).alloc (.cells o t))) := fun t o => ⟨(below_alloc (Below.refl _ _) _).alloc (by simp) _⟩
 have HSA : ∀ (t : TypeId) (o : Array Value) , Aside0 (((w.alloc (.cells #[.slice none 0 0] 27)).alloc (.cells o t)).heap[w.heap.size + 1]? = some (.cells o t (0, 0))) := fun t o => ⟨by have := heap_alloc_new (w.alloc (.cells #[.slice none 0 0] 27)) (.cells o t); simpa using this⟩
 by_cases z0 : e0 = 0
 ·subst z0
  rw [if_pos rfl] at h
  obtain ⟨e1, he1, h⟩ := Option.bind_eq_some_iff.mp h
  have HE1 := am he1
  by_cases z1 : e1 = 0
  ·subst z1
   rw [if_pos rfl] at h
   obtain ⟨n0, hn0, h⟩ := Option.bind_eq_some_iff.mp h
   obtain ⟨n1, hn1, h⟩ := Option.bind_eq_some_iff.mp h
   have HN0 := am hn0; have HN1 := am hn1
   by_cases z2 : n0 = n1
   ·rw [if_pos z2] at h
    obtain ⟨la, hla, h⟩ := Option.bind_eq_some_iff.mp h
    obtain ⟨ls, hls, h⟩ := Option.bind_eq_some_iff.mp h
    obtain ⟨out, hout, h⟩ := Option.bind_eq_some_iff.mp h
    obtain ⟨r, hr, h⟩ := Option.bind_eq_some_iff.mp h
    simp only [Option.some.injEq, Prod.mk.injEq] at h
    obtain ⟨rfl, rfl⟩ := h
    have z2b : (n0 != n1) = false := bne_eq_false_iff_eq.mpr z2
    have HLA := am hla; have HLS := am hls; have HOUT := am hout; have HRR := am hr
    clear hr0 hc0 hr1 hc1 hT he0 he1 hn0 hn1 z2 hla hls hout hr
    go_enter_defers Tryd.func13, Tryd.ntmps13
    go_wp2
    go_loopw [7, 8, 14] (fun _ _ v14 wr => ∃ j : Nat, v14 = .int .i64 j ∧ j ≤ 2 ∧ Aside0 (wr.heap[w.heap.size + 1]? = some (.cells #[.slice A0 l0.length c0, .slice A1 l1.length c1] 27 (0, 0))) ∧ Aside0 (wr.heap[w.heap.size]? = some (.cells #[.slice none 0 0] 27 (0, 0))) ∧ Aside0 (Below w.heap.size w wr)) (fun _ _ v14 _ => 2 - (intOf v14).toNat)
    case atStart => exact ⟨0, rfl, by omega, HSA _ _, HPA _ _, HBA _ _⟩
    case round =>
     obtain ⟨j, rfl, hj, HS, HP, HB⟩ := hrel
     obtain ⟨k0, k1⟩ := compose_Of.cells2 HS.out
     rcases (by omega : j = 0 ∨ j = 1 ∨ j = 2) with rfl | rfl | rfl
     ·go_wp2_with (go_at_call 46; (with_reducible refine (op_May.calls k A0 c0 l0 0 _ (Kd.C_below HR0.out HB.out) HC0.out (Tabs.below HT.out HB.out) HE0.out).mono ?_); rintro e w1 ⟨rfl, hb⟩; have HS1 := am (blk_below HS.out hb); have HP1 := am (blk_below HP.out hb); have HB1 := am (below_then HB.out HB.out.size hb); clear hb)
      go_round
      case measure => decide
      case rel => exact ⟨1, rfl, by omega, HS1, HP1, HB1⟩
     ·go_wp2_with (go_at_call 46; (with_reducible refine (op_May.calls k A1 c1 l1 0 _ (Kd.C_below HR1.out HB.out) HC1.out (Tabs.below HT.out HB.out) HE1.out).mono ?_); rintro e w1 ⟨rfl, hb⟩; have HS1 := am (blk_below HS.out hb); have HP1 := am (blk_below HP.out hb); have HB1 := am (below_then HB.out HB.out.size hb); clear hb)
      go_round
      case measure => decide
      case rel => exact ⟨2, rfl, by omega, HS1, HP1, HB1⟩
     ·go_wp2_with (first | (go_at_call 20; (with_reducible refine (op_In.calls A0 c0 l0 n0 _ (Kd.C_below HR0.out HB.out) HC0.out (Tabs.below HT.out HB.out) HN0.out).mono ?_); rintro e w1 ⟨rfl, hb⟩; have HP1 := am (blk_below HP.out hb); have HS1 := am (blk_lt (blk_below HS.out hb)); have HB1 := am (below_then HB.out HB.out.size hb); clear hb) | (go_at_call 20; (with_reducible refine (op_In.calls A1 c1 l1 n1 _ (Kd.C_below HR1.out HB1.out) HC1.out (Tabs.below HT.out HB1.out) HN1.out).mono ?_); rintro e w2 ⟨rfl, hb⟩; have HB2 := am (below_then HB1.out HB1.out.size hb); have HP2 := am (blk_below HP1.out hb); have HS2 := am (Nat.lt_of_lt_of_le HS1.out hb.size); clear hb) | (go_at_call 33; (with_reducible refine (normal_Of.calls A0 c0 l0 la _ (Kd.C_below HR0.out HB2.out) HC0.out HLA.out).mono ?_); rintro e w3 ⟨va, rfl, ho, hb⟩; have HOA := am ho; have HBA3 := am hb; have HB3 := am (below_then HB2.out HB2.out.size hb); clear ho hb) | (go_at_call 33; (with_reducible refine (normal_Of.calls A1 c1 l1 ls _ (Kd.C_below HR1.out HB3.out) HC1.out HLS.out).mono ?_); rintro e w4 ⟨vs, rfl, ho, hb⟩; obtain ⟨Ba, Bs, hoi⟩ := OI_ex (OI_new HOA.out HBA3.out ho hb HP2.out HB2.out (Nat.le_refl _) H2P.out HS2.out); have HOI := am hoi; clear ho hb HOA HBA3 hoi))
      go_loopg [0, 1] k (fun kq v0 v1 wr => ∃ (a : List S25) (s : List S25) (ot : List S25), Aside0 (over_Of.l kq a s ot = some out) ∧ Aside0 (OI w wr w.heap.size Ba Bs v0 v1 a s ot) ∧ Aside0 (kq ≤ k))
      case atStart => exact ⟨_, _, _, HOUT, HOI, ⟨Nat.le_refl _⟩⟩
      case round =>
       clear HOI
       obtain ⟨a, s, ot, HA, HOI, HK1⟩ := hrel
       cases gk with
       | zero => exact absurd HA.out (by simp [over_Of.l])
       | succ k1 =>
        have H := HA.out
        clear HA
        rw [over_Of.l] at H
        by_cases hlen : ot.length < 1000000000
        ·rw [if_pos hlen] at H
         have HLEN := am hlen
         clear hlen
         obtain ⟨vo, hcp, hRo⟩ := HOI.out.2.2.1
         have HCP := am hcp; have HRO := am hRo
         have cp : wr.cell? ⟨w.heap.size, 0, none⟩ = some vo := (blk_cell hcp 0).trans rfl
         have fp : wr.frozen? ⟨w.heap.size, 0, none⟩ = false := blk_frozen hcp 0
         clear hcp hRo
         have HOD := am (OI_below HOI.out (below_drew (Below.refl _ _)))
         have HCD := am (blk_drew HCP.out)
         have HQA := am HOI.out.1; have HQS := am HOI.out.2.1
         cases s with
         | nil =>
          obtain ⟨As, cs_, rfl, hcs, _⟩ := Kd.Q_reads HQS.out
          have HCS := am hcs
          clear hcs
          cases a with
          | nil =>
           obtain rfl : ot = out := Option.some.inj H
           clear H
           obtain ⟨Aa, ca, rfl, hca, _⟩ := Kd.Q_reads HQA.out
           obtain ⟨AE, cE, rfl, hcE, _⟩ := Kd.R_reads HRO.out
           have HCE := am hcE
           clear hca hcE
           go_wp2
           refine leaves_cons (f := 47) (args := #[.pointer (some ⟨w.heap.size, 0, none⟩)]) (by simp) (by simp [go_sem]) ?_
           refine (over_Of.door w _ w.heap.size cE AE ot r (blk_put HCP.out 0 _ rfl) (Kd.R_far (p := ⟨w.heap.size, 0, none⟩) HRO.out (fun k ho => ho.2.2) _ |> fun q => Kd.R_mono q (fun _ _ => trivial)) HCE.out (HOI.out.2.2.2.1.setCell (p := ⟨w.heap.size, 0, none⟩) (Nat.le_refl _) _) (Nat.le_refl _) HRR.out).mono ?_
           rintro e u' w'' ⟨rfl, rfl, v, hpv, hRv, hBv⟩
           obtain ⟨A9, c9, rfl, hc9, _⟩ := Kd.R_reads hRv
           have k9 : w''.cell? ⟨w.heap.size, 0, none⟩ = some (.slice A9 r.length c9) := (blk_cell hpv 0).trans rfl
           have HR9 := am hRv; have HB9 := am hBv
           clear hRv hBv hpv hc9
           dsimp only
           simp [Leaves, settle, results, Tryd.results13, go_sem, k9]
           exact ⟨HR9.out, HB9.out⟩
          | cons x a' =>
           by_cases x2 : x.f0 = 2
           ·rw [over_Of.st, if_pos x2] at H
            have H' := am H
            obtain ⟨oa, ca, rfl, hca, x0, x1, x2c, fza, hba1, hba2, htya⟩ := QS_open HQA.out
            have p1 : (0 < a'.length + 1) = True := eq_true (by omega)
            have HCA := am hca
            clear hba1 hba2 htya hca fza
            have x2b : (x.f0 == 2) = true := beq_iff_eq.mpr x2
            clear H x2
            obtain ⟨A3, c3, hcut, hcq, hc3⟩ := over_Of.cutq ca (some ⟨Ba, oa, none⟩) x a' HCA.out
            clear hc3
            have cpa : (wr.alloc (.cells #[.int .i64 x.f0, .int .i64 x.f1, .string x.f2] 25)).cell? ⟨w.heap.size, 0, none⟩ = some vo := cell_past (below_alloc (Below.refl _ _) _) cp
            go_wp2_with fail
            refine wp_region_noPanic ?_
            go_region_law ((refine OI_step x HOD.out HCD.out HLEN.out (.tmp 103) (.tmp 107) (by rfl) (by rfl) (by rfl) (by rfl) ?_; rintro _ w7 ⟨A7, n7, c7, rfl⟩ HO7 cp7 fp7))
            all_goals (refine NoPanic.normal ?_)
            all_goals go_wp2
            all_goals go_roundg k1
            all_goals first | exact compose_Of.lt HK1.out | exact ⟨_, _, _, H', ⟨OI_tail_a HO7.out (hcq.out _ _ _)⟩, ⟨Nat.le_of_succ_le HK1.out⟩⟩
           ·rw [over_Of.st, if_neg x2] at H; cases H
         | cons y s' =>
          obtain ⟨os, cs, rfl, hcs, y0, y1, y2c, fzs, hbs1, hbs2, htys⟩ := QS_open HQS.out
          have q1 : (0 < s'.length + 1) = True := eq_true (by omega)
          have HCS := am hcs
          clear hbs1 hbs2 htys hcs fzs
          by_cases y2 : y.f0 = 2
          ·have y2b : (y.f0 == 2) = true := beq_iff_eq.mpr y2
           cases a with
           | nil =>
            rw [over_Of.st, if_pos y2] at H
            clear y2
            obtain ⟨Aa, ca, rfl, hca, _⟩ := Kd.Q_reads HQA.out
            clear hca
            obtain ⟨n, hn, H⟩ := Option.bind_eq_some_iff.mp H
            have HSN := am hn; have H' := am H
            clear hn H
            obtain ⟨A3, c3, hcut, hcq, hc3⟩ := over_Of.cutq cs (some ⟨Bs, os, none⟩) y s' HCS.out
            clear hc3
            have HTD := am (Tabs.below HT.out HOD.out.2.2.2.1)
            go_wp2_with fail
            refine wp_region_noPanic ?_
            go_region_law (first | (refine OI_step (⟨1, n, ⟨#[]⟩⟩ : S25) HO5.out HC5.out HLEN.out (.tmp 82) (.tmp 88) (by rfl) (by rfl) (by rfl) (by rfl) ?_; rintro _ w7 ⟨A7, n7, c7, rfl⟩ HO7 cp7 fp7) | (go_simp; go_at_call 48; (with_reducible refine (span_Out.calls _ _ _ n _ HTD.out HSN.out).mono ?_); rintro e w5 ⟨rfl, hb⟩; have HO5 := am (OI_below HOD.out hb); have HC5 := am (blk_below HCD.out hb); have cp5 : w5.cell? ⟨w.heap.size, 0, none⟩ = some vo := (blk_cell HC5.out 0).trans rfl; have cpa : (w5.alloc (.cells #[.int .i64 1, .int .i64 n, .string ⟨#[]⟩] 25)).cell? ⟨w.heap.size, 0, none⟩ = some vo := cell_past (below_alloc (Below.refl _ _) _) cp5; clear hb))
            all_goals (refine NoPanic.normal ?_)
            all_goals go_wp2
            all_goals go_roundg k1
            all_goals first | exact compose_Of.lt HK1.out | exact ⟨_, _, _, H', ⟨OI_tail_s HO7.out (hcq.out _ _ _)⟩, ⟨Nat.le_of_succ_le HK1.out⟩⟩
           | cons x a' =>
            rw [over_Of.st, if_pos y2] at H
            clear y2
            obtain ⟨oa, ca, rfl, hca, x0, x1, x2c, fza, hba1, hba2, htya⟩ := QS_open HQA.out
            have p1 : (0 < a'.length + 1) = True := eq_true (by omega)
            have HCA := am hca
            clear hba1 hba2 htya hca fza
            obtain ⟨n, hn, H⟩ := Option.bind_eq_some_iff.mp H
            have HSN := am hn; have H' := am H
            clear hn H
            obtain ⟨A3, c3, hcut, hcq, hc3⟩ := over_Of.cutq cs (some ⟨Bs, os, none⟩) y s' HCS.out
            clear hc3
            have HTD := am (Tabs.below HT.out HOD.out.2.2.2.1)
            go_wp2_with fail
            refine wp_region_noPanic ?_
            go_region_law (first | (refine OI_step (⟨1, n, ⟨#[]⟩⟩ : S25) HO5.out HC5.out HLEN.out (.tmp 82) (.tmp 88) (by rfl) (by rfl) (by rfl) (by rfl) ?_; rintro _ w7 ⟨A7, n7, c7, rfl⟩ HO7 cp7 fp7) | (go_simp; go_at_call 48; (with_reducible refine (span_Out.calls _ _ _ n _ HTD.out HSN.out).mono ?_); rintro e w5 ⟨rfl, hb⟩; have HO5 := am (OI_below HOD.out hb); have HC5 := am (blk_below HCD.out hb); have cp5 : w5.cell? ⟨w.heap.size, 0, none⟩ = some vo := (blk_cell HC5.out 0).trans rfl; have cpa : (w5.alloc (.cells #[.int .i64 1, .int .i64 n, .string ⟨#[]⟩] 25)).cell? ⟨w.heap.size, 0, none⟩ = some vo := cell_past (below_alloc (Below.refl _ _) _) cp5; clear hb))
            all_goals (refine NoPanic.normal ?_)
            all_goals go_wp2
            all_goals go_roundg k1
            all_goals first | exact compose_Of.lt HK1.out | exact ⟨_, _, _, H', ⟨OI_tail_s HO7.out (hcq.out _ _ _)⟩, ⟨Nat.le_of_succ_le HK1.out⟩⟩
          ·have y2b : (y.f0 == 2) = false := beq_eq_false_iff_ne.mpr y2
           cases a with
           | nil => rw [over_Of.st, if_neg y2] at H; cases H
           | cons x a' =>
            obtain ⟨oa, ca, rfl, hca, x0, x1, x2c, fza, hba1, hba2, htya⟩ := QS_open HQA.out
            have p1 : (0 < a'.length + 1) = True := eq_true (by omega)
            have HCA := am hca
            clear hba1 hba2 htya hca fza
            by_cases x2 : x.f0 = 2
            ·rw [over_Of.st, if_neg y2] at H
             replace H := H
             simp only [x2, if_true] at H
             have H' := am H
             have x2b : (x.f0 == 2) = true := beq_iff_eq.mpr x2
             clear H x2 y2
             obtain ⟨A3, c3, hcut, hcq, hc3⟩ := over_Of.cutq ca (some ⟨Ba, oa, none⟩) x a' HCA.out
             clear hc3
             have cpa : (wr.alloc (.cells #[.int .i64 x.f0, .int .i64 x.f1, .string x.f2] 25)).cell? ⟨w.heap.size, 0, none⟩ = some vo := cell_past (below_alloc (Below.refl _ _) _) cp
             go_wp2_with fail
             refine wp_region_noPanic ?_
             go_region_law ((refine OI_step x HOD.out HCD.out HLEN.out (.tmp 103) (.tmp 107) (by rfl) (by rfl) (by rfl) (by rfl) ?_; rintro _ w7 ⟨A7, n7, c7, rfl⟩ HO7 cp7 fp7))
             all_goals (refine NoPanic.normal ?_)
             all_goals go_wp2
             all_goals go_roundg k1
             all_goals first | exact compose_Of.lt HK1.out | exact ⟨_, _, _, H', ⟨OI_tail_a HO7.out (hcq.out _ _ _)⟩, ⟨Nat.le_of_succ_le HK1.out⟩⟩
            ·rw [over_Of.st, if_neg y2] at H
             simp only [x2, if_false] at H
             have x2b : (x.f0 == 2) = false := beq_eq_false_iff_ne.mpr x2
             clear x2 y2
             obtain ⟨nm, hnm⟩ : ∃ nm, mn x.f1 y.f1 = nm := ⟨_, rfl⟩
             simp only [hnm] at H
             have hnm_ : (if y.f1 < x.f1 then y.f1 else x.f1) = nm := hnm
             clear hnm
             obtain ⟨a1, ha1, H⟩ := Option.bind_eq_some_iff.mp H
             obtain ⟨s1, hs1, H⟩ := Option.bind_eq_some_iff.mp H
             have HAC := am ha1; have HSC := am hs1
             clear ha1 hs1
             by_cases yk : y.f0 = 1
             ·rw [if_pos yk] at H
              have ykb : (y.f0 == 1) = true := beq_iff_eq.mpr yk
              have H' := am H
              clear H yk
              go_wp2_with fail
              refine wp_region_noPanic ?_
              go_quiet (fail)
              refine NoPanic.normal ?_
              have HON := am (OI_below HOI.out (below_drew (pw_below_drewN (Below.refl _ _) nq)))
              have HCN : Aside0 ((wr.drewN nq).drew.heap[w.heap.size]? = some (.cells #[vo] 27 (0, 0))) := ⟨HCP.out⟩
              have cpa : ((wr.drewN (nq + 1)).alloc (.cells #[.int .i64 x.f0, .int .i64 nm, .string ⟨#[]⟩] 25)).cell? ⟨w.heap.size, 0, none⟩ = some vo := cell_past (below_alloc (Below.refl _ _) _) cp
              go_wp2_with fail
              refine wp_region_noPanic ?_
              go_region_law ((refine OI_step (⟨x.f0, nm, ⟨#[]⟩⟩ : S25) HON.out HCN.out HLEN.out (.tmp 56) (.tmp 63) (by rfl) (by rfl) (by rfl) (by rfl) ?_; rintro _ w7 ⟨A7, n7, c7, rfl⟩ HOL cp7 fp7; have HLQ := am HOL.out.1; have HLB := am HOL.out.2.2.2.1))
              all_goals (refine NoPanic.normal ?_)
              all_goals go_wp2_with (first | (go_at_call 49; (with_reducible refine (over_Of.less w _ Ba _ (x :: a') nm a1 HLQ.out HLB.out HAC.out).mono ?_); rintro e w8 ⟨v8, rfl, hq, hb, hk⟩; have HO8 := am (OI_less_a HOL.out hq hb hk); have HO8S := am HO8.out.2.1; have HO8B := am HO8.out.2.2.2.1; clear hq hb hk) | (go_at_call 49; (with_reducible refine (over_Of.less w _ Bs _ (y :: s') nm s1 HO8S.out HO8B.out HSC.out).mono ?_); rintro e w9 ⟨v9, rfl, hq, hb, hk⟩; have HO9 := am (OI_less_s HO8.out hq hb hk); clear hq hb hk))
              all_goals go_roundg k1
              all_goals first | exact compose_Of.lt HK1.out | exact ⟨_, _, _, H', HO9, ⟨Nat.le_of_succ_le HK1.out⟩⟩
             ·rw [if_neg yk] at H
              have ykb : (y.f0 == 1) = false := beq_eq_false_iff_ne.mpr yk
              have H' := am H
              clear H yk
              go_wp2_with fail
              refine wp_region_noPanic ?_
              go_quiet (fail)
              refine NoPanic.normal ?_
              have HOL := am (OI_below HOI.out (pw_below_drewN (Below.refl _ _) nq))
              have HLQ := am HOL.out.1; have HLB := am HOL.out.2.2.2.1
              go_wp2_with (first | (go_at_call 49; (with_reducible refine (over_Of.less w _ Ba _ (x :: a') nm a1 HLQ.out HLB.out HAC.out).mono ?_); rintro e w8 ⟨v8, rfl, hq, hb, hk⟩; have HO8 := am (OI_less_a HOL.out hq hb hk); have HO8S := am HO8.out.2.1; have HO8B := am HO8.out.2.2.2.1; clear hq hb hk) | (go_at_call 49; (with_reducible refine (over_Of.less w _ Bs _ (y :: s') nm s1 HO8S.out HO8B.out HSC.out).mono ?_); rintro e w9 ⟨v9, rfl, hq, hb, hk⟩; have HO9 := am (OI_less_s HO8.out hq hb hk); clear hq hb hk))
              go_roundg k1
              case measure => exact compose_Of.lt HK1.out
              case rel => exact ⟨_, _, _, H', HO9, ⟨Nat.le_of_succ_le HK1.out⟩⟩
        ·rw [if_neg hlen] at H; cases H
   ·rw [if_neg z2] at h
    simp only [Option.some.injEq, Prod.mk.injEq] at h
    obtain ⟨rfl, rfl⟩ := h
    have z2b : (n0 != n1) = true := bne_iff_ne.mpr z2
    clear hr0 hc0 hr1 hc1 hT he0 he1 hn0 hn1 z2
    go_enter_defers Tryd.func13, Tryd.ntmps13
    go_wp2
    go_loopw [7, 8, 14] (fun _ _ v14 wr => ∃ j : Nat, v14 = .int .i64 j ∧ j ≤ 2 ∧ Aside0 (wr.heap[w.heap.size + 1]? = some (.cells #[.slice A0 l0.length c0, .slice A1 l1.length c1] 27 (0, 0))) ∧ Aside0 (wr.heap[w.heap.size]? = some (.cells #[.slice none 0 0] 27 (0, 0))) ∧ Aside0 (Below w.heap.size w wr)) (fun _ _ v14 _ => 2 - (intOf v14).toNat)
    case atStart => exact ⟨0, rfl, by omega, HSA _ _, HPA _ _, HBA _ _⟩
    case round =>
     obtain ⟨j, rfl, hj, HS, HP, HB⟩ := hrel
     obtain ⟨k0, k1⟩ := compose_Of.cells2 HS.out
     rcases (by omega : j = 0 ∨ j = 1 ∨ j = 2) with rfl | rfl | rfl
     ·go_wp2_with (go_at_call 46; (with_reducible refine (op_May.calls k A0 c0 l0 0 _ (Kd.C_below HR0.out HB.out) HC0.out (Tabs.below HT.out HB.out) HE0.out).mono ?_); rintro e w1 ⟨rfl, hb⟩; have HS1 := am (blk_below HS.out hb); have HP1 := am (blk_below HP.out hb); have HB1 := am (below_then HB.out HB.out.size hb); clear hb)
      go_round
      case measure => decide
      case rel => exact ⟨1, rfl, by omega, HS1, HP1, HB1⟩
     ·go_wp2_with (go_at_call 46; (with_reducible refine (op_May.calls k A1 c1 l1 0 _ (Kd.C_below HR1.out HB.out) HC1.out (Tabs.below HT.out HB.out) HE1.out).mono ?_); rintro e w1 ⟨rfl, hb⟩; have HS1 := am (blk_below HS.out hb); have HP1 := am (blk_below HP.out hb); have HB1 := am (below_then HB.out HB.out.size hb); clear hb)
      go_round
      case measure => decide
      case rel => exact ⟨2, rfl, by omega, HS1, HP1, HB1⟩
     ·go_wp2_with (first | (go_at_call 20; (with_reducible refine (op_In.calls A0 c0 l0 n0 _ (Kd.C_below HR0.out HB.out) HC0.out (Tabs.below HT.out HB.out) HN0.out).mono ?_); rintro e w1 ⟨rfl, hb⟩; have HP1 := am (blk_below HP.out hb); have HB1 := am (below_then HB.out HB.out.size hb); clear hb) | (go_at_call 20; (with_reducible refine (op_In.calls A1 c1 l1 n1 _ (Kd.C_below HR1.out HB1.out) HC1.out (Tabs.below HT.out HB1.out) HN1.out).mono ?_); rintro e w2 ⟨rfl, hb⟩; have HB2 := am (below_then HB1.out HB1.out.size hb); have HP2 := am (blk_below HP1.out hb); have cp2 : w2.cell? ⟨w.heap.size, 0, none⟩ = some (.slice none 0 0) := (blk_cell HP2.out 0).trans rfl; have fp2 : w2.frozen? ⟨w.heap.size, 0, none⟩ = false := blk_frozen HP2.out 0; clear hb))
      have k9 : (w2.setCell ⟨w.heap.size, 0, none⟩ (.slice none 0 0)).cell? ⟨w.heap.size, 0, none⟩ = some (.slice none 0 0) := (blk_cell (blk_put HP2.out 0 _ rfl) 0).trans rfl
      simp [bodyPostD, Leaves, settle, results, Tryd.results13, go_sem, k9]
      exact ⟨Kd.R_nil _ _ _ _ _, HB2.out.setCell (p := ⟨w.heap.size, 0, none⟩) (Nat.le_refl _) _⟩
  ·rw [if_neg z1] at h
   simp only [Option.some.injEq, Prod.mk.injEq] at h
   obtain ⟨rfl, rfl⟩ := h
   have z1b : (e1 != 0) = true := bne_iff_ne.mpr z1
   clear hr0 hc0 hr1 hc1 hT he0 he1 z1
   go_enter_defers Tryd.func13, Tryd.ntmps13
   go_wp2
   go_loopw [7, 8, 14] (fun _ _ v14 wr => ∃ j : Nat, v14 = .int .i64 j ∧ j ≤ 1 ∧ Aside0 (wr.heap[w.heap.size + 1]? = some (.cells #[.slice A0 l0.length c0, .slice A1 l1.length c1] 27 (0, 0))) ∧ Aside0 (wr.heap[w.heap.size]? = some (.cells #[.slice none 0 0] 27 (0, 0))) ∧ Aside0 (Below w.heap.size w wr)) (fun _ _ v14 _ => 2 - (intOf v14).toNat)
   case atStart => exact ⟨0, rfl, by omega, HSA _ _, HPA _ _, HBA _ _⟩
   case round =>
    obtain ⟨j, rfl, hj, HS, HP, HB⟩ := hrel
    obtain ⟨k0, k1⟩ := compose_Of.cells2 HS.out
    rcases (by omega : j = 0 ∨ j = 1) with rfl | rfl
    ·go_wp2_with (go_at_call 46; (with_reducible refine (op_May.calls k A0 c0 l0 0 _ (Kd.C_below HR0.out HB.out) HC0.out (Tabs.below HT.out HB.out) HE0.out).mono ?_); rintro e w1 ⟨rfl, hb⟩; have HS1 := am (blk_below HS.out hb); have HP1 := am (blk_below HP.out hb); have HB1 := am (below_then HB.out HB.out.size hb); clear hb)
     go_round
     case measure => decide
     case rel => exact ⟨1, rfl, by omega, HS1, HP1, HB1⟩
    ·go_wp2_with (go_at_call 46; (with_reducible refine (op_May.calls k A1 c1 l1 e1 _ (Kd.C_below HR1.out HB.out) HC1.out (Tabs.below HT.out HB.out) HE1.out).mono ?_); rintro e w1 ⟨rfl, hb⟩; have HP1 := am (blk_below HP.out hb); have HB1 := am (below_then HB.out HB.out.size hb); have cp1 : w1.cell? ⟨w.heap.size, 0, none⟩ = some (.slice none 0 0) := (blk_cell HP1.out 0).trans rfl; have fp1 : w1.frozen? ⟨w.heap.size, 0, none⟩ = false := blk_frozen HP1.out 0; clear hb)
     have k9 : (w1.setCell ⟨w.heap.size, 0, none⟩ (.slice none 0 0)).cell? ⟨w.heap.size, 0, none⟩ = some (.slice none 0 0) := (blk_cell (blk_put HP1.out 0 _ rfl) 0).trans rfl
     simp [bodyPostD, Leaves, settle, results, Tryd.results13, go_sem, k9]
     exact ⟨Kd.R_nil _ _ _ _ _, HB1.out.setCell (p := ⟨w.heap.size, 0, none⟩) (Nat.le_refl _) _⟩
 ·rw [if_neg z0] at h
  simp only [Option.some.injEq, Prod.mk.injEq] at h
  obtain ⟨rfl, rfl⟩ := h
  have z0b : (e0 != 0) = true := bne_iff_ne.mpr z0
  clear hr0 hc0 hr1 hc1 hT he0 z0
  go_enter_defers Tryd.func13, Tryd.ntmps13
  go_wp2
  go_loopw [7, 8, 14] (fun _ _ v14 wr => ∃ j : Nat, v14 = .int .i64 j ∧ j ≤ 0 ∧ Aside0 (wr.heap[w.heap.size + 1]? = some (.cells #[.slice A0 l0.length c0, .slice A1 l1.length c1] 27 (0, 0))) ∧ Aside0 (wr.heap[w.heap.size]? = some (.cells #[.slice none 0 0] 27 (0, 0))) ∧ Aside0 (Below w.heap.size w wr)) (fun _ _ v14 _ => 2 - (intOf v14).toNat)
  case atStart => exact ⟨0, rfl, by omega, HSA _ _, HPA _ _, HBA _ _⟩
  case round =>
   obtain ⟨j, rfl, hj, HS, HP, HB⟩ := hrel
   obtain ⟨k0, k1⟩ := compose_Of.cells2 HS.out
   obtain rfl : j = 0 := by omega
   go_wp2_with (go_at_call 46; (with_reducible refine (op_May.calls k A0 c0 l0 e0 _ (Kd.C_below HR0.out HB.out) HC0.out (Tabs.below HT.out HB.out) HE0.out).mono ?_); rintro e w1 ⟨rfl, hb⟩; have HP1 := am (blk_below HP.out hb); have HB1 := am (below_then HB.out HB.out.size hb); have cp1 : w1.cell? ⟨w.heap.size, 0, none⟩ = some (.slice none 0 0) := (blk_cell HP1.out 0).trans rfl; have fp1 : w1.frozen? ⟨w.heap.size, 0, none⟩ = false := blk_frozen HP1.out 0; clear hb)
   have k9 : (w1.setCell ⟨w.heap.size, 0, none⟩ (.slice none 0 0)).cell? ⟨w.heap.size, 0, none⟩ = some (.slice none 0 0) := (blk_cell (blk_put HP1.out 0 _ rfl) 0).trans rfl
   simp [bodyPostD, Leaves, settle, results, Tryd.results13, go_sem, k9]
   exact ⟨Kd.R_nil _ _ _ _ _, HB1.out.setCell (p := ⟨w.heap.size, 0, none⟩) (Nat.le_refl _) _⟩
def epitometop_row.l0 : Nat → ByteArray → List (S25) → Int → Option ((List (S25)))
 | 0, _, _, _ => none
 | k + 1, x0, x3, x4 => if (wrap64 (x4 + 1)) < (x0.size : Int) then (if 0 ≤ (wrap64 (x4 + 1)) then (if 0 ≤ x4 then (if x4 < (x0.size : Int) then (if (bt x0 x4) = 107 then (if x3.length < 4398046511104 then (epitometop_row.l0 k x0 (x3 ++ [(⟨1, ((bt x0 (wrap64 (x4 + 1))) - 48) % 256, (⟨#[]⟩ : ByteArray)⟩ : S25)]) (wrap64 (x4 + 2))) else (none)) else (if (bt x0 x4) = 100 then (if x3.length < 4398046511104 then (epitometop_row.l0 k x0 (x3 ++ [(⟨3, ((bt x0 (wrap64 (x4 + 1))) - 48) % 256, (⟨#[]⟩ : ByteArray)⟩ : S25)]) (wrap64 (x4 + 2))) else (none)) else (if x4 ≤ (wrap64 (x4 + 1)) then (if (wrap64 (x4 + 1)) ≤ (x0.size : Int) then (if x3.length < 4398046511104 then (epitometop_row.l0 k x0 (x3 ++ [(⟨2, 0, x0.extract (x4 : Int).toNat ((wrap64 (x4 + 1)) : Int).toNat⟩ : S25)]) (wrap64 (x4 + 2))) else (none)) else (none)) else (none)))) else (none)) else (none)) else (none)) else (some x3)
def epitometop_row.f (k : Nat) (a0 : ByteArray) : Option ((List (S25))) := epitometop_row.l0 k a0 (([] : List (S25))) 0
theorem epitometop_row.mono_l : ∀ k, (∀ y0 y1 y2, LeO (epitometop_row.l0 k y0 y1 y2) (epitometop_row.l0 (k + 1) y0 y1 y2))
 | 0 => fun _ _ _ r h => by simp [epitometop_row.l0] at h
 | k + 1 => by
  have ih0 := epitometop_row.mono_l k
  ·intro y0 y1 y2
   unfold epitometop_row.l0
   repeat' first
   | (with_reducible exact ih0 _ _ _)
   | (with_reducible exact LeO.refl _)
   | (with_reducible exact LeO.none _)
   | (with_reducible refine LeO.ite ?_ ?_)
   | (with_reducible refine LeO.bind ?_ (fun _ => ?_))
   | exact ih0 _ _ _
   | exact LeO.none _
   | refine LeO.ite ?_ ?_
   | refine LeO.bind ?_ (fun _ => ?_)
theorem epitometop_row.mono : ∀ a0 k, LeO (epitometop_row.f k a0) (epitometop_row.f (k + 1) a0) := by
 intro a0 k
 have ih0 := epitometop_row.mono_l k
 unfold epitometop_row.f
 repeat' first
   | (with_reducible exact ih0 _ _ _)
   | (with_reducible exact LeO.refl _)
   | (with_reducible exact LeO.none _)
   | (with_reducible refine LeO.ite ?_ ?_)
   | (with_reducible refine LeO.bind ?_ (fun _ => ?_))
   | exact ih0 _ _ _
   | exact LeO.none _
   | refine LeO.ite ?_ ?_
   | refine LeO.bind ?_ (fun _ => ?_)
set_option maxHeartbeats 8000000 in
set_option maxRecDepth 100000 in
theorem epitometop_row.calls (k : Nat) (a0 : ByteArray) (r : List (S25)) (w : World) (h : epitometop_row.f k a0 = some r) :
  Calls Tryd.prog 39 #[.string a0] w fun e w' => ∃ v0_ : Value, e = .returned (v0_) ∧ Kd.R k25 25 w' w.heap.size (fun _ => True) v0_ r ∧ Below w.heap.size w w' := by
 have hu25 := Tryd.underlying25
 have HB := am (Below.refl w.heap.size w)
 have H : (epitometop_row.l0 k a0 (([] : List (S25))) 0) = some r := h
 clear h
 obtain ⟨y128, hy128⟩ : ∃ y_ : List (S25), y_ = (([] : List (S25))) := ⟨_, rfl⟩
 replace H : (epitometop_row.l0 k a0 y128 0) = some r := by first | (rw [hy128]; with_reducible exact H) | (have H2_ := (Option.bind_some _ _).symm.trans H; rw [hy128]; with_reducible exact H2_) | (have H2_ := (Option.bind_some _ _).symm.trans H; with_reducible exact H2_) | with_reducible exact H | (rw [hy128]; exact H) | exact H
 have Ny128 := am hy128
 clear hy128
 have H' := am H
 clear H
 go_enter Tryd.func39, Tryd.ntmps39
 go_wp2_with (first | ((with_reducible refine gate_dst (N := 6) rfl ?_); refine Kd.R_lit k25 _ 25 ?hg (N := 6) ?hd (xs := ([] : List (S25))) (inner := []) (ok := fun _ => True) (okp := fun _ => True) ?hr ?hp (fun _ hk => hk) trivial (Below.refl _ _) (Nat.le_refl _) (by simp) ?_; (case hd => rfl); (case hg => rfl); (case hr => first | (go_simp; done) | (go_simp; rfl)); (case hp => exact (Reps.none _ _)); intro v129 w2 ho3 hb hg_ hnew_; clear hg_ hnew_; (first | rw [← Ny128.out] at ho3 | (simp only [Int.reduceToNat] at ho3; rw [← Ny128.out] at ho3)); have n0_ := am (Kd.R_lower ho3 (below_size bl)); have n1_ := am (below_step bl hb); clear HB; have HO130 := n0_; have HB := n1_; clear n0_ n1_; clear hb ho3))
 go_loopg [3, 4] k (fun kq v3 v4 w' => ∃ (x3_1 : List (S25)) (x4_1 : Int), v4 = .int .i64 x4_1 ∧ Aside0 (epitometop_row.l0 kq a0 x3_1 x4_1 = some r) ∧ Aside0 (kq ≤ k) ∧ Aside0 (Kd.R k25 25 w' w.heap.size (fun _ => True) v3 x3_1) ∧ Aside0 (Below w.heap.size w w'))
 case atStart => exact ⟨(y128), (0), pj, H', ⟨Nat.le_refl _⟩, ⟨by refine kR ?_; exact HO130.out⟩, ⟨bl⟩⟩
 case round =>
  clear H'
  try clear p2
  try clear c3
  obtain ⟨x3_1, x4_1, rfl, HA, HK1, HO_3, HB⟩ := hrel
  cases gk with
  | zero => exact absurd HA.out (by simp [epitometop_row.l0])
  | succ k1 =>
   have H := HA.out
   clear HA
   simp only [epitometop_row.l0] at H
   by_cases c4 : (wrap64 (x4_1 + 1)) < (a0.size : Int)
   ·rw [if_pos c4] at H
    have c4b0 : decide ((wrap64 (x4_1 + 1)) < (a0.size : Int)) = true := decide_eq_true c4
    clear c4
    obtain ⟨ji5, hji5⟩ : ∃ j_ : Int, (wrap64 (x4_1 + 1)) = j_ := ⟨_, rfl⟩
    replace H : (if 0 ≤ (ji5) then (if 0 ≤ x4_1 then (if x4_1 < (a0.size : Int) then (if (bt a0 x4_1) = 107 then (if x3_1.length < 4398046511104 then (epitometop_row.l0 k1 a0 (x3_1 ++ [(⟨1, ((bt a0 (ji5)) - 48) % 256, (⟨#[]⟩ : ByteArray)⟩ : S25)]) (wrap64 (x4_1 + 2))) else (none)) else (if (bt a0 x4_1) = 100 then (if x3_1.length < 4398046511104 then (epitometop_row.l0 k1 a0 (x3_1 ++ [(⟨3, ((bt a0 (ji5)) - 48) % 256, (⟨#[]⟩ : ByteArray)⟩ : S25)]) (wrap64 (x4_1 + 2))) else (none)) else (if x4_1 ≤ (ji5) then (if (ji5) ≤ (a0.size : Int) then (if x3_1.length < 4398046511104 then (epitometop_row.l0 k1 a0 (x3_1 ++ [(⟨2, 0, a0.extract (x4_1 : Int).toNat ((ji5) : Int).toNat⟩ : S25)]) (wrap64 (x4_1 + 2))) else (none)) else (none)) else (none)))) else (none)) else (none)) else (none)) = some r := by first | (rw [hji5] at H; exact H) | (simp only [hji5] at H ⊢; exact H)
    (try rw [hji5] at c4b0)
    have hji5w : (IntKind.i64.wrap (x4_1 + 1)) = ji5 := (i64_w _).trans hji5
    by_cases c6 : 0 ≤ (ji5)
    ·rw [if_pos c6] at H
     have c6b0 : decide (0 ≤ (ji5)) = true := decide_eq_true c6
     clear c6
     by_cases c8 : 0 ≤ x4_1
     ·rw [if_pos c8] at H
      have c8b0 : decide (0 ≤ x4_1) = true := decide_eq_true c8
      clear c8
      by_cases c9 : x4_1 < (a0.size : Int)
      ·rw [if_pos c9] at H
       have c9b0 : decide (x4_1 < (a0.size : Int)) = true := decide_eq_true c9
       clear c9
       by_cases c11 : (bt a0 x4_1) = 107
       ·rw [if_pos c11] at H
        have c11b0 : ((bt a0 x4_1) == 107) = true := beq_iff_eq.mpr c11
        have c11b1 : ((bt a0 x4_1) != 107) = false := bne_eq_false_iff_eq.mpr c11
        clear c11
        by_cases c12 : x3_1.length < 4398046511104
        ·rw [if_pos c12] at H
         have LMc12 := am c12
         clear c12
         obtain ⟨y131, hy131⟩ : ∃ y_ : List (S25), y_ = (x3_1 ++ [(⟨1, ((bt a0 (ji5)) - 48) % 256, (⟨#[]⟩ : ByteArray)⟩ : S25)]) := ⟨_, rfl⟩
         replace H : (epitometop_row.l0 k1 a0 y131 (wrap64 (x4_1 + 2))) = some r := by first | (rw [hy131]; with_reducible exact H) | (have H2_ := (Option.bind_some _ _).symm.trans H; rw [hy131]; with_reducible exact H2_) | (have H2_ := (Option.bind_some _ _).symm.trans H; with_reducible exact H2_) | with_reducible exact H | (rw [hy131]; exact H) | exact H
         have Ny131 := am hy131
         clear hy131
         have H' := am H
         clear H
         have p7 : 0 ≤ ((ji5) : Int) := of_decide_eq_true as0
         have q7 : (ji5) < (a0.size : Int) := of_decide_eq_true as0
         have hx7 := bt_at a0 (ji5)
         replace p7 := eq_true p7
         replace q7 := eq_true q7
         have p10 : 0 ≤ (x4_1 : Int) := of_decide_eq_true as0
         have q10 : x4_1 < (a0.size : Int) := of_decide_eq_true as0
         have hx10 := bt_at a0 x4_1
         replace p10 := eq_true p10
         replace q10 := eq_true q10
         go_wp2_with (first | ((with_reducible refine gate_builtin (b := .append) (xs := #[.tmp 34, .tmp 37]) rfl ?_); at_builtin; refine Kd.R_append k25 (w0 := w) w.heap.size rfl (.tmp 34) (.tmp 37) 27 25 (.agg #[(.int .i64 0), (.int .i64 0), (.string ⟨#[]⟩)]) 32 rfl Tryd.underlying27 info25 rfl (by decide) (by omega) u3 x3_1 (⟨1, ((bt a0 (ji5)) - 48) % 256, (⟨#[]⟩ : ByteArray)⟩ : S25) [.int .i64 1, .int .i64 (((bt a0 (ji5)) - 48) % 256), .string (⟨#[]⟩ : ByteArray)] (fun _ => True) (fun _ => False) rfl rfl ?aP (fun _ hk => hk.elim) ?aF ?aO ?aB ?aS ?aL ?_; (case aP => exact k25_mkM _ _ _ (⟨1, ((bt a0 (ji5)) - 48) % 256, (⟨#[]⟩ : ByteArray)⟩ : S25)); (case aB => exact bl); (case aF => exact (fun _ _ => trivial)); (case aO => exact (by refine kR ?_; exact HO_3.out)); (case aS => exact (below_size bl)); (case aL => have := LMc12.out; omega); intro v132 w13 ho hb hg hat; rw [← Ny131.out] at ho; have n0_ := am (hb); have n1_ := am (ho); clear HB; clear HO_3; have HB := n0_; have HO133 := n1_; clear n0_ n1_; clear ho hb hg hat))
         go_roundg k1
         case measure => have := HK1.out; omega
         case rel => exact ⟨(y131), (wrap64 (x4_1 + 2)), pj, H', ⟨by have := HK1.out; omega⟩, ⟨by refine kR ?_; exact HO133.out⟩, ⟨bl⟩⟩
        ·rw [if_neg c12] at H
         exact absurd H (by simp)
       ·rw [if_neg c11] at H
        have c11b0 : ((bt a0 x4_1) == 107) = false := beq_eq_false_iff_ne.mpr c11
        have c11b1 : ((bt a0 x4_1) != 107) = true := bne_iff_ne.mpr c11
        by_cases c14 : (bt a0 x4_1) = 100
        ·rw [if_pos c14] at H
         have c14b0 : ((bt a0 x4_1) == 100) = true := beq_iff_eq.mpr c14
         have c14b1 : ((bt a0 x4_1) != 100) = false := bne_eq_false_iff_eq.mpr c14
         clear c14
         by_cases c15 : x3_1.length < 4398046511104
         ·rw [if_pos c15] at H
          have LMc15 := am c15
          clear c15
          obtain ⟨y134, hy134⟩ : ∃ y_ : List (S25), y_ = (x3_1 ++ [(⟨3, ((bt a0 (ji5)) - 48) % 256, (⟨#[]⟩ : ByteArray)⟩ : S25)]) := ⟨_, rfl⟩
          replace H : (epitometop_row.l0 k1 a0 y134 (wrap64 (x4_1 + 2))) = some r := by first | (rw [hy134]; with_reducible exact H) | (have H2_ := (Option.bind_some _ _).symm.trans H; rw [hy134]; with_reducible exact H2_) | (have H2_ := (Option.bind_some _ _).symm.trans H; with_reducible exact H2_) | with_reducible exact H | (rw [hy134]; exact H) | exact H
          have Ny134 := am hy134
          clear hy134
          have H' := am H
          clear H
          have p7 : 0 ≤ ((ji5) : Int) := of_decide_eq_true as0
          have q7 : (ji5) < (a0.size : Int) := of_decide_eq_true as0
          have hx7 := bt_at a0 (ji5)
          replace p7 := eq_true p7
          replace q7 := eq_true q7
          have p10 : 0 ≤ (x4_1 : Int) := of_decide_eq_true as0
          have q10 : x4_1 < (a0.size : Int) := of_decide_eq_true as0
          have hx10 := bt_at a0 x4_1
          replace p10 := eq_true p10
          replace q10 := eq_true q10
          go_wp2_with (first | ((with_reducible refine gate_builtin (b := .append) (xs := #[.tmp 41, .tmp 44]) rfl ?_); at_builtin; refine Kd.R_append k25 (w0 := w) w.heap.size rfl (.tmp 41) (.tmp 44) 27 25 (.agg #[(.int .i64 0), (.int .i64 0), (.string ⟨#[]⟩)]) 32 rfl Tryd.underlying27 info25 rfl (by decide) (by omega) u3 x3_1 (⟨3, ((bt a0 (ji5)) - 48) % 256, (⟨#[]⟩ : ByteArray)⟩ : S25) [.int .i64 3, .int .i64 (((bt a0 (ji5)) - 48) % 256), .string (⟨#[]⟩ : ByteArray)] (fun _ => True) (fun _ => False) rfl rfl ?aP (fun _ hk => hk.elim) ?aF ?aO ?aB ?aS ?aL ?_; (case aP => exact k25_mkM _ _ _ (⟨3, ((bt a0 (ji5)) - 48) % 256, (⟨#[]⟩ : ByteArray)⟩ : S25)); (case aB => exact bl); (case aF => exact (fun _ _ => trivial)); (case aO => exact (by refine kR ?_; exact HO_3.out)); (case aS => exact (below_size bl)); (case aL => have := LMc15.out; omega); intro v135 w16 ho hb hg hat; rw [← Ny134.out] at ho; have n0_ := am (hb); have n1_ := am (ho); clear HB; clear HO_3; have HB := n0_; have HO136 := n1_; clear n0_ n1_; clear ho hb hg hat))
          go_roundg k1
          case measure => have := HK1.out; omega
          case rel => exact ⟨(y134), (wrap64 (x4_1 + 2)), pj, H', ⟨by have := HK1.out; omega⟩, ⟨by refine kR ?_; exact HO136.out⟩, ⟨bl⟩⟩
         ·rw [if_neg c15] at H
          exact absurd H (by simp)
        ·rw [if_neg c14] at H
         have c14b0 : ((bt a0 x4_1) == 100) = false := beq_eq_false_iff_ne.mpr c14
         have c14b1 : ((bt a0 x4_1) != 100) = true := bne_iff_ne.mpr c14
         have c17b0 := eq_true (of_decide_eq_true as0 : 0 ≤ x4_1)
         by_cases c18 : x4_1 ≤ (ji5)
         ·rw [if_pos c18] at H
          have c18b0 := eq_true c18
          have c18b1 : decide (x4_1 ≤ (ji5)) = true := decide_eq_true c18
          clear c18
          by_cases c19 : (ji5) ≤ (a0.size : Int)
          ·rw [if_pos c19] at H
           have c19b0 := eq_true c19
           have c19b1 : decide ((ji5) ≤ (a0.size : Int)) = true := decide_eq_true c19
           clear c19
           by_cases c20 : x3_1.length < 4398046511104
           ·rw [if_pos c20] at H
            have LMc20 := am c20
            clear c20
            obtain ⟨y137, hy137⟩ : ∃ y_ : List (S25), y_ = (x3_1 ++ [(⟨2, 0, a0.extract (x4_1 : Int).toNat ((ji5) : Int).toNat⟩ : S25)]) := ⟨_, rfl⟩
            replace H : (epitometop_row.l0 k1 a0 y137 (wrap64 (x4_1 + 2))) = some r := by first | (rw [hy137]; with_reducible exact H) | (have H2_ := (Option.bind_some _ _).symm.trans H; rw [hy137]; with_reducible exact H2_) | (have H2_ := (Option.bind_some _ _).symm.trans H; with_reducible exact H2_) | with_reducible exact H | (rw [hy137]; exact H) | exact H
            have Ny137 := am hy137
            clear hy137
            have H' := am H
            clear H
            have p7 : 0 ≤ ((ji5) : Int) := of_decide_eq_true as0
            have q7 : (ji5) < (a0.size : Int) := of_decide_eq_true as0
            have hx7 := bt_at a0 (ji5)
            replace p7 := eq_true p7
            replace q7 := eq_true q7
            have p10 : 0 ≤ (x4_1 : Int) := of_decide_eq_true as0
            have q10 : x4_1 < (a0.size : Int) := of_decide_eq_true as0
            have hx10 := bt_at a0 x4_1
            replace p10 := eq_true p10
            replace q10 := eq_true q10
            go_wp2_with (first | ((with_reducible refine gate_builtin (b := .append) (xs := #[.tmp 23, .tmp 30]) rfl ?_); at_builtin; refine Kd.R_append k25 (w0 := w) w.heap.size rfl (.tmp 23) (.tmp 30) 27 25 (.agg #[(.int .i64 0), (.int .i64 0), (.string ⟨#[]⟩)]) 32 rfl Tryd.underlying27 info25 rfl (by decide) (by omega) u3 x3_1 (⟨2, 0, a0.extract (x4_1 : Int).toNat ((ji5) : Int).toNat⟩ : S25) [.int .i64 2, .int .i64 0, .string (a0.extract (x4_1 : Int).toNat ((ji5) : Int).toNat)] (fun _ => True) (fun _ => False) rfl rfl ?aP (fun _ hk => hk.elim) ?aF ?aO ?aB ?aS ?aL ?_; (case aP => exact k25_mkM _ _ _ (⟨2, 0, a0.extract (x4_1 : Int).toNat ((ji5) : Int).toNat⟩ : S25)); (case aB => exact bl); (case aF => exact (fun _ _ => trivial)); (case aO => exact (by refine kR ?_; exact HO_3.out)); (case aS => exact (below_size bl)); (case aL => have := LMc20.out; omega); intro v138 w21 ho hb hg hat; rw [← Ny137.out] at ho; have n0_ := am (hb); have n1_ := am (ho); clear HB; clear HO_3; have HB := n0_; have HO139 := n1_; clear n0_ n1_; clear ho hb hg hat))
            go_roundg k1
            case measure => have := HK1.out; omega
            case rel => exact ⟨(y137), (wrap64 (x4_1 + 2)), pj, H', ⟨by have := HK1.out; omega⟩, ⟨by refine kR ?_; exact HO139.out⟩, ⟨bl⟩⟩
           ·rw [if_neg c20] at H
            exact absurd H (by simp)
          ·rw [if_neg c19] at H
           exact absurd H (by simp)
         ·rw [if_neg c18] at H
          exact absurd H (by simp)
      ·rw [if_neg c9] at H
       exact absurd H (by simp)
     ·rw [if_neg c8] at H
      exact absurd H (by simp)
    ·rw [if_neg c6] at H
     exact absurd H (by simp)
   ·rw [if_neg c4] at H
    have c4b0 : decide ((wrap64 (x4_1 + 1)) < (a0.size : Int)) = false := decide_eq_false c4
    clear c4
    obtain rfl := Option.some.inj H
    simp only [Option.some.injEq, Prod.mk.injEq] at H
    obtain ⟨rfl⟩ := H
    go_wp2
    go_ret
    exact ⟨_, by first | rfl | (simp [errW_none, errW_some] <;> rfl) | (simp [*, errW_none, errW_some] <;> rfl), by refine kR ?_; exact HO_3.out, bl⟩
end Go.Proofs.YtegjegihcebimaaDoor.P
end
