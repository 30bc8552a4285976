/- Part 19 of the proof of topLogs_holds: out of the texts that this session's programs wrote, what the theorem reaches. -/
import Derived.Deep.Slices
import Derived.Deep.Strs
import Derived.KernelRfl
import Derived.Lib.SmallJoins
import Derived.OpenShut
import Derived.ProofKit
import Derived.Test.YtegjegihcebimaaDoorZ15
import Derived.Test.YtegjegihcebimaaDoorZ18
import Derived.Test.YtegjegihcebimaaDoorZ2
section
namespace Go.Proofs.YtegjegihcebimaaDoor.Pure
open Go.RowKit Go.Proofs.YtegjegihcebimaaDoor.P Go.Proofs.YtegjegihcebimaaDoorW.PrintWords Go.Proofs.YtegjegihcebimaaDoorW.PrintLast Go.Proofs.YtegjegihcebimaaDoorW.PrintMore
set_option linter.unusedVariables false
set_option linter.unusedSimpArgs false
set_option maxRecDepth 100000 in
theorem shown_logs (k : Nat) (hk : 60 ≤ k) : epitometop_shown.f k = some true := up epitometop_shown.mono hk (by decide +kernel)
theorem few_logs (l : List Int) (h : ∀ x ∈ l, i64ok x) : ∃ r, epitometop_few.f l = some r ∧ r.length ≤ 30 ∧ ∀ x ∈ r, i64ok x := by
 have m := mn_le (l.length : Int) 30
 have h0 : 0 ≤ mn (l.length : Int) 30 := by rcases m.2.2 with h | h <;> omega
 refine ⟨l.take (mn (l.length : Int) 30).toNat, ?_, ?_, fun x hx => h x (List.mem_of_mem_take hx)⟩
 ·unfold epitometop_few.f
  rw [if_pos h0, if_pos m.1]
 ·rw [List.length_take]; omega
theorem txs_at {u : List Int} {S : List (List S25)} (h : ch u.length S) (q : Nat) (hq : q ≤ S.length) : (txs u (S.take q)).length = sz u.length S q := by
 have l := txs_len (S.take q) u (ch_take h q)
 rw [List.length_take, sz_take S _ _ q (by omega) (by omega), show min q S.length = q by omega] at l
 exact l
theorem fit_logs {u : List Int} {S : List (List S25)} (L : LogOk u (revs S.length) S) (hb : u.length + tot S ≤ 300000) (o : OpV) (ho : ∀ z ∈ o.set, i64ok z) :
  ∃ kd q0 q st xx t nt, FitOk 7000000 (enc u) (revs S.length) S o kd q0 q st (q : Int) xx t nt ∧ q ≤ S.length ∧ W xx ∧ ins (ats xx) = sz u.length S q ∧ (ats xx).length ≤ sz u.length S q + 72 ∧ xx.length ≤ 13 ∧ st.length ≤ 30 ∧ ∀ z ∈ st, i64ok z := by
 have hsl := L.sl
 obtain ⟨st, e1, s1, s2⟩ := few_logs o.set ho
 have rl := revs_len S.length
 have hN : (0 : Int) < ((revs S.length).length : Int) := by omega
 have t1 := Int.lt_tmod_of_pos o.rev hN
 have t2 := Int.tmod_lt_of_pos o.rev hN
 obtain ⟨s, es⟩ : ∃ s, s = wrap64 (Int.tmod o.rev ((revs S.length).length : Int) + ((revs S.length).length : Int)) := ⟨_, rfl⟩
 have hs : 0 ≤ s ∧ s < 2 * ((revs S.length).length : Int) := by
  rw [es, w64 (by omega) (by omega)]; omega
 obtain ⟨q0, e0⟩ : ∃ q0, Int.tmod s ((revs S.length).length : Int) = q0 := ⟨_, rfl⟩
 have h0 : 0 ≤ q0 ∧ q0 < ((revs S.length).length : Int) := by
  rw [← e0]; exact ⟨Int.tmod_nonneg _ hs.1, Int.tmod_lt_of_pos _ hN⟩
 obtain ⟨kd, ekd⟩ : ∃ kd, Int.tmod (wrap64 (Int.tmod o.kind 5 + 5)) 5 = kd := ⟨_, rfl⟩
 obtain ⟨q, hq, hql⟩ : ∃ q : Nat, (q : Int) = (if kd = 2 then ((revs S.length).length : Int) - 1 else q0) ∧ q < (revs S.length).length := by
  by_cases c : kd = 2
  ·rw [if_pos c]; exact ⟨S.length, by omega, by omega⟩
  ·rw [if_neg c]; exact ⟨q0.toNat, by omega, by omega⟩
 obtain ⟨a1, a2⟩ := at_A L q (by omega) 7000000 (by decide)
 have tl := txs_at L.hs.1 q (by omega)
 have sl := sz_le S u.length q (by omega)
 have ez := enc_sz (t := txs u (S.take q)) (by omega)
 obtain ⟨xx, x1, x2, x3, x4, x5⟩ := fit_A o.l (txs u (S.take q)).length (by omega) 7000000 (by decide)
 rw [tl] at x3 x4
 refine ⟨kd, q0, q, st, xx, enc (txs u (S.take q)), ((txs u (S.take q)).length : Int), ⟨ekd, e1, by rw [← es]; exact e0, hq, hql, by rw [rdI_at _ q hql, revs_at], a1, count_big a2 (by omega), x1, by omega, by omega, fun x hx => ?_⟩, by omega, x2, x3, x4, x5, s1, s2⟩
 have := (ch_mem L.hs.1 x hx).2
 have := alt_len (L.hs.2 x hx)
 omega
def lst (u : List Int) (S : List (List S25)) (a : Nat) (ys : List Int) (os : List (List S25)) : LS :=
 ⟨enc (txs u (S.take a)), (a : Int) :: ys, os, ((txs u (S.take a)).length : Int) :: szs os, revs S.length, S, (u.length : Int) :: szs S⟩
structure Inv (u : List Int) (j : Nat) (S : List (List S25)) (a : Nat) (ys : List Int) (os : List (List S25)) : Prop where
 L : LogOk u (revs S.length) S
 ha : a ≤ S.length
 hc : CP u.length (revs S.length) S a ys os
 Ls : LogOk (txs u (S.take a)) ((a : Int) :: ys) os
 bd : u.length + tot S + 72 ≤ 92 * 2 ^ j
 sj : S.length ≤ j
theorem revs_get (m t : Nat) (h : t ≤ m) : (revs m)[t]? = some (t : Int) := by
 have hl : t < (revs m).length := by rw [revs_len]; omega
 rw [List.getElem?_eq_getElem hl, revs_at]
theorem revs_inj {m t : Nat} {v : Int} (h : (revs m)[t]? = some v) : v = (t : Int) := by
 obtain ⟨h1, h2⟩ := List.getElem?_eq_some_iff.1 h
 rw [revs_at] at h2
 exact h2.symm
theorem pow_le {j : Nat} (h : j < 12) : 92 * 2 ^ j ≤ 188416 ∧ 92 * 2 ^ (j + 1) = 2 * (92 * 2 ^ j) := by
 have h1 : 2 ^ j ≤ 2 ^ 11 := Nat.pow_le_pow_right (by decide) (by omega)
 have h2 : (2 : Nat) ^ 11 = 2048 := by decide
 rw [Nat.pow_succ]
 omega
theorem round_ok {u : List Int} {j : Nat} (hj : j < 12) {S : List (List S25)} {a : Nat} {ys : List Int} {os : List (List S25)} (I : Inv u j S a ys os) (o : OpV) (ho : ∀ z ∈ o.set, i64ok z) :
  ∃ S' a' ys' os', RoundOk 7000000 (enc u) (lst u S a ys os) o (lst u S' a' ys' os') ∧ Inv u (j + 1) S' a' ys' os' := by
 have hp := pow_le hj
 have hbd := I.bd
 have hsj := I.sj
 have L := I.L
 have Ls := I.Ls
 have hha := I.ha
 obtain ⟨kd, q0, q, st, xx, t, nt, hf, hq, wx, ix, lx, nx, s1, s2⟩ := fit_logs L (by omega) o ho
 have hn := txs_at L.hs.1 a hha
 have hra := revs_get S.length a hha
 by_cases ck : kd = 3 ∨ kd = 1
 ·
  obtain ⟨b, hb, ps, -, -, -, e3, hr, hcp⟩ := compact_A Ls st o.floor s2 (by omega) 7000000 (by decide)
  obtain ⟨Lp, -⟩ := CP_log Ls hb hcp hr
  have hlb : b ≤ os.length := by have := Ls.ln; omega
  obtain ⟨t1, p1, p2, p3, p4, p5, p6⟩ := CP_at L.hs ys os a (a : Int) (txs u (S.take a)) b hha hra I.hc hn hlb
  obtain ⟨t2, r1, r2, r3, r4, r5, -, -⟩ := CP_to L.hs ys os a (a : Int) b hha hra I.hc hlb
  have hRb : ((a : Int) :: ys)[b]? = some (((a : Int) :: ys)[b]) := List.getElem?_eq_getElem hb
  have v1 : ((a : Int) :: ys)[b] = (t1 : Int) := revs_inj (by rw [← p3, hRb])
  have v2 : ((a : Int) :: ys)[b] = (t2 : Int) := revs_inj (by rw [← r3, hRb])
  have et : t1 = t2 := by omega
  subst et
  rw [hn] at hcp
  have hct := CP_trans L.hs _ ps ys os a (a : Int) hha hra I.hc b hlb hcp t1 r1 r2 r4 r3 r5
  have hpt : S.take a ++ (S.take t1).drop a = S.take t1 := by
   have : S.take a = (S.take t1).take a := by rw [List.take_take]; congr 1; omega
   rw [this, List.take_append_drop]
  rw [p5, ← txs_app, hpt, v1] at e3 Lp
  refine ⟨S, t1, _, ps, .comp kd q0 q st (q : Int) xx t nt hf ?_ e3 ?_ (by show 0 < _ + 1; omega) rfl rfl rfl, ⟨L, p2, hct, Lp, by omega, by omega⟩⟩
  ·rcases ck with e | e
   ·exact .inl (beq_iff_eq.2 e)
   ·exact .inr ⟨beq_eq_false_iff_ne.2 (by omega), beq_iff_eq.2 e⟩
  ·have hzz : chain_Sizes.f 7000000 (enc (txs u (S.take t1))) ((t1 : Int) :: (((a : Int) :: ys).drop (b + 1)).filter (keep_Of.p (((a : Int) :: ys).drop b) st)) ps = some (((txs u (S.take t1)).length : Int) :: szs ps, 0) := by
    unfold chain_Sizes.f
    rw [sizes_A Lp 7000000 (by decide)]
    rfl
   exact hzz
 ·have c3 : (kd == 3) = false := beq_eq_false_iff_ne.2 (by omega)
  have c1 : (kd == 1) = false := beq_eq_false_iff_ne.2 (by omega)
  have sq := sz_le S u.length q hq
  have hsx := L.sl
  by_cases cm : (q : Int) ∈ ((a : Int) :: ys)
  ·
   obtain ⟨i, hi, ei⟩ := List.getElem_of_mem cm
   have hlo := Ls.ln
   have hio : i ≤ os.length := by omega
   obtain ⟨t2, r1, r2, r3, r4, r5, -, -⟩ := CP_to L.hs ys os a (a : Int) i hha hra I.hc hio
   have v2 : (q : Int) = (t2 : Int) := revs_inj (by rw [← r3, List.getElem?_eq_getElem hi, ei])
   have et : t2 = q := by omega
   subst et
   obtain ⟨k1, k2, k3⟩ := CP_hs L.hs _ _ t2 hq r4
   have f1 := seek_at Ls.ri (by have := Ls.sl; omega) i hi
   rw [ei] at f1
   have hlast := CP_last (by rw [revs_len]) ys os a (a : Int) hha hra L.hs I.hc
   have hlo2 : os.length < ((a : Int) :: ys).length := by omega
   rw [revs_get _ _ (Nat.le_refl _), List.getElem?_eq_getElem hlo2] at hlast
   obtain ⟨y1, g1, w1, al1, ea1, in1, ln1⟩ := sub_A Ls wx hio (by rw [hn, ix, r5]) (by omega) (by omega) (S.length : Int) ⟨hlo2, Option.some.inj hlast⟩ (by omega) (t2 : Int) (t2 : Int) f1
   have hql : t2 < (revs S.length).length := by rw [revs_len]; omega
   have f2 := seek_at L.ri (by rw [revs_len]; omega) t2 hql
   rw [revs_at] at f2
   have hSl : S.length < (revs S.length).length := by rw [revs_len]; omega
   obtain ⟨y2, g2, w2, al2, ea2, in2, ln2⟩ := sub_A L wx hq ix (by omega) (by omega) (S.length : Int) ⟨hSl, revs_at _ _ hSl⟩ (by omega) (t2 : Int) (t2 : Int) f2
   have eo := CP_ovrs L.hs _ _ t2 (ats xx) hq r4 ix
   have ey : y1 = y2 := alt_uniq w1 w2 al1 al2 (by rw [ea1, ea2, eo])
   subst ey
   have hys : ∀ z ∈ ((a : Int) :: ys), z < (S.length : Int) + 1 := by
    intro z hz
    obtain ⟨p, hp1, rfl⟩ := List.getElem_of_mem hz
    obtain ⟨t3, -, z2, z3, -⟩ := CP_to L.hs ys os a (a : Int) p hha hra I.hc (by omega)
    have : ((a : Int) :: ys)[p] = (t3 : Int) := revs_inj (by rw [← z3, List.getElem?_eq_getElem hp1])
    omega
   have hrv : ∀ z ∈ revs S.length, z < (S.length : Int) + 1 := by
    intro z hz
    obtain ⟨p, hp1, rfl⟩ := List.getElem_of_mem hz
    rw [revs_len] at hp1
    rw [revs_at]; omega
   have eR : revs S.length ++ [(S.length : Int) + 1] = revs (S ++ [y1]).length := by
    rw [List.length_append, List.length_singleton, revs_succ]; rfl
   have eT : (S ++ [y1]).take a = S.take a := List.take_append_of_le_length hha
   have L' := log_snoc L w1 al1 in2 hrv (by omega) (by omega) (by omega) (by omega)
   have kk := CP_hs L.hs _ _ a hha I.hc
   have sa := sz_le S u.length a hha
   obtain ⟨t9, u1, u2, -⟩ := CP_to L.hs ys os a (a : Int) os.length hha hra I.hc (Nat.le_refl _)
   have Ls' := log_snoc Ls w1 al1 in1 hys (by omega) (by omega) (by rw [hn]; omega) (by omega)
   have hc' := CP_snoc (v := (S.length : Int) + 1) (by rw [revs_len]) w1 al1 in2 (by omega) ys os a I.hc
   rw [eR] at L' hc'
   refine ⟨S ++ [y1], a, ys ++ [(S.length : Int) + 1], os ++ [y1], .sub kd q0 t2 st (t2 : Int) xx t nt hf c3 c1 i _ _ _ _ y1 _ g1 t2 _ _ _ _ y1 _ g2 ?_, ⟨L', by rw [List.length_append]; omega, hc', by rw [eT]; exact Ls', ?_, by rw [List.length_append, List.length_singleton]; omega⟩⟩
   ·unfold lst
    rw [eT, ← eR, szs_snoc, szs_snoc]
    rfl
   ·rw [tot_snoc]; omega
  ·
   obtain ⟨i, near, er, e1, e2⟩ := seek_no (R := (a : Int) :: ys) (by simp) (by have := Ls.ln; have := Ls.sl; omega) cm
   exact ⟨S, a, ys, os, .no kd q0 q st (q : Int) xx t nt hf c3 c1 (may_A wx (by omega) (by omega) _ (by omega)) i near er e1 e2 rfl, ⟨L, hha, I.hc, Ls, by omega, by omega⟩⟩
theorem rounds_ok {u : List Int} (l : List OpV) (hl : ∀ o ∈ l, ∀ z ∈ o.set, i64ok z) (x0 : LS) (h0 : ∃ S a ys os, x0 = lst u S a ys os ∧ Inv u 0 S a ys os) : ∀ m, m ≤ l.length → m ≤ 12 → ∃ st : Nat → LS, st 0 = x0 ∧ (∀ j (h : j < l.length), j < m → RoundOk 7000000 (enc u) (st j) l[j] (st (j + 1))) ∧ ∃ S a ys os, st m = lst u S a ys os ∧ Inv u m S a ys os
 | 0, _, _ => ⟨fun _ => x0, rfl, fun j h hj => by omega, h0⟩
 | m + 1, h1, h2 => by
  obtain ⟨st, s0, s1, S, a, ys, os, e, I⟩ := rounds_ok l hl x0 h0 m (by omega) (by omega)
  obtain ⟨S', a', ys', os', r, I'⟩ := round_ok (by omega) I l[m] (hl _ (List.getElem_mem _))
  refine ⟨fun i => if i ≤ m then st i else lst u S' a' ys' os', ?_, fun j h hj => ?_, S', a', ys', os', ?_, I'⟩
  ·show (if 0 ≤ m then st 0 else _) = x0
   rw [if_pos (Nat.zero_le _), s0]
  ·show RoundOk _ _ (if j ≤ m then st j else _) _ (if j + 1 ≤ m then st (j + 1) else _)
   rw [if_pos (by omega)]
   by_cases c : j = m
   ·subst c
    rw [if_neg (by omega), e]
    exact r
   ·rw [if_pos (by omega)]
    exact s1 j h (by omega)
  ·show (if m + 1 ≤ m then st (m + 1) else _) = _
   rw [if_neg (by omega)]
theorem end_ok {u : List Int} {m : Nat} (hm : m ≤ 12) {S : List (List S25)} {a : Nat} {ys : List Int} {os : List (List S25)} (I : Inv u m S a ys os) :
  compact_Of.f 7000000 (enc u) (revs S.length) S ((a : Int) :: ys) (a : Int) = some (enc (txs u (S.take a)), (a : Int) :: ys, os, 0) := by
 have L := I.L
 have Ls := I.Ls
 have hha := I.ha
 have hlo := Ls.ln
 have hls := Ls.sl
 have rl := revs_len S.length
 have hra := revs_get S.length a hha
 obtain ⟨t9, u1, u2, -⟩ := CP_to L.hs ys os a (a : Int) os.length hha hra I.hc (Nat.le_refl _)
 have hi64 : ∀ x ∈ ((a : Int) :: ys), i64ok x := fun x hx => by have := Ls.ri.2 x hx; unfold i64ok; omega
 obtain ⟨a2, ha2, ps, -, f1, f2, e3, hr, hcp⟩ := compact_A L ((a : Int) :: ys) (a : Int) hi64 (by have := I.sj; omega) 7000000 (by decide)
 have ea : a2 = a := by
  have g1 : a2 ≤ a := by
   rcases f1 with f1 | f1
   ·omega
   ·rw [revs_at] at f1; omega
  by_cases c : a2 + 1 < (revs S.length).length
  ·have := f2 c
   rw [revs_at] at this; omega
  ·omega
 subst ea
 have ef : ((revs S.length).drop (a2 + 1)).filter (keep_Of.p ((revs S.length).drop a2) ((a2 : Int) :: ys)) = ys := by
  have hp1 : ((revs S.length).drop (a2 + 1)).Pairwise (· < ·) := L.ri.1.sublist (List.drop_sublist _ _)
  refine sorted_ext (hp1.sublist List.filter_sublist) (List.pairwise_cons.1 Ls.ri.1).2 fun x => ?_
  have e0 : rd ((revs S.length).drop a2) 0 = (a2 : Int) := by rw [List.drop_eq_getElem_cons ha2]; show (revs S.length)[a2] = _; rw [revs_at]
  have hd : ((revs S.length).drop a2).length = S.length - a2 + 1 := by rw [List.length_drop]; omega
  have e1 : rd ((revs S.length).drop a2) ((((revs S.length).drop a2).length : Int) - 1) = (S.length : Int) := by
   rw [hd, show ((S.length - a2 + 1 : Nat) : Int) - 1 = ((S.length - a2 : Nat) : Int) by omega, rdI_at _ _ (by omega), List.getElem_drop, revs_at]
   omega
  have hlast := CP_last (by rw [revs_len]) ys os a2 (a2 : Int) hha hra L.hs I.hc
  rw [revs_get _ _ (Nat.le_refl _)] at hlast
  have hmem : ∀ x, x ∈ (revs S.length).drop (a2 + 1) ↔ ∃ t : Nat, a2 < t ∧ t ≤ S.length ∧ x = (t : Int) := by
   intro x
   constructor
   ·intro hx
    obtain ⟨p, hp, rfl⟩ := List.getElem_of_mem hx
    rw [List.length_drop] at hp
    rw [List.getElem_drop, revs_at]
    exact ⟨_, by omega, by omega, rfl⟩
   ·rintro ⟨t, t1, t2, rfl⟩
    rw [List.mem_iff_getElem?]
    refine ⟨t - (a2 + 1), ?_⟩
    rw [List.getElem?_drop, show a2 + 1 + (t - (a2 + 1)) = t by omega]
    exact revs_get _ _ t2
  rw [List.mem_filter, hmem]
  unfold keep_Of.p
  rw [e0, e1]
  constructor
  ·rintro ⟨⟨t, t1, t2, rfl⟩, hk⟩
   simp only [Bool.or_eq_true, decide_eq_true_eq] at hk
   rcases hk with (h | h) | h
   ·omega
   ·have hm := List.mem_iff_getElem?.2 ⟨_, hlast⟩
    rw [← h] at hm
    rcases List.mem_cons.1 hm with e | hm
    ·omega
    ·exact hm
   ·rcases List.mem_cons.1 h with e | hm
    ·omega
    ·exact hm
  ·intro hx
   obtain ⟨t, t1, t2⟩ := CP_mem ys os a2 I.hc x hx
   have hv := revs_inj t2
   have hl := (List.getElem?_eq_some_iff.1 t2).1
   refine ⟨⟨t, t1, by omega, hv⟩, ?_⟩
   simp only [Bool.or_eq_true, decide_eq_true_eq]
   exact .inr (List.mem_cons_of_mem _ hx)
 rw [ef] at e3 hcp
 rw [revs_at] at e3
 rw [CP_uniq L.ri ys os ps a2 I.hc hcp]
 exact e3
theorem logs_ok (a0 : ByteArray) (l : List OpV) (hl : ∀ o ∈ l, ∀ z ∈ o.set, i64ok z) : ∃ u n st m b R os, LogsOk 7000000 a0 l u n st m b R os := by
 have hm := mn_le (a0.size : Int) 20
 obtain ⟨u, e1, hu, hul⟩ := fit_small (a0.extract 0 (mn (a0.size : Int) 20).toNat) (by rw [ByteArray.size_extract]; omega) 7000000 (by decide)
 have hs : u.length ≤ 20 := by rw [hul, ByteArray.size_extract]; omega
 have hz := enc_sz (t := u) (by omega)
 have L0 : LogOk u (revs 0) [] := ⟨hu, ⟨trivial, fun _ h => by cases h⟩, revs_rise 0 (by decide), rfl, by simp [tot]; omega, by decide⟩
 have I0 : Inv u 0 [] 0 [] [] := ⟨L0, Nat.le_refl _, rfl, L0, by simp [tot]; omega, Nat.le_refl _⟩
 obtain ⟨st, s0, s1, S, a, ys, os, e, I⟩ := rounds_ok l hl ⟨enc u, [0], [], [(u.length : Int)], [0], [], [(u.length : Int)]⟩ ⟨[], 0, [], [], rfl, I0⟩ (min l.length 12) (Nat.min_le_left _ _) (Nat.min_le_right _ _)
 have hLn := I.L.sl
 have hlo := I.Ls.ln
 have hls := I.Ls.sl
 have hlt := I.Ls.tt
 have hLt := I.L.tt
 have x1 : ∀ x ∈ os, x.length ≤ 400000 := fun x hx => by
  have := (ch_mem I.Ls.hs.1 x hx).2
  have := alt_len (I.Ls.hs.2 x hx)
  omega
 have x2 : ∀ x ∈ S, x.length ≤ 400000 := fun x hx => by
  have := (ch_mem I.L.hs.1 x hx).2
  have := alt_len (I.L.hs.2 x hx)
  omega
 refine ⟨enc u, (u.length : Int), st, min l.length 12, enc (txs u (S.take a)), (a : Int) :: ys, os, ⟨shown_logs _ (by decide), e1, count_big hu (by omega), by omega, by omega, (by unfold chain_Sizes.f; rw [show ([0] : List Int) = revs 0 from rfl, sizes_A L0 7000000 (by decide)]; rfl), s0, Nat.min_le_left _ _, Nat.min_le_right _ _, by omega, s1, ?_, ?_, ?_, ?_, ?_, ?_, ?_, ?_, ?_⟩⟩
 ·rw [e]; show 0 < ys.length + 1; omega
 ·rw [e]; show ((a : Int) :: ys).length < _; omega
 ·rw [e]; show os.length < _; omega
 ·rw [e]; exact fun x hx => by have := x1 x hx; omega
 ·rw [e]; show (revs S.length).length < _; rw [revs_len]; omega
 ·rw [e]; show S.length < _; omega
 ·rw [e]; exact fun x hx => by have := x2 x hx; omega
 ·rw [e]; exact end_ok (Nat.min_le_right _ _) I
 ·rw [e]; exact same16_A (enc (txs u (S.take a))) ((a : Int) :: ys) os (by omega) (by omega) (fun x hx => by have := x1 x hx; omega) _ (by decide)
end Go.Proofs.YtegjegihcebimaaDoor.Pure
end
section
namespace Go.Proofs.YtegjegihcebimaaDoor.Pure
open Go.Deep Go.ChangeShapes Go.WideShapes Go.ChangeAt Go.RowKit Go.Proofs.YtegjegihcebimaaDoor.P Go.Proofs.YtegjegihcebimaaDoorW.PrintWords Go.Proofs.YtegjegihcebimaaDoorW.PrintLast Go.Proofs.YtegjegihcebimaaDoorW.PrintMore
set_option linter.unusedVariables false
theorem choose_list {α : Type} {p : Nat → α → Prop} : ∀ (n : Nat), (∀ i, i < n → ∃ y, p i y) → ∃ l : List α, l.length = n ∧ ∀ i y, l[i]? = some y → p i y
 | 0, _ => ⟨[], rfl, fun i y h => by simp at h⟩
 | n + 1, h => by
  obtain ⟨l, h1, h2⟩ := choose_list n fun i hi => h i (by omega)
  obtain ⟨y, hy⟩ := h n (by omega)
  refine ⟨l ++ [y], by simp [h1], fun i z hz => ?_⟩
  by_cases c : i < l.length
  ·rw [List.getElem?_append_left c] at hz; exact h2 i z hz
  ·rw [List.getElem?_append_right (by omega)] at hz
   have hi : i - l.length = 0 := by
    have := (List.getElem?_eq_some_iff.mp hz).1
    simp at this; omega
   rw [hi] at hz
   have : y = z := by simpa using hz
   subst this
   have : i = n := by omega
   subst this
   exact hy
section
variable {H : Type} {enc : TypeId × Value → H} {P : Program} {w : World} {base : Nat} {sp : Nat → Bool} {held : Bool}
def Opens {α : Type} (enc : TypeId × Value → H) (P : Program) (w : World) (base : Nat) (sp : Nat → Bool) (held : Bool) (d : Kd α) (t : TypeId) (Q : α → Prop) : Prop :=
 ∀ (fuel : Nat) (cs : List Value) (x : DataW H × List MemPlace), DataW.trod enc P w base sp held fuel t cs = some x → ∃ y, d.K w y cs ∧ Q y
theorem opens_int {t : TypeId} {k : IntKind} (ht : P.underlying t = some (.int k)) : Opens enc P w base sp held (Kd.int k) t (fun n => (Lit.int k n).wf = true) := by
 intro fuel cs x h
 obtain ⟨n, rfl, _, hw⟩ := DataW.trod_int ht h
 exact ⟨n, rfl, hw⟩
theorem opens_slice {α : Type} {d : Kd α} {t e e' : TypeId} {Q : α → Prop} (ht : P.underlying t = some (.slice e)) (hc : P.cellsOf e = d.sz) (h : Opens enc P w base sp held d e Q) : Opens enc P w base sp held (Kd.slice e' d) t (fun l => ∀ x ∈ l, Q x) := by
 intro fuel cs x hx
 rcases open_slice ht hx with ⟨rfl, rfl⟩ | ⟨a, len, cap, m, n, D, Pl, rfl, hb, hl, hm, hmm, rfl, hi⟩
 ·exact ⟨[], ⟨none, 0, rfl, Nat.le_refl _, Kd.C_nil d w⟩, fun x h => by cases h⟩
 ·have hlm : len ≤ m := by rw [hmm]; split <;> omega
  obtain ⟨ys, hy1, hy2⟩ := choose_list (p := fun i y => ∃ c, w.cells? base (a.add (i * d.sz)) d.sz = some c ∧ d.K w y c ∧ Q y) len (fun i hlt => by
   obtain ⟨cs', h1, h2⟩ := hi i (by omega)
   rw [hc] at h1
   obtain ⟨y, k1, k2⟩ := h _ _ _ h2
   exact ⟨y, cs', h1, k1, k2⟩)
  have hmax : maxLen ≤ 9223372036854775807 := by decide
  refine ⟨ys, ⟨some a, cap, by rw [hy1], by omega, ⟨rfl, by omega, fun _ => ⟨a, rfl, fun j p hj => ?_⟩⟩⟩, fun x hx => ?_⟩
  ·obtain ⟨c, c1, c2, _⟩ := hy2 j p hj
   obtain ⟨_, hlen, hcell⟩ := World.cells?_some c1
   refine ⟨c, hlen, c2, fun i u hu => ?_⟩
   have hlt := (List.getElem?_eq_some_iff.mp hu).1
   have := hcell i (by omega)
   rw [hu] at this
   have e : a.add (j * d.sz + i) = (a.add (j * d.sz)).add i := (Addr.add_add a (j * d.sz) i).symm
   rw [e]
   exact this
  ·obtain ⟨i, hi, rfl⟩ := List.getElem_of_mem hx
   obtain ⟨_, _, _, hq⟩ := hy2 i _ (List.getElem?_eq_getElem hi)
   exact hq
theorem open_cell_of {α : Type} {d : Kd α} {t e e' : TypeId} {Q : α → Prop} {v : Value} {n : Nat} {y : DataW H × List MemPlace} (ht : P.underlying t = some (.slice e)) (hc : P.cellsOf e = d.sz) (h : Opens enc P w base sp held d e Q) (hd : DataW.trod enc P w base sp held n t [v] = some y) :
  ∃ A c l, v = .slice A l.length c ∧ l.length ≤ c ∧ d.C w A l.length l ∧ ∀ x ∈ l, Q x := by
 obtain ⟨l, ⟨A, c, e1, e2, e3⟩, hq⟩ := opens_slice (e' := e') ht hc h _ _ _ hd
 exact ⟨A, c, l, by simpa using e1, e2, e3, hq⟩
end
set_option maxRecDepth 100000 in
theorem opens_span {H : Type} {enc : TypeId × Value → H} {w : World} {base : Nat} {sp : Nat → Bool} {held : Bool} : Opens enc Tryd.prog w base sp held k25 25 (fun _ => True) := by
 intro fuel cs x h
 obtain ⟨y0, y1, y2, n, _, hl, h0, h1, h2⟩ := trod_struct3 Tryd.underlying25 h
 have hl : cs.length = 3 := hl.trans (by kernel_rfl)
 match cs, hl with
 | [c0, c1, c2], _ =>
  have i1 : Tryd.prog.cellsOf 3 = 1 := by kernel_rfl
  have i2 : Tryd.prog.cellsOf 9 = 1 := by kernel_rfl
  obtain ⟨a, e0, _, _⟩ := DataW.trod_int Tryd.underlying3 h0
  obtain ⟨b, e1, _, _⟩ := DataW.trod_int Tryd.underlying3 h1
  obtain ⟨s, e2, _, _⟩ := DataW.trod_string Tryd.underlying9 h2
  replace e0 : ([c0, c1, c2].drop 0).take (Tryd.prog.cellsOf 3) = _ := e0
  replace e1 : ([c0, c1, c2].drop 1).take (Tryd.prog.cellsOf 3) = _ := e1
  replace e2 : ([c0, c1, c2].drop 2).take (Tryd.prog.cellsOf 9) = _ := e2
  rw [i1] at e0 e1
  rw [i2] at e2
  simp only [List.drop_succ_cons, List.drop_zero, List.take_succ_cons, List.take_zero] at e0 e1 e2
  injection e0 with e0
  injection e1 with e1
  injection e2 with e2
  subst e0 e1 e2
  exact ⟨⟨a, b, s⟩, k25_mk w ⟨a, b, s⟩, trivial⟩
theorem trod_struct6 {H : Type} {enc : TypeId × Value → H} {P : Program} {w : World} {base : Nat} {spare : Nat → Bool} {held : Bool} {t : TypeId} {f0 f1 f2 f3 f4 f5 : Field} {fuel : Nat} {cs : List Value} {x : DataW H × List MemPlace} (ht : P.underlying t = some (.struct #[f0, f1, f2, f3, f4, f5])) (h : DataW.trod enc P w base spare held fuel t cs = some x) :
  ∃ y0 y1 y2 y3 y4 y5 n, cs.length = P.cellsOf t ∧ DataW.trod enc P w base spare held n f0.type ((cs.drop f0.offset).take (P.cellsOf f0.type)) = some y0 ∧ DataW.trod enc P w base spare held n f1.type ((cs.drop f1.offset).take (P.cellsOf f1.type)) = some y1 ∧ DataW.trod enc P w base spare held n f2.type ((cs.drop f2.offset).take (P.cellsOf f2.type)) = some y2 ∧
   DataW.trod enc P w base spare held n f3.type ((cs.drop f3.offset).take (P.cellsOf f3.type)) = some y3 ∧ DataW.trod enc P w base spare held n f4.type ((cs.drop f4.offset).take (P.cellsOf f4.type)) = some y4 ∧ DataW.trod enc P w base spare held n f5.type ((cs.drop f5.offset).take (P.cellsOf f5.type)) = some y5 := by
 obtain ⟨xs, n, _, rfl, hl, hlen, hf⟩ := DataW.trod_struct ht h
 match xs, hlen with
 | [y0, y1, y2, y3, y4, y5], _ => exact ⟨y0, y1, y2, y3, y4, y5, n, hl, by simpa using hf 0 f0 rfl, by simpa using hf 1 f1 rfl, by simpa using hf 2 f2 rfl, by simpa using hf 3 f3 rfl, by simpa using hf 4 f4 rfl, by simpa using hf 5 f5 rfl⟩
set_option maxRecDepth 100000 in
theorem open_op {H : Type} {enc : TypeId × Value → H} {w : World} {base : Nat} {sp : Nat → Bool} {held : Bool} {fuel : Nat} {cs : List Value} {x : DataW H × List MemPlace} (h : DataW.trod enc Tryd.prog w base sp held fuel 79 cs = some x) :
  ∃ (o : OpV) (AL : Option Addr) (cL : Nat) (AS : Option Addr) (cS : Nat), cs = [.int .i64 o.kind, .int .i64 o.rev, .int .i64 o.floor, .int .i64 o.who, .slice AL o.l.length cL, .slice AS o.set.length cS] ∧ o.l.length ≤ cL ∧ Kd.C k25 w AL o.l.length o.l ∧ o.set.length ≤ cS ∧ Kd.C (Kd.int .i64) w AS o.set.length o.set ∧ ∀ z ∈ o.set, (Lit.int .i64 z).wf = true := by
 obtain ⟨y0, y1, y2, y3, y4, y5, n, hl, h0, h1, h2, h3, h4, h5⟩ := trod_struct6 Tryd.underlying79 h
 have hl : cs.length = 6 := hl.trans (by kernel_rfl)
 match cs, hl with
 | [c0, c1, c2, c3, c4, c5], _ =>
  have i1 : Tryd.prog.cellsOf 3 = 1 := by kernel_rfl
  have i2 : Tryd.prog.cellsOf 27 = 1 := by kernel_rfl
  have i3 : Tryd.prog.cellsOf 38 = 1 := by kernel_rfl
  obtain ⟨a, e0, _, _⟩ := DataW.trod_int Tryd.underlying3 h0
  obtain ⟨b, e1, _, _⟩ := DataW.trod_int Tryd.underlying3 h1
  obtain ⟨c, e2, _, _⟩ := DataW.trod_int Tryd.underlying3 h2
  obtain ⟨d, e3, _, _⟩ := DataW.trod_int Tryd.underlying3 h3
  replace e0 : ([c0, c1, c2, c3, c4, c5].drop 0).take (Tryd.prog.cellsOf 3) = _ := e0
  replace e1 : ([c0, c1, c2, c3, c4, c5].drop 1).take (Tryd.prog.cellsOf 3) = _ := e1
  replace e2 : ([c0, c1, c2, c3, c4, c5].drop 2).take (Tryd.prog.cellsOf 3) = _ := e2
  replace e3 : ([c0, c1, c2, c3, c4, c5].drop 3).take (Tryd.prog.cellsOf 3) = _ := e3
  rw [i1] at e0 e1 e2 e3
  simp only [List.drop_succ_cons, List.drop_zero, List.take_succ_cons, List.take_zero] at e0 e1 e2 e3
  injection e0 with e0
  injection e1 with e1
  injection e2 with e2
  injection e3 with e3
  replace h4 : DataW.trod enc Tryd.prog w base sp held n 27 (([c0, c1, c2, c3, c4, c5].drop 4).take (Tryd.prog.cellsOf 27)) = some y4 := h4
  replace h5 : DataW.trod enc Tryd.prog w base sp held n 38 (([c0, c1, c2, c3, c4, c5].drop 5).take (Tryd.prog.cellsOf 38)) = some y5 := h5
  rw [i2] at h4
  rw [i3] at h5
  simp only [List.drop_succ_cons, List.drop_zero, List.take_succ_cons, List.take_zero] at h4 h5
  obtain ⟨AL, cL, l, rfl, q1, q2, _⟩ := open_cell_of (e' := 0) Tryd.underlying27 (by kernel_rfl) opens_span h4
  obtain ⟨AS, cS, s, rfl, q3, q4, q5⟩ := open_cell_of (e' := 0) Tryd.underlying38 (by kernel_rfl) (opens_int Tryd.underlying3) h5
  subst e0 e1 e2 e3
  exact ⟨⟨a, b, c, d, l, s⟩, AL, cL, AS, cS, rfl, q1, q2, q3, q4, q5⟩
set_option maxRecDepth 100000 in
theorem open_ops {H : Type} {enc : TypeId × Value → H} {w : World} {base b0 : Nat} {sp : Nat → Bool} {held : Bool} {r : Reach} {v : Value} {dd : DataW H} {ps : List MemPlace} (hval : Value.okWide Tryd.prog w r b0 77 v) (hd : DataW.Trod enc Tryd.prog w base sp held 77 v dd ps) :
  ∃ A c l, v = .slice A l.length c ∧ l.length ≤ c ∧ c ≤ maxLen ∧ OpsAt w A l ∧ ∀ o ∈ l, ∀ z ∈ o.set, (Lit.int .i64 z).wf = true := by
 obtain ⟨a, len, cap, rfl⟩ := okWide_slice Tryd.underlying77 hval
 obtain ⟨fuel, hf⟩ := hd
 rcases open_slice Tryd.underlying77 hf with ⟨e1, -⟩ | ⟨a', len', cap', m, n, D, Pl, e1, hb, hl, hm, hmm, -, hi⟩
 ·simp [Value.cells] at e1
  obtain ⟨rfl, rfl, rfl⟩ := e1
  exact ⟨none, 0, [], rfl, Nat.le_refl _, Nat.zero_le _, fun h => absurd h (by simp), fun o h => by cases h⟩
 ·simp [Value.cells] at e1
  obtain ⟨rfl, rfl, rfl⟩ := e1
  have hlm : len ≤ m := by rw [hmm]; split <;> omega
  have hc : Tryd.prog.cellsOf 79 = 6 := by kernel_rfl
  obtain ⟨ys, hy1, hy2⟩ := choose_list (p := fun i (o : OpV) => OpAt w (a'.add (i * 6)) o ∧ ∀ z ∈ o.set, (Lit.int .i64 z).wf = true) len (fun i hlt => by
   obtain ⟨cs', h1, h2⟩ := hi i (by omega)
   rw [hc] at h1
   obtain ⟨o, AL, cL, AS, cS, rfl, q1, q2, q3, q4, q5⟩ := open_op h2
   obtain ⟨_, hlen, hcell⟩ := World.cells?_some h1
   refine ⟨o, ⟨AL, cL, AS, cS, ?_, ?_, ?_, ?_, ?_, ?_, q1, q2, q3, q4⟩, q5⟩
   ·have := hcell 0 (by decide); exact this
   ·have := hcell 1 (by decide); exact this
   ·have := hcell 2 (by decide); exact this
   ·have := hcell 3 (by decide); exact this
   ·have := hcell 4 (by decide); exact this
   ·have := hcell 5 (by decide); exact this)
  refine ⟨some a', cap, ys, by rw [hy1], by omega, hm, fun _ => ⟨a', rfl, fun j hj => (hy2 j _ (List.getElem?_eq_getElem hj)).1⟩, fun o ho => ?_⟩
  obtain ⟨i, hi2, rfl⟩ := List.getElem_of_mem ho
  exact (hy2 i _ (List.getElem?_eq_getElem hi2)).2
end Go.Proofs.YtegjegihcebimaaDoor.Pure
end
