/- Part 20 of the proof of topReplays_holds: out of the texts that this session's programs wrote, what the theorem reaches. -/
import Derived.Deep.Slices
import Derived.Deep.Strs
import Derived.KernelRfl
import Derived.Lib.SmallJoins
import Derived.ProofKit
import Derived.Test.YtegjegihcebimaaDoorZ12
import Derived.Test.YtegjegihcebimaaDoorZ13
import Derived.Test.YtegjegihcebimaaDoorZ17
import Derived.Test.YtegjegihcebimaaDoorZ19
import Derived.Test.YtegjegihcebimaaDoorZ2
import Derived.Test.YtegjegihcebimaaDoorZ4
import Derived.Test.YtegjegihcebimaaDoorZ5
import Derived.Test.YtegjegihcebimaaDoorZ9
section
namespace Go.Proofs.YtegjegihcebimaaDoor.Pure
open Go.RowKit Go.Proofs.YtegjegihcebimaaDoor.P Go.Proofs.YtegjegihcebimaaDoorW.PrintWords Go.Proofs.YtegjegihcebimaaDoorW.PrintLast Go.Proofs.YtegjegihcebimaaDoorW.PrintMore
set_option linter.unusedVariables false
set_option linter.unusedSimpArgs false
theorem tm3 (x : Int) : -3 < Int.tmod x 3 ∧ Int.tmod x 3 < 3 := ⟨Int.lt_tmod_of_pos x (by decide), Int.tmod_lt_of_pos x (by decide)⟩
theorem tm7 (x : Int) : -7 < Int.tmod x 7 ∧ Int.tmod x 7 < 7 := ⟨Int.lt_tmod_of_pos x (by decide), Int.tmod_lt_of_pos x (by decide)⟩
theorem kd_cases (x : Int) : wrap64 (1 + Int.tmod (wrap64 (Int.tmod x 3 + 3)) 3) = 1 ∨ wrap64 (1 + Int.tmod (wrap64 (Int.tmod x 3 + 3)) 3) = 2 ∨ wrap64 (1 + Int.tmod (wrap64 (Int.tmod x 3 + 3)) 3) = 3 := by
 have h := tm3 x
 rw [w64 (x := Int.tmod x 3 + 3) (by omega) (by omega), Int.tmod_eq_emod_of_nonneg (a := Int.tmod x 3 + 3) (by omega), w64 (by omega) (by omega)]
 omega
theorem nn_range (x : Int) : 0 ≤ Int.tmod (wrap64 (Int.tmod x 7 + 7)) 7 ∧ Int.tmod (wrap64 (Int.tmod x 7 + 7)) 7 ≤ 6 := by
 have h := tm7 x
 rw [w64 (x := Int.tmod x 7 + 7) (by omega) (by omega), Int.tmod_eq_emod_of_nonneg (a := Int.tmod x 7 + 7) (by omega)]
 omega
theorem fit_small (s : ByteArray) (h : s.size ≤ 20) (k : Nat) (hk : 200 ≤ k) : ∃ l, epitomeref01_Fit.f k s = some (enc l) ∧ Runes l ∧ l.length = s.size := by
 have hl := epitomeref01_Fit.len s
 refine ⟨epitomeref01_Fit.l s, ?_, fit_rune s, by omega⟩
 unfold epitomeref01_Fit.f
 rw [if_pos (by omega), refOf _ (by omega) _ _ (by omega), filter_runes (fit_rune s)]
 intro x hx
 have := fit_rune s x hx
 unfold isRune at this; omega
theorem W_snoc {d : List S25} {x : S25} (hd : W d) (hx : okA x) : W (d ++ [x]) := W_app.2 ⟨hd, W_cons.2 ⟨hx, W_nil⟩⟩
theorem ats_snoc (d : List S25) (x : S25) : ats (d ++ [x]) = ats d ++ at1 x := by rw [ats_app, ats_cons, ats_nil, List.append_nil]
theorem fit_l (l : List S25) : ∀ (d i k n : Nat) (out : List S25), 12 - i = d → i ≤ 12 → W out → out.length ≤ 100 + i → n ≤ 1000000 → 300 + 2 * d ≤ k →
  ∃ r, epitomeref04_Fit.l0 k l (n : Int) out (i : Int) = some r ∧ W r ∧ ins (ats r) = ins (ats out) + n ∧ (ats r).length ≤ (ats out).length + n + 6 * d ∧ r.length ≤ out.length + d + 1 := by
 intro d
 induction d with
 | zero =>
  intro i k n out hd hi hw ho hn hk
  have ho' : out.length < 4398046511104 := by omega
  obtain ⟨k, rfl⟩ : ∃ j, k = j + 2 := ⟨k - 2, by omega⟩
  have fin : ∃ r, epitomeref04_Fit.j1 (k + 1) l (n : Int) out (i : Int) false = some r ∧ W r ∧ ins (ats r) = ins (ats out) + n ∧ (ats r).length ≤ (ats out).length + n + 6 * 0 ∧ r.length ≤ out.length + 0 + 1 := by
   rw [epitomeref04_Fit.j1, if_neg (by decide)]
   by_cases c : (n : Int) > 0
   ·rw [if_pos c, if_pos ho']
    refine ⟨_, rfl, W_snoc hw (okA_K n), ?_, ?_, by simp⟩
    ·rw [ats_snoc, ins_app, at1_K, ins_K]; simp
    ·rw [ats_snoc, List.length_append, at1_K, List.length_replicate, Int.toNat_natCast]; omega
   ·rw [if_neg c]
    exact ⟨_, rfl, hw, by omega, by omega, by omega⟩
  rw [epitomeref04_Fit.l0]
  split
  ·rw [show decide ((i : Int) < 12) = false from decide_eq_false (by omega)]; exact fin
  ·exact fin
 | succ d ih =>
  intro i k n out hd hi hw ho hn hk
  have ho' : out.length < 4398046511104 := by omega
  obtain ⟨k, rfl⟩ : ∃ j, k = j + 2 := ⟨k - 2, by omega⟩
  have fin : ∃ r, epitomeref04_Fit.j1 (k + 1) l (n : Int) out (i : Int) false = some r ∧ W r ∧ ins (ats r) = ins (ats out) + n ∧ (ats r).length ≤ (ats out).length + n + 6 * (d + 1) ∧ r.length ≤ out.length + (d + 1) + 1 := by
   rw [epitomeref04_Fit.j1, if_neg (by decide)]
   by_cases c : (n : Int) > 0
   ·rw [if_pos c, if_pos ho']
    refine ⟨_, rfl, W_snoc hw (okA_K n), ?_, ?_, by simp⟩
    ·rw [ats_snoc, ins_app, at1_K, ins_K]; simp
    ·rw [ats_snoc, List.length_append, at1_K, List.length_replicate, Int.toNat_natCast]; omega
   ·rw [if_neg c]
    exact ⟨_, rfl, hw, by omega, by omega, by omega⟩
  rw [epitomeref04_Fit.l0]
  split
  ·rename_i hlt
   rw [show decide ((i : Int) < 12) = true from decide_eq_true (by omega), epitomeref04_Fit.j1, if_pos rfl, if_pos (by omega), if_pos hlt]
   have hkd := kd_cases (rd_T25 l (i : Int)).f0
   have hnn := nn_range (rd_T25 l (i : Int)).f1
   obtain ⟨x, ex⟩ : ∃ x, x = rd_T25 l (i : Int) := ⟨_, rfl⟩
   rw [← ex] at hkd hnn ⊢
   obtain ⟨K, eK⟩ : ∃ K, K = wrap64 (1 + Int.tmod (wrap64 (Int.tmod x.f0 3 + 3)) 3) := ⟨_, rfl⟩
   obtain ⟨q, eq⟩ : ∃ q, q = Int.tmod (wrap64 (Int.tmod x.f1 7 + 7)) 7 := ⟨_, rfl⟩
   simp only [← eK, ← eq] at hkd hnn ⊢
   clear eK eq
   have ew : wrap64 ((i : Int) + 1) = ((i + 1 : Nat) : Int) := w64 (by omega) (by omega)
   rw [ew]
   clear ew
   by_cases c : K = 2
   ·subst c
    have m := mn_le (x.f2.size : Int) 6
    have h0 : 0 ≤ mn (x.f2.size : Int) 6 := by rcases m.2.2 with h | h <;> omega
    obtain ⟨t, et, ht, htl⟩ := fit_small (x.f2.extract 0 (mn (x.f2.size : Int) 6).toNat) (by rw [ByteArray.size_extract]; omega) k (by omega)
    have hle : t.length ≤ 6 := by rw [htl, ByteArray.size_extract]; omega
    rw [if_pos rfl, if_pos h0, if_pos m.1, et, Option.bind_some, if_pos ho']
    clear m h0 htl et hkd hnn ex
    obtain ⟨r, h1, h2, h3, h4, h5⟩ := ih (i + 1) k n (out ++ [⟨2, 0, enc t⟩]) (by omega) (by omega) (W_snoc hw (okA_I ht)) (by simp; omega) hn (by omega)
    rw [ats_snoc, at1_I 0 ht] at h3 h4
    rw [ins_app, ins_I] at h3
    rw [List.length_append, List.length_map] at h4
    rw [List.length_append, List.length_singleton] at h5
    exact ⟨r, h1, h2, by omega, by omega, by omega⟩
   ·rw [if_neg c, if_pos ho']
    have m := mn_le q (n : Int)
    have h0 : 0 ≤ mn q (n : Int) := by rcases m.2.2 with h | h <;> omega
    obtain ⟨p, hp⟩ : ∃ p : Nat, mn q (n : Int) = (p : Int) := ⟨(mn q (n : Int)).toNat, by omega⟩
    rw [hp] at m ⊢
    have m1 := m.1
    have m2 := m.2.1
    clear m h0 hp ex
    rw [show wrap64 ((n : Int) - (p : Int)) = ((n - p : Nat) : Int) by rw [w64 (by omega) (by omega)]; omega]
    rcases (show K = 1 ∨ K = 3 by omega) with rfl | rfl
    ·obtain ⟨r, h1, h2, h3, h4, h5⟩ := ih (i + 1) k (n - p) (out ++ [⟨1, (p : Int), ⟨#[]⟩⟩]) (by omega) (by omega) (W_snoc hw (okA_K p)) (by simp; omega) (by omega) (by omega)
     rw [ats_snoc, at1_K, Int.toNat_natCast] at h3 h4
     rw [ins_app, ins_K] at h3
     rw [List.length_append, List.length_replicate] at h4
     rw [List.length_append, List.length_singleton] at h5
     exact ⟨r, h1, h2, by omega, by omega, by omega⟩
    ·obtain ⟨r, h1, h2, h3, h4, h5⟩ := ih (i + 1) k (n - p) (out ++ [⟨3, (p : Int), ⟨#[]⟩⟩]) (by omega) (by omega) (W_snoc hw (okA_D p)) (by simp; omega) (by omega) (by omega)
     rw [ats_snoc, at1_D, Int.toNat_natCast] at h3 h4
     rw [ins_app, ins_D] at h3
     rw [List.length_append, List.length_replicate] at h4
     rw [List.length_append, List.length_singleton] at h5
     exact ⟨r, h1, h2, by omega, by omega, by omega⟩
  ·exact fin
theorem fit_A (l : List S25) (n : Nat) (hn : n ≤ 1000000) (k : Nat) (hk : 400 ≤ k) : ∃ r, epitomeref04_Fit.f k l (n : Int) = some r ∧ W r ∧ ins (ats r) = n ∧ (ats r).length ≤ n + 72 ∧ r.length ≤ 13 := by
 obtain ⟨r, h1, h2, h3, h4, h5⟩ := fit_l l 12 0 k n [] rfl (by decide) W_nil (by simp) hn (by omega)
 rw [ats_nil, ins_nil] at h3
 rw [ats_nil] at h4
 exact ⟨r, h1, h2, by omega, by simpa using h4, by simpa using h5⟩
theorem ref_out1 {x : S25} (h : okA x) (hb : (at1 x).length ≤ 1000000) (k : Nat) (hk : 4000014 ≤ k) : epitomeref03_Out.f k x.f0 x.f1 x.f2 = some (outs (at1 x) : Int) := by
 rcases okA_cases h with ⟨n, rfl⟩ | ⟨n, rfl⟩ | ⟨t, ht, rfl⟩
 ·rw [at1_K, outs_K]; simp [epitomeref03_Out.f]
 ·rw [at1_D, outs_D]; simp [epitomeref03_Out.f]
 ·rw [at1_I 0 ht, List.length_map] at hb
  have := enc_sz hb
  rw [at1_I 0 ht, outs_I, epitomeref03_Out.f, if_neg (show ¬ (2 : Int) = 1 by decide), if_pos rfl, ref_count ht (by omega) k (by omega), Option.bind_some]
  unfold mx
  rw [if_neg (by omega)]
theorem rd_at (l : List S25) (i : Nat) (h : i < l.length) : rd_T25 l (i : Int) = l[i] := by
 unfold rd_T25; rw [Int.toNat_natCast, List.getD_eq_getElem?_getD, List.getElem?_eq_getElem h]; rfl
theorem rdL_at (l : List (List S25)) (i : Nat) (h : i < l.length) : rd_L3 l (i : Int) = l[i] := by
 unfold rd_L3; rw [Int.toNat_natCast, List.getD_eq_getElem?_getD, List.getElem?_eq_getElem h]; rfl
theorem ref_out {l : List S25} (h : W l) (hb : (ats l).length ≤ 1000000) (hl : l.length ≤ 1000000) (k : Nat) (hk : 5000015 ≤ k) : epitomeref04_Out.f k l = some (outs (ats l) : Int) := by
 have go : ∀ (d i k a : Nat), l.length - i = d → i ≤ l.length → 4000015 + d ≤ k → a + outs (ats (l.drop i)) ≤ 1000000 → epitomeref04_Out.l0 k l (a : Int) (i : Int) = some ((a + outs (ats (l.drop i)) : Nat) : Int) := by
  intro d
  induction d with
  | zero =>
   intro i k a hd hi hk ha
   obtain ⟨k, rfl⟩ : ∃ j, k = j + 1 := ⟨k - 1, by omega⟩
   rw [epitomeref04_Out.l0, if_neg (by omega), List.drop_of_length_le (by omega), ats_nil, outs_nil]; rfl
  | succ d ih =>
   intro i k a hd hi hk ha
   obtain ⟨k, rfl⟩ : ∃ j, k = j + 1 := ⟨k - 1, by omega⟩
   rw [List.drop_eq_getElem_cons (show i < l.length by omega), ats_cons, outs_app] at ha ⊢
   have hm : l[i] ∈ l := List.getElem_mem _
   have hbl := at1_le hm
   rw [epitomeref04_Out.l0, if_pos (by omega), if_pos (by omega), rd_at l i (by omega), ref_out1 (h _ hm) (by omega) k (by omega), Option.bind_some, w64 (by omega) (by omega), w64 (by omega) (by omega),
    show (a : Int) + (outs (at1 l[i]) : Int) = ((a + outs (at1 l[i]) : Nat) : Int) by omega, show (i : Int) + 1 = ((i + 1 : Nat) : Int) by omega, ih (i + 1) k _ (by omega) (by omega) (by omega) (by omega)]
   congr 2; omega
 have := outs_le (ats l)
 have e := go l.length 0 k 0 rfl (Nat.zero_le _) (by omega) (by simpa using (by omega : outs (ats l) ≤ 1000000))
 rw [List.drop_zero, Nat.zero_add] at e
 exact e
theorem step_set (d : List S25) (x : S25) (h : 0 < d.length) (c : (rd_T25 d ((d.length - 1 : Nat) : Int)).f0 = x.f0) (z : S25) (y : S25) (hz : z = ⟨(rd_T25 d ((d.length - 1 : Nat) : Int)).f0, wrap64 ((rd_T25 d ((d.length - 1 : Nat) : Int)).f1 + x.f1), (rd_T25 d ((d.length - 1 : Nat) : Int)).f2⟩) (hy : y = ⟨z.f0, z.f1, z.f2 ++ x.f2⟩) :
  (d.set (d.length - 1) z).set (d.length - 1) y = normal_Of.step d x ∧ rd_T25 (d.set (d.length - 1) z) ((d.length - 1 : Nat) : Int) = z := by
 subst hy
 refine ⟨?_, ?_⟩
 ·rw [List.set_set, normal_Of.step, if_neg (by omega), if_pos c.symm, hz]
 ·unfold rd_T25; rw [Int.toNat_natCast, List.getD_eq_getElem?_getD, List.getElem?_set_self (by omega)]; rfl
theorem last_size {d : List S25} (hd : W d) (h : 0 < d.length) : (rd_T25 d ((d.length - 1 : Nat) : Int)).f2.size ≤ 4 * (ats d).length := by
 have hm : d[d.length - 1] ∈ d := List.getElem_mem _
 rw [rd_at d _ (by omega)]
 have h1 := text_le (l := [d[d.length - 1]]) (W_cons.2 ⟨hd _ hm, W_nil⟩)
 rw [normal_Of.t, normal_Of.t, ats_cons, ats_nil, List.append_nil] at h1
 have := at1_le hm
 omega
theorem ref_norm {l : List S25} (h : W l) (hb : (ats l).length ≤ 1000000) (hl : l.length ≤ 1000000) (k : Nat) (hk : 2 * l.length + 3 ≤ k) : epitomeref05_Of.f k l = some (normal_Of.n l) := by
 have go : ∀ (m i k : Nat) (d : List S25), l.length - i = m → i ≤ l.length → 2 * m + 2 ≤ k → W d → Alt d → (ats d).length + (ats (l.drop i)).length ≤ 1000000 → epitomeref05_Of.l0 k l d (i : Int) = some ((normal_Of.keep (l.drop i)).foldl normal_Of.step d) := by
  intro m
  induction m with
  | zero =>
   intro i k d hm hi hk hw ha hs
   obtain ⟨k, rfl⟩ : ∃ j, k = j + 1 := ⟨k - 1, by omega⟩
   rw [epitomeref05_Of.l0, if_neg (by omega), List.drop_of_length_le (by omega)]; rfl
  | succ m ih =>
   intro i k d hm hi hk hw ha hs
   obtain ⟨k, rfl⟩ : ∃ j, k = j + 2 := ⟨k - 2, by omega⟩
   have hmem : l[i] ∈ l := List.getElem_mem _
   have hx := h _ hmem
   have hal := alt_len ha
   rw [List.drop_eq_getElem_cons (show i < l.length by omega), ats_cons, List.length_append] at hs
   rw [List.drop_eq_getElem_cons (show i < l.length by omega)]
   have e0 : ∀ b : Bool, normal_Of.e l[i] = b → (if l[i].f1 = 0 then epitomeref05_Of.j1 (k + 1) l d (i : Int) (l[i].f2.toList == ([] : List UInt8)) l[i].f0 l[i].f1 l[i].f2 else epitomeref05_Of.j1 (k + 1) l d (i : Int) false l[i].f0 l[i].f1 l[i].f2) = epitomeref05_Of.j1 (k + 1) l d (i : Int) b l[i].f0 l[i].f1 l[i].f2 := by
    intro b hb
    unfold normal_Of.e at hb
    by_cases c : l[i].f1 = 0
    ·rw [if_pos c, ← hb, decide_eq_true c, Bool.true_and]
    ·rw [if_neg c, ← hb, decide_eq_false c, Bool.false_and]
   rw [epitomeref05_Of.l0, if_pos (by omega), if_pos (by omega), rd_at l i (by omega)]
   have ew : Aside0 (wrap64 ((i : Int) + 1) = ((i + 1 : Nat) : Int)) := ⟨w64 (by omega) (by omega)⟩
   have ek : normal_Of.keep (l[i] :: l.drop (i + 1)) = if normal_Of.e l[i] = true then normal_Of.keep (l.drop (i + 1)) else l[i] :: normal_Of.keep (l.drop (i + 1)) := by
    unfold normal_Of.keep
    rw [List.filter_cons]
    by_cases c : normal_Of.e l[i] = true
    ·rw [if_pos c, if_neg (by simp [c])]
    ·rw [if_neg c, if_pos (by simpa using c)]
   rw [ek]
   by_cases c : normal_Of.e l[i] = true
   ·rw [e0 true c, epitomeref05_Of.j1, if_pos rfl, ew.out, if_pos c, ih (i + 1) k d (by omega) (by omega) (by omega) hw ha (by omega)]
   ·have hne : ne l[i] := fun e => c ((e_iff hx).2 e)
    obtain ⟨s1, s2, s3, s4⟩ := step_A hw ha hx hne (by omega)
    have next := ih (i + 1) k (normal_Of.step d l[i]) (by omega) (by omega) (by omega) s1 s2 (by rw [s3, List.length_append]; omega)
    rw [e0 false (by simpa using c), epitomeref05_Of.j1, if_neg (by decide), ew.out, if_neg c, List.foldl_cons]
    by_cases c1 : 0 < d.length
    ·rw [show wrap64 ((d.length : Int) - 1) = ((d.length - 1 : Nat) : Int) by rw [w64 (by omega) (by omega)]; omega, if_pos (by omega), if_pos (by omega), if_pos (by omega), Int.toNat_natCast]
     by_cases c2 : (rd_T25 d ((d.length - 1 : Nat) : Int)).f0 = l[i].f0
     ·obtain ⟨t1, t2⟩ := step_set d l[i] c1 c2 _ _ rfl rfl
      have z1 := last_size hw c1
      have z2 := text_le (l := [l[i]]) (W_cons.2 ⟨hx, W_nil⟩)
      rw [normal_Of.t, normal_Of.t, ats_cons, ats_nil, List.append_nil] at z2
      rw [if_pos c2, Option.bind_some, t2, if_pos (by simp only []; omega), t1]
      exact next
     ·have e2 : normal_Of.step d l[i] = d ++ [l[i]] := by rw [normal_Of.step, if_neg (by omega), if_neg (fun e => c2 e.symm)]
      rw [if_neg c2, if_pos (by omega)]
      rw [e2] at next ⊢
      exact next
    ·have e2 : normal_Of.step d l[i] = d ++ [l[i]] := by
      obtain rfl : d = [] := List.length_eq_zero_iff.1 (by omega)
      rfl
     rw [if_neg (by omega), if_pos (by omega)]
     rw [e2] at next ⊢
     exact next
 exact go l.length 0 k [] rfl (Nat.zero_le _) (by omega) W_nil trivial (by rw [List.drop_zero, ats_nil]; simpa using hb)
def ch : Nat → List (List S25) → Prop
 | _, [] => True
 | n, x :: l => W x ∧ ins (ats x) = n ∧ ch (outs (ats x)) l
def tot (l : List (List S25)) : Nat := (l.map fun x => (ats x).length).sum
def sz : Nat → List (List S25) → Nat → Nat
 | n, _, 0 => n
 | n, [], _ + 1 => n
 | _, x :: l, a + 1 => sz (outs (ats x)) l a
theorem ch_snoc {x : List S25} : ∀ {l : List (List S25)} {n : Nat}, ch n l → W x → ins (ats x) = sz n l l.length → ch n (l ++ [x])
 | [], n, _, hx, he => ⟨hx, he, trivial⟩
 | y :: l, n, ⟨h1, h2, h3⟩, hx, he => ⟨h1, h2, ch_snoc h3 hx he⟩
theorem sz_snoc {x : List S25} : ∀ (l : List (List S25)) (n : Nat), sz n (l ++ [x]) (l ++ [x]).length = outs (ats x)
 | [], n => rfl
 | y :: l, n => sz_snoc l _
theorem tot_snoc (l : List (List S25)) (x : List S25) : tot (l ++ [x]) = tot l + (ats x).length := by simp [tot]
theorem tot_cons (l : List (List S25)) (x : List S25) : tot (x :: l) = (ats x).length + tot l := by simp [tot]
theorem chain_l (l : List (List S25)) (n0 : Nat) : ∀ (d i k n : Nat) (out : List (List S25)), 20 - i = d → i ≤ 20 → out.length = i → ch n0 out → n = sz n0 out out.length → n ≤ n0 + 72 * i → n0 ≤ 100 → tot out ≤ 1600 * i → (∀ x ∈ out, x.length ≤ 13) → 5000020 + 2 * d ≤ k →
  ∃ r, epitomeref04_Chain.l0 k l (n : Int) out (i : Int) = some r ∧ ch n0 r ∧ r.length ≤ 20 ∧ tot r ≤ 32000 ∧ ∀ x ∈ r, x.length ≤ 13 := by
 intro d
 induction d with
 | zero =>
  intro i k n out hd hi ho hc hs hn h0 ht hx hk
  obtain ⟨k, rfl⟩ : ∃ j, k = j + 2 := ⟨k - 2, by omega⟩
  have fin : ∃ r, epitomeref04_Chain.j1 (k + 1) l (n : Int) out (i : Int) false = some r ∧ ch n0 r ∧ r.length ≤ 20 ∧ tot r ≤ 32000 ∧ ∀ x ∈ r, x.length ≤ 13 := by
   rw [epitomeref04_Chain.j1, if_neg (by decide)]
   exact ⟨out, rfl, hc, by omega, by omega, hx⟩
  rw [epitomeref04_Chain.l0]
  split
  ·rw [show decide ((i : Int) < 20) = false from decide_eq_false (by omega)]; exact fin
  ·exact fin
 | succ d ih =>
  intro i k n out hd hi ho hc hs hn h0 ht hx hk
  obtain ⟨k, rfl⟩ : ∃ j, k = j + 2 := ⟨k - 2, by omega⟩
  have fin : ∃ r, epitomeref04_Chain.j1 (k + 1) l (n : Int) out (i : Int) false = some r ∧ ch n0 r ∧ r.length ≤ 20 ∧ tot r ≤ 32000 ∧ ∀ x ∈ r, x.length ≤ 13 := by
   rw [epitomeref04_Chain.j1, if_neg (by decide)]
   exact ⟨out, rfl, hc, by omega, by omega, hx⟩
  rw [epitomeref04_Chain.l0]
  split
  ·rename_i hlt
   obtain ⟨x, e1, e2, e3, e4, e5⟩ := fit_A (rd_L3 l (i : Int)) n (by omega) k (by omega)
   have ol := outs_le (ats x)
   rw [show decide ((i : Int) < 20) = true from decide_eq_true (by omega), epitomeref04_Chain.j1, if_pos rfl, if_pos (by omega), if_pos hlt, e1, Option.bind_some, if_pos (by omega), ref_out e2 (by omega) (by omega) k (by omega), Option.bind_some, w64 (by omega) (by omega), show (i : Int) + 1 = ((i + 1 : Nat) : Int) by omega]
   refine ih (i + 1) k _ (out ++ [x]) (by omega) (by omega) (by simp [ho]) (ch_snoc hc e2 (by rw [e3, hs])) (sz_snoc out n0).symm (by omega) h0 (by rw [tot_snoc]; omega) (fun y hy => ?_) (by omega)
   rcases List.mem_append.1 hy with hy | hy
   ·exact hx y hy
   ·rw [List.mem_singleton.1 hy]; exact e5
  ·exact fin
def hs (n : Nat) (l : List (List S25)) : Prop := ch n l ∧ ∀ x ∈ l, Alt x
theorem ch_norm : ∀ {l : List (List S25)} {n : Nat}, ch n l → tot l ≤ 1000000 → ch n (l.map normal_Of.n) ∧ tot (l.map normal_Of.n) = tot l ∧ ∀ x ∈ l.map normal_Of.n, Alt x
 | [], n, _, _ => ⟨trivial, rfl, fun _ h => by cases h⟩
 | x :: l, n, ⟨h1, h2, h3⟩, ht => by
  rw [tot_cons] at ht
  obtain ⟨w1, w2, w3, w4⟩ := norm_A h1 (by omega)
  obtain ⟨r1, r2, r3⟩ := ch_norm h3 (by omega)
  refine ⟨⟨w1, by rw [w3, h2], by rw [w3]; exact r1⟩, ?_, fun y hy => ?_⟩
  ·rw [List.map_cons, tot_cons, tot_cons, r2, w3]
  ·rcases List.mem_cons.1 hy with rfl | hy
   ·exact w2
   ·exact r3 y hy
theorem ch_mem : ∀ {l : List (List S25)} {n : Nat}, ch n l → ∀ x ∈ l, W x ∧ (ats x).length ≤ tot l
 | [], _, _, _, h => by cases h
 | y :: l, _, ⟨h1, _, h3⟩, x, hx => by
  rw [tot_cons]
  rcases List.mem_cons.1 hx with rfl | hx
  ·exact ⟨h1, by omega⟩
  ·have := ch_mem h3 x hx; exact ⟨this.1, by omega⟩
def revs (m : Nat) : List Int := (List.range (m + 1)).map fun i : Nat => (i : Int)
theorem revs_len (m : Nat) : (revs m).length = m + 1 := by simp [revs]
theorem revs_succ (m : Nat) : revs (m + 1) = revs m ++ [((m + 1 : Nat) : Int)] := by unfold revs; rw [List.range_succ (n := m + 1), List.map_append]; rfl
theorem fit16_l (b : ByteArray) (l : List (List S25)) (n : Nat) (hc : ch n l) (hl : l.length ≤ 20) (ht : tot l ≤ 32000) (hx : ∀ x ∈ l, x.length ≤ 13) : ∀ (d i k : Nat), l.length - i = d → i ≤ l.length → 100 + d ≤ k →
  epitomeref16_Fit.l0 k l (i : Int) b (revs i) ((l.take i).map normal_Of.n) = some (b, revs l.length, l.map normal_Of.n) := by
 intro d
 induction d with
 | zero =>
  intro i k hd hi hk
  obtain ⟨k, rfl⟩ : ∃ j, k = j + 1 := ⟨k - 1, by omega⟩
  obtain rfl : i = l.length := by omega
  rw [epitomeref16_Fit.l0, if_neg (by omega), List.take_length]
 | succ d ih =>
  intro i k hd hi hk
  obtain ⟨k, rfl⟩ : ∃ j, k = j + 1 := ⟨k - 1, by omega⟩
  have hm : l[i] ∈ l := List.getElem_mem _
  obtain ⟨w1, w2⟩ := ch_mem hc _ hm
  have := hx _ hm
  rw [epitomeref16_Fit.l0, if_pos (by omega), if_pos (by rw [revs_len]; omega), if_pos (by omega), rdL_at l i (by omega), ref_norm w1 (by omega) (by omega) k (by omega), Option.bind_some, if_pos (by simp; omega), w64 (by omega) (by omega), show (i : Int) + 1 = ((i + 1 : Nat) : Int) by omega, ← revs_succ]
  have e : (l.take i).map normal_Of.n ++ [normal_Of.n l[i]] = (l.take (i + 1)).map normal_Of.n := by rw [List.take_succ_eq_append_getElem (by omega), List.map_append]; rfl
  rw [e]
  exact ih (i + 1) k (by omega) (by omega) (by omega)
theorem fit16_A (s : ByteArray) (l : List (List S25)) (k : Nat) (hk : 6000000 ≤ k) : ∃ b segs, epitomeref16_Fit.f k s l = some (enc b, revs segs.length, segs) ∧ Runes b ∧ b.length ≤ 20 ∧ hs b.length segs ∧ segs.length ≤ 20 ∧ tot segs ≤ 32000 := by
 have m := mn_le (s.size : Int) 20
 have h0 : 0 ≤ mn (s.size : Int) 20 := by rcases m.2.2 with h | h <;> omega
 obtain ⟨b, eb, hb, hbl⟩ := fit_small (s.extract 0 (mn (s.size : Int) 20).toNat) (by rw [ByteArray.size_extract]; omega) k (by omega)
 have hle : b.length ≤ 20 := by rw [hbl, ByteArray.size_extract]; omega
 have hz := enc_sz (t := b) (by omega)
 obtain ⟨w, e1, e2, e3, e4, e5⟩ := chain_l l b.length 20 0 k b.length [] rfl (by decide) rfl trivial rfl (by omega) (by omega) (by simp [tot]) (fun _ h => by cases h) (by omega)
 obtain ⟨n1, n2, n3⟩ := ch_norm e2 (by omega)
 refine ⟨b, w.map normal_Of.n, ?_, hb, hle, ⟨n1, n3⟩, by simpa using e3, by omega⟩
 unfold epitomeref16_Fit.f
 rw [if_pos h0, if_pos m.1, eb, Option.bind_some, ref_count hb (by omega) k (by omega), Option.bind_some]
 unfold epitomeref04_Chain.f
 have e1' : epitomeref04_Chain.l0 k l (b.length : Int) [] 0 = some w := e1
 rw [e1', Option.bind_some]
 have := fit16_l (enc b) w b.length e2 e3 e4 e5 w.length 0 k rfl (Nat.zero_le _) (by omega)
 rw [List.length_map]
 exact this
theorem i64ok_of {x : Int} (h : (Lit.int .i64 x).wf = true) : i64ok x := by
 simp [Lit.wf, IntKind.min, IntKind.max, IntKind.signed, IntKind.bits] at h
 unfold i64ok; omega
def cmps (n : Nat) (l : List (List S25)) : List At := l.foldl (fun a x => comp a (ats x)) (List.replicate n At.K)
def lens (l : List (List S25)) : Nat := (l.map List.length).sum
theorem lens_cons (x : List S25) (l : List (List S25)) : lens (x :: l) = x.length + lens l := by simp [lens]
theorem keep_op (n : Nat) (hn : n ≤ 1000000) : ∃ r, (∀ k, 2 ≤ k → op_Keep.f k (n : Int) = some (r, 0)) ∧ W r ∧ Alt r ∧ ats r = List.replicate n At.K ∧ r.length ≤ 1 := by
 have e : ∀ k, op_Keep.f (k + 1) (n : Int) = if (n : Int) = 0 then some ([], 0) else some ([⟨1, (n : Int), ⟨#[]⟩⟩], 0) := by
  intro k
  unfold op_Keep.f
  rw [if_neg (by omega), decide_eq_false (by omega), op_Keep.j0, if_neg (by decide)]
 cases n with
 | zero => exact ⟨[], fun k hk => by obtain ⟨k, rfl⟩ : ∃ j, k = j + 1 := ⟨k - 1, by omega⟩; rw [e, if_pos (show ((0 : Nat) : Int) = 0 from rfl)], W_nil, trivial, rfl, by simp⟩
 | succ n =>
  refine ⟨[⟨1, ((n + 1 : Nat) : Int), ⟨#[]⟩⟩], fun k hk => by obtain ⟨k, rfl⟩ : ∃ j, k = j + 1 := ⟨k - 1, by omega⟩; rw [e, if_neg (by omega)], W_cons.2 ⟨okA_K _, W_nil⟩, ⟨?_, fun y l' h => (by cases h), trivial⟩, ?_, by simp⟩
  ·unfold ne; rw [at1_K, Int.toNat_natCast, List.replicate_succ]; exact fun h => by cases h
  ·rw [ats_cons, at1_K, Int.toNat_natCast, ats_nil, List.append_nil]
theorem fuse_l : ∀ (l : List (List S25)) (a : List S25), W a → Alt a → ch (outs (ats a)) l → (∀ x ∈ l, Alt x) → (ats a).length + tot l ≤ 1000000 →
  ∃ r, (∀ k, 1000004 ≤ k → fuse_Of.l k a l = some (r, 0)) ∧ W r ∧ Alt r ∧ ats r = l.foldl (fun a x => comp a (ats x)) (ats a) ∧ r.length ≤ a.length + lens l
 | [], a, wa, na, _, _, _ => ⟨a, fun k _ => rfl, wa, na, rfl, Nat.le_refl _⟩
 | x :: l, a, wa, na, ⟨h1, h2, h3⟩, hn, ht => by
  rw [tot_cons] at ht
  have la := alt_len na
  have lx := alt_len (hn x (by simp))
  obtain ⟨r, c1, c2, c3, c4, c5⟩ := comp_A wa h1 (by omega) (by omega) (by omega) (by omega) h2.symm
  have cl := comp_len _ (ats a) (ats x) (Nat.le_refl _) h2.symm
  obtain ⟨q, d1, d2, d3, d4, d5⟩ := fuse_l l r c2 c3 (by rw [c4, cl.2.1]; exact h3) (fun y hy => hn y (by simp [hy])) (by rw [c4]; omega)
  refine ⟨q, fun k hk => ?_, d2, d3, by rw [d4, c4]; rfl, by rw [lens_cons]; omega⟩
  rw [fuse_Of.l, c1 k (by omega), Option.bind_some, if_pos rfl, d1 k hk]
theorem fold_len : ∀ (l : List (List S25)) (a : List At), ch (outs a) l → (l.foldl (fun a x => comp a (ats x)) a).length ≤ a.length + tot l ∧ ins (l.foldl (fun a x => comp a (ats x)) a) = ins a ∧ outs (l.foldl (fun a x => comp a (ats x)) a) = sz (outs a) l l.length
 | [], a, _ => ⟨Nat.le_refl _, rfl, rfl⟩
 | x :: l, a, ⟨h1, h2, h3⟩ => by
  obtain ⟨c1, c2, c3⟩ := comp_len _ a (ats x) (Nat.le_refl _) h2.symm
  rw [← c2] at h3
  obtain ⟨i1, i2, i3⟩ := fold_len l (comp a (ats x)) h3
  rw [c2] at i3
  rw [tot_cons]
  exact ⟨by rw [List.foldl_cons]; omega, by rw [List.foldl_cons]; omega, i3⟩
theorem cmps_len {n : Nat} {l : List (List S25)} (h : ch n l) : (cmps n l).length ≤ n + tot l ∧ ins (cmps n l) = n ∧ outs (cmps n l) = sz n l l.length := by
 have := fold_len l (List.replicate n At.K) (by rw [outs_K]; exact h)
 rw [List.length_replicate, ins_K, outs_K] at this
 exact this
theorem fuse_A {n : Nat} {l : List (List S25)} (h : hs n l) (hl : l.length ≤ 1000000) (ht : n + tot l ≤ 400000) : ∃ r, (∀ k, 1000004 ≤ k → fuse_Of.f k (n : Int) l = some (r, 0)) ∧ W r ∧ Alt r ∧ ats r = cmps n l ∧ (l ≠ [] → r.length ≤ lens l) := by
  obtain ⟨q, q1, q2, q3, q4, q5⟩ := keep_op n (by omega)
  have hf : ∀ r, (∀ k, 1000004 ≤ k → fuse_Of.l k q l = some (r, 0)) → ∀ k, 1000004 ≤ k → fuse_Of.f k (n : Int) l = some (r, 0) := by
    intro r hr k hk
    unfold fuse_Of.f
    rw [if_pos (by omega), q1 k (by omega), Option.bind_some, if_pos rfl, hr k hk]
  cases l with
  | nil => exact ⟨q, hf q fun k _ => rfl, q2, q3, q4, fun h => absurd rfl h⟩
  | cons x l =>
    obtain ⟨⟨h1, h2, h3⟩, hn⟩ := h
    rw [tot_cons] at ht
    have lq := alt_len q3
    have lx := alt_len (hn x (by simp))
    have nl : (ats q).length = n := by rw [q4, List.length_replicate]
    have oq : outs (ats q) = n := by rw [q4, outs_K]
    obtain ⟨r, c1, c2, c3, c4, c5⟩ := comp_A q2 h1 (by omega) (by omega) (by omega) (by omega) (by rw [oq, h2])
    have e : ats r = ats x := by rw [c4, q4]; conv => lhs; rw [← h2]
                                 exact comp_keep _
    obtain rfl : r = x := alt_uniq c2 h1 c3 (hn x (by simp)) e
    obtain ⟨p, d1, d2, d3, d4, d5⟩ := fuse_l l r h1 (hn r (by simp)) h3 (fun y hy => hn y (by simp [hy])) (by omega)
    refine ⟨p, hf p fun k hk => ?_, d2, d3, ?_, fun _ => by rw [lens_cons]; exact d5⟩
    · rw [fuse_Of.l, c1 k (by omega), Option.bind_some, if_pos rfl, d1 k hk]
    · rw [d4, cmps, List.foldl_cons, ← q4, ← c4]
theorem ch_drop : ∀ {l : List (List S25)} {n : Nat}, ch n l → ∀ a, a ≤ l.length → ch (sz n l a) (l.drop a)
 | [], n, _, a, ha => by
  obtain rfl : a = 0 := by simpa using ha
  exact trivial
 | x :: l, n, h, 0, _ => h
 | x :: l, n, ⟨_, _, h⟩, a + 1, ha => ch_drop h a (by simpa using ha)
theorem ch_take : ∀ {l : List (List S25)} {n : Nat}, ch n l → ∀ a, ch n (l.take a)
 | [], n, _, a => by rw [List.take_nil]; trivial
 | x :: l, n, h, 0 => trivial
 | x :: l, n, ⟨h1, h2, h⟩, a + 1 => ⟨h1, h2, ch_take h a⟩
theorem sz_le : ∀ (l : List (List S25)) (n a : Nat), a ≤ l.length → sz n l a + tot (l.drop a) ≤ n + tot l
 | [], n, a, ha => by
  obtain rfl : a = 0 := by simpa using ha
  exact Nat.le_refl _
 | x :: l, n, 0, _ => Nat.le_refl _
 | x :: l, n, a + 1, ha => by
  have := sz_le l (outs (ats x)) a (by simpa using ha)
  have := outs_le (ats x)
  rw [tot_cons]
  show sz (outs (ats x)) l a + tot (l.drop a) ≤ _
  omega
theorem tot_take : ∀ (l : List (List S25)) (a : Nat), tot (l.take a) ≤ tot l
 | [], a => by rw [List.take_nil]; exact Nat.le_refl _
 | x :: l, 0 => Nat.zero_le _
 | x :: l, a + 1 => by have := tot_take l a; rw [List.take_succ_cons, tot_cons, tot_cons]; omega
theorem sz_take : ∀ (l : List (List S25)) (n a t : Nat), a ≤ t → t ≤ l.length → sz n (l.take t) a = sz n l a
 | _, _, 0, _, _, _ => by unfold sz; rfl
 | [], n, a + 1, t, h1, h2 => by simp at h2; omega
 | x :: l, n, a + 1, 0, h1, _ => by omega
 | x :: l, n, a + 1, t + 1, h1, h2 => sz_take l _ a t (by omega) (by simpa using h2)
theorem hs_part {n : Nat} {l : List (List S25)} (h : hs n l) {a t : Nat} (hat : a ≤ t) (htl : t ≤ l.length) : hs (sz n l a) ((l.take t).drop a) := by
 have h1 := ch_drop (ch_take h.1 t) a (by rw [List.length_take]; omega)
 rw [sz_take l n a t hat htl] at h1
 exact ⟨h1, fun x hx => h.2 x (List.mem_of_mem_take (List.mem_of_mem_drop hx))⟩
theorem tot_part {n : Nat} {l : List (List S25)} {a t : Nat} (hat : a ≤ t) (htl : t ≤ l.length) : sz n l a + tot ((l.take t).drop a) ≤ n + tot l := by
 have h1 := sz_le (l.take t) n a (by rw [List.length_take]; omega)
 rw [sz_take l n a t hat htl] at h1
 have := tot_take l t
 omega
theorem alt_get : ∀ {l : List S25}, Alt l → ∀ (i : Nat) (h : i + 1 < l.length), (l[i]'(by omega)).f0 ≠ l[i + 1].f0
 | [], _, _, h => by simp at h
 | [x], _, i, h => by simp at h
 | x :: y :: l, ⟨_, h2, _⟩, 0, _ => h2 y l rfl
 | x :: y :: l, ⟨_, _, h3⟩, i + 1, h => by
  have := alt_get h3 i (by simpa using h)
  simpa using this
theorem is_A {l : List S25} (hw : W l) (ha : Alt l) (hl : l.length ≤ 1000000) (k : Nat) (hk : l.length + 1 ≤ k) : normal_Is.f k l = some true := by
 have go : ∀ (d i k : Nat), l.length - i = d → i ≤ l.length → d + 1 ≤ k → normal_Is.l0 k l l (l.length : Int) (i : Int) = some true := by
  intro d
  induction d with
  | zero =>
   intro i k hd hi hk
   obtain ⟨k, rfl⟩ : ∃ j, k = j + 1 := ⟨k - 1, by omega⟩
   rw [normal_Is.l0, if_neg (by omega)]
  | succ d ih =>
   intro i k hd hi hk
   obtain ⟨k, rfl⟩ : ∃ j, k = j + 1 := ⟨k - 1, by omega⟩
   have hm : l[i] ∈ l := List.getElem_mem _
   have hne := alt_ne ha _ hm
   have he : normal_empty.f l[i].f0 l[i].f1 l[i].f2 = some false := by
    have : normal_Of.e l[i] = false := by
     cases c : normal_Of.e l[i] with
     | false => rfl
     | true => exact absurd ((e_iff (hw _ hm)).1 c) hne
    unfold normal_Of.e at this
    unfold normal_empty.f
    by_cases c : l[i].f1 = 0
    ·rw [if_pos c]; rw [decide_eq_true c, Bool.true_and] at this; rw [this]
    ·rw [if_neg c]
   have next := ih (i + 1) k (by omega) (by omega) (by omega)
   rw [normal_Is.l0, if_pos (by omega), if_pos (by omega), if_pos (by omega), rd_at l i (by omega), he, Option.bind_some, if_neg (by decide), w64 (x := (i : Int) + 1) (by omega) (by omega), show (i : Int) + 1 = ((i + 1 : Nat) : Int) by omega]
   by_cases c : 0 < i
   ·have e1 : Aside0 (wrap64 ((i : Int) - 1) = ((i - 1 : Nat) : Int)) := ⟨by rw [w64 (by omega) (by omega)]; omega⟩
    have hg := alt_get ha (i - 1) (by omega)
    have e2 : l[i - 1 + 1]'(by omega) = l[i] := by congr 1; omega
    rw [e2] at hg
    rw [if_pos (by omega), e1.out, if_pos (by omega), if_pos (by omega), rd_at l (i - 1) (by omega), if_neg (fun e => hg e.symm)]
    exact next
   ·rw [if_neg (by omega)]
    exact next
 exact go l.length 0 k rfl (Nat.zero_le _) hk
def szs (l : List (List S25)) : List Int := l.map fun x => (outs (ats x) : Int)
theorem rd_cons (x : Int) (l : List Int) (i : Nat) : rd (x :: l) ((i + 1 : Nat) : Int) = rd l (i : Int) := by unfold rd; rw [Int.toNat_natCast, Int.toNat_natCast]; rfl
theorem rd_sz : ∀ (l : List (List S25)) (n a : Nat), a ≤ l.length → rd ((n : Int) :: szs l) (a : Int) = (sz n l a : Int)
 | l, n, 0, _ => by unfold sz; rfl
 | [], n, a + 1, h => by simp at h
 | x :: l, n, a + 1, h => by
  rw [rd_cons]
  exact rd_sz l _ a (by simpa using h)
theorem sizes_l (k : Nat) (hk : 1000005 ≤ k) : ∀ (l : List (List S25)) (n : Nat) (out : List Int), ch n l → (∀ x ∈ l, Alt x) → tot l ≤ 400000 → chain_sizes.l k (n : Int) l out = some (out ++ szs l)
 | [], n, out, _, _, _ => by rw [chain_sizes.l]; simp [szs]
 | x :: l, n, out, ⟨h1, h2, h3⟩, hn, ht => by
  rw [tot_cons] at ht
  have hx := hn x (by simp)
  have lx := alt_len hx
  have ol := outs_le (ats x)
  rw [chain_sizes.l, may_A h1 (by omega) (by omega) k (by omega), Option.bind_some, if_pos rfl, in_A h1 (by omega) (by omega), Option.bind_some, if_pos (by omega), out_A h1 (by omega) (by omega), Option.bind_some, if_pos (by omega), is_A h1 hx (by omega) k (by omega), Option.bind_some, if_pos rfl,
   sizes_l k hk l _ _ h3 (fun y hy => hn y (by simp [hy])) (by omega), List.append_assoc]
  rfl
def rise (R : List Int) : Prop := R.Pairwise (· < ·) ∧ ∀ x ∈ R, 0 ≤ x ∧ x ≤ 268435455
theorem putRow_l : ∀ (l : List Int) (was : Int) (out : List Int), l.Pairwise (· < ·) → (∀ x ∈ l, was < x ∧ x ≤ 268435455) → (snap_PutRow.l was out l).2 = 0
 | [], _, _, _, _ => rfl
 | x :: l, was, out, hp, h => by
  obtain ⟨p1, p2⟩ := List.pairwise_cons.1 hp
  have hx := h x (by simp)
  rw [snap_PutRow.l, if_neg (by omega)]
  exact putRow_l l x _ p2 fun y hy => ⟨p1 y hy, (h y (by simp [hy])).2⟩
theorem putRow_A {R : List Int} (h : rise R) (h0 : R ≠ []) (hl : R.length ≤ 65536) : ∃ r, snap_PutRow.f R = some (r, 0) := by
 have e : R.length ≠ 0 := fun e => h0 (List.length_eq_zero_iff.1 e)
 refine ⟨(snap_PutRow.l (-1) (number_Put.l 3 R.length []) R).1, ?_⟩
 unfold snap_PutRow.f
 rw [if_neg (by omega)]
 have := putRow_l R (-1) (number_Put.l 3 R.length []) h.1 fun x hx => by have := h.2 x hx; omega
 rw [← this]
structure LogOk (b : List Int) (R : List Int) (segs : List (List S25)) : Prop where
 rb : Runes b
 hs : hs b.length segs
 ri : rise R
 ln : R.length = segs.length + 1
 tt : b.length + tot segs ≤ 400000
 sl : segs.length ≤ 60000
theorem sizes_A {b R : List Int} {segs : List (List S25)} (h : LogOk b R segs) (k : Nat) (hk : 1000005 ≤ k) : chain_sizes.f k (enc b) R segs = some ((b.length : Int) :: szs segs, 0) := by
 have := h.tt
 have := h.sl
 have := h.ln
 have := enc_sz (t := b) (by omega)
 obtain ⟨r, hr⟩ := putRow_A h.ri (fun e => by have := h.ln; rw [e] at this; simp at this) (by omega)
 unfold chain_sizes.f
 rw [if_pos (by omega), count_big h.rb (by omega), Option.bind_some, if_pos (by omega), hr, Option.bind_some, if_pos ⟨rfl, h.ln⟩, sizes_l k hk segs _ _ h.hs.1 h.hs.2 (by omega)]
 rfl
def app : List At → List Int → List Int
 | .I c :: l, t => c :: app l t
 | .K :: l, c :: t => c :: app l t
 | .D :: l, _ :: t => app l t
 | _, _ => []
theorem app_I (t s : List Int) (l : List At) : app (t.map At.I ++ l) s = t ++ app l s := by
 induction t with
 | nil => rfl
 | cons c t ih => rw [List.map_cons, List.cons_append, app, ih]; rfl
theorem app_K (l : List At) : ∀ (n : Nat) (s : List Int), n ≤ s.length → app (List.replicate n At.K ++ l) s = s.take n ++ app l (s.drop n)
 | 0, s, _ => by simp
 | n + 1, [], h => by simp at h
 | n + 1, c :: s, h => by rw [List.replicate_succ, List.cons_append, app, app_K l n s (by simpa using h)]; rfl
theorem app_D (l : List At) : ∀ (n : Nat) (s : List Int), n ≤ s.length → app (List.replicate n At.D ++ l) s = app l (s.drop n)
 | 0, s, _ => by simp
 | n + 1, [], h => by simp at h
 | n + 1, c :: s, h => by rw [List.replicate_succ, List.cons_append, app, app_D l n s (by simpa using h)]; rfl
theorem app_len : ∀ (l : List At) (s : List Int), ins l = s.length → (app l s).length = outs l
 | [], s, _ => by rw [app]; rfl; all_goals (intros; simp_all)
 | .I c :: l, s, h => by rw [app, List.length_cons, outs_cons, app_len l s (by rw [ins_cons] at h; simpa [At.i] using h)]; simp [At.o]; omega
 | .K :: l, [], h => by rw [ins_cons] at h; simp [At.i] at h
 | .K :: l, c :: s, h => by rw [app, List.length_cons, outs_cons, app_len l s (by rw [ins_cons, List.length_cons] at h; simp only [At.i] at h; omega)]; simp [At.o]; omega
 | .D :: l, [], h => by rw [ins_cons] at h; simp [At.i] at h
 | .D :: l, c :: s, h => by rw [app, outs_cons, app_len l s (by rw [ins_cons, List.length_cons] at h; simp only [At.i] at h; omega)]; simp [At.o]
theorem to_l : ∀ (a : List S25) (rest out : List Int), W a → ins (ats a) = rest.length → Runes rest → Runes out → out.length + rest.length + (ats a).length ≤ 900000 → apply_To.l a rest out = some (out ++ app (ats a) rest) ∧ Runes (out ++ app (ats a) rest)
 | [], rest, out, _, h, _, ho, _ => by
  obtain rfl : rest = [] := List.length_eq_zero_iff.1 h.symm
  rw [apply_To.l, ats_nil, show app [] [] = [] from by rw [app]; all_goals (intros; simp_all)]
  simpa using ho
 | x :: a, rest, out, hw, h, hr, ho, hb => by
  obtain ⟨w1, w2⟩ := W_cons.1 hw
  rw [ats_cons, ins_app] at h
  rw [ats_cons, List.length_append] at hb
  rcases okA_cases w1 with ⟨n, rfl⟩ | ⟨n, rfl⟩ | ⟨t, ht, rfl⟩
  ·rw [at1_K, Int.toNat_natCast, List.length_replicate] at hb
   rw [at1_K, Int.toNat_natCast, ins_K] at h
   obtain ⟨i1, i2⟩ := to_l a (rest.drop n) (out ++ rest.take n) w2 (by rw [List.length_drop]; omega) (hr.drop n) (ho.append (hr.take n)) (by rw [List.length_append, List.length_take, List.length_drop]; omega)
   rw [apply_To.l, ats_cons, at1_K, Int.toNat_natCast, app_K _ n rest (by omega), ← List.append_assoc]
   simp only [emp_size, Int.toNat_natCast]
   rw [if_pos (by omega), if_neg (by decide), if_pos trivial]
   exact ⟨i1, i2⟩
  ·rw [at1_D, Int.toNat_natCast, List.length_replicate] at hb
   rw [at1_D, Int.toNat_natCast, ins_D] at h
   obtain ⟨i1, i2⟩ := to_l a (rest.drop n) out w2 (by rw [List.length_drop]; omega) (hr.drop n) ho (by rw [List.length_drop]; omega)
   rw [apply_To.l, ats_cons, at1_D, Int.toNat_natCast, app_D _ n rest (by omega)]
   simp only [emp_size, Int.toNat_natCast]
   rw [if_pos (by omega), if_neg (by decide), if_neg (by decide)]
   exact ⟨i1, i2⟩
  ·rw [at1_I 0 ht, List.length_map] at hb
   rw [at1_I 0 ht, ins_I] at h
   have hz := enc_sz (t := t) (by omega)
   obtain ⟨i1, i2⟩ := to_l a rest (out ++ t) w2 (by omega) hr (ho.append ht) (by rw [List.length_append]; omega)
   rw [apply_To.l, ats_cons, at1_I 0 ht, app_I, ← List.append_assoc]
   simp only [Int.toNat_zero, List.drop_zero]
   rw [if_pos (by omega), if_pos trivial, runes_enc ht]
   exact ⟨i1, i2⟩
theorem to_A {a : List S25} {s : List Int} (hw : W a) (hl : a.length ≤ 400000) (hi : ins (ats a) = s.length) (hr : Runes s) (hb : s.length + (ats a).length ≤ 900000) (k : Nat) (hk : 1000005 ≤ k) : apply_To.f k a (enc s) = some (enc (app (ats a) s), 0) ∧ Runes (app (ats a) s) := by
 obtain ⟨h1, h2⟩ := to_l a s [] hw hi hr (fun _ h => by cases h) (by simpa using hb)
 rw [List.nil_append] at h1 h2
 have hz := enc_sz (t := s) (by omega)
 refine ⟨?_, h2⟩
 unfold apply_To.f
 rw [may_A hw (by omega) (by omega) k (by omega), Option.bind_some, if_pos rfl, count_big hr (by omega), Option.bind_some, if_neg (by omega), in_A hw (by omega) (by omega), Option.bind_some, if_pos (by omega), if_pos (by omega), runes_enc hr, h1, Option.bind_some, runesBytes_enc h2]
def txs (s : List Int) (l : List (List S25)) : List Int := l.foldl (fun t x => app (ats x) t) s
theorem txs_len : ∀ (l : List (List S25)) (s : List Int), ch s.length l → (txs s l).length = sz s.length l l.length
 | [], s, _ => rfl
 | x :: l, s, ⟨h1, h2, h3⟩ => by
  have e := app_len (ats x) s h2
  rw [← e] at h3
  have := txs_len l (app (ats x) s) h3
  rw [e] at this
  exact this
theorem all_A {s : List Int} {l : List (List S25)} (h : hs s.length l) (hr : Runes s) (ht : s.length + tot l ≤ 400000) (hl : l.length ≤ 60000) (k : Nat) (hk : 1100010 ≤ k) : apply_All.f k (enc s) l = some (enc (txs s l), 0) ∧ Runes (txs s l) := by
 have go : ∀ (d i k : Nat) (t : List Int), l.length - i = d → i ≤ l.length → 1000005 + d ≤ k → ch t.length (l.drop i) → Runes t → t.length + tot (l.drop i) ≤ 400000 → apply_All.l0 k (enc t) l (l.length : Int) (i : Int) = some (enc (txs t (l.drop i)), 0) ∧ Runes (txs t (l.drop i)) := by
  intro d
  induction d with
  | zero =>
   intro i k t hd hi hk hc hrt ht
   obtain ⟨k, rfl⟩ : ∃ j, k = j + 1 := ⟨k - 1, by omega⟩
   rw [apply_All.l0, if_neg (by omega), List.drop_of_length_le (by omega)]
   exact ⟨rfl, hrt⟩
  | succ d ih =>
   intro i k t hd hi hk hc hrt ht
   obtain ⟨k, rfl⟩ : ∃ j, k = j + 1 := ⟨k - 1, by omega⟩
   have hm : l[i] ∈ l := List.getElem_mem _
   rw [List.drop_eq_getElem_cons (show i < l.length by omega)] at hc ht ⊢
   obtain ⟨c1, c2, c3⟩ := hc
   rw [tot_cons] at ht
   have la := alt_len (h.2 _ hm)
   obtain ⟨a1, a2⟩ := to_A c1 (by omega) c2 hrt (by omega) k (by omega)
   have al := app_len (ats l[i]) t c2
   have ol := outs_le (ats l[i])
   obtain ⟨i1, i2⟩ := ih (i + 1) k (app (ats l[i]) t) (by omega) (by omega) (by omega) (by rw [al]; exact c3) a2 (by omega)
   rw [apply_All.l0, if_pos (by omega), if_pos (by omega), if_pos (by omega), rdL_at l i (by omega), a1, Option.bind_some, if_pos rfl, w64 (by omega) (by omega), show (i : Int) + 1 = ((i + 1 : Nat) : Int) by omega]
   exact ⟨i1, i2⟩
 obtain ⟨k, rfl⟩ : ∃ j, k = j + 1 := ⟨k - 1, by omega⟩
 obtain ⟨g1, g2⟩ := go l.length 0 k s rfl (Nat.zero_le _) (by omega) h.1 hr ht
 have hz := enc_sz (t := s) (by omega)
 rw [List.drop_zero] at g1 g2
 refine ⟨?_, g2⟩
 have e : apply_All.j0 (k + 1) (enc s) l false = some (enc (txs s l), 0) := by rw [apply_All.j0, if_neg (by decide)]; exact g1
 unfold apply_All.f
 split
 ·rw [valid_big hr (by omega), Option.bind_some]; exact e
 ·exact e
theorem at_A {b R : List Int} {segs : List (List S25)} (h : LogOk b R segs) (i : Nat) (hi : i ≤ segs.length) (k : Nat) (hk : 1100010 ≤ k) : chain_At.f k (enc b) R segs (i : Int) = some (enc (txs b (segs.take i)), 0) ∧ Runes (txs b (segs.take i)) := by
 have := h.tt
 have := h.sl
 have := tot_take segs i
 obtain ⟨a1, a2⟩ := all_A (s := b) (l := segs.take i) ⟨ch_take h.hs.1 i, fun x hx => h.hs.2 x (List.mem_of_mem_take hx)⟩ h.rb (by omega) (by rw [List.length_take]; omega) k hk
 refine ⟨?_, a2⟩
 unfold chain_At.f chain_May.f
 rw [sizes_A h k (by omega), Option.bind_some, Option.bind_some, if_pos rfl, if_neg (by omega), if_neg (by omega), if_pos (by omega), if_pos (by omega), Int.toNat_natCast, a1]
 rfl
theorem rdI_at (l : List Int) (i : Nat) (h : i < l.length) : rd l (i : Int) = l[i] := by
 unfold rd; rw [Int.toNat_natCast, List.getD_eq_getElem?_getD, List.getElem?_eq_getElem h]; rfl
theorem rise_lt {R : List Int} (h : rise R) {i j : Nat} (hi : i < R.length) (hj : j < R.length) : R[i] < R[j] ↔ i < j := by
 constructor
 ·intro hlt
  by_cases c : i < j
  ·exact c
  ·rcases (by omega : i = j ∨ j < i) with rfl | c
   ·omega
   ·have := List.pairwise_iff_getElem.1 h.1 j i hj hi c; omega
 ·exact fun hlt => List.pairwise_iff_getElem.1 h.1 i j hi hj hlt
theorem rise_inj {R : List Int} (h : rise R) {i j : Nat} (hi : i < R.length) (hj : j < R.length) (e : R[i] = R[j]) : i = j := by
 have h1 := rise_lt h hi hj
 have h2 := rise_lt h hj hi
 omega
theorem floor_A (R : List Int) (hr : rise R) (fl : Int) (h0 : R ≠ []) (hl : R.length ≤ 70000) : ∃ a : Nat, (∀ k, R.length + 2 ≤ k → keep_Floor.f k R fl = some (a : Int)) ∧ ∃ h : a < R.length, (a = 0 ∨ R[a] ≤ fl) ∧ (∀ h1 : a + 1 < R.length, fl < R[a + 1]) := by
 have h1 : 0 < R.length := by cases R with | nil => exact absurd rfl h0 | cons => simp
 have go : ∀ (d i p : Nat), R.length - i = d → i ≤ R.length → 0 < i → p + 1 = i → (p = 0 ∨ ∃ h : p < R.length, R[p] ≤ fl) → ∃ a : Nat, (∀ k, d + 1 ≤ k → keep_Floor.l0 k fl (p : Int) R (R.length : Int) (i : Int) = some (a : Int)) ∧ ∃ h : a < R.length, (a = 0 ∨ R[a] ≤ fl) ∧ (∀ h1 : a + 1 < R.length, fl < R[a + 1]) := by
  intro d
  induction d with
  | zero =>
   intro i p hd hi hi0 hp hpr
   refine ⟨p, fun k hk => ?_, by omega, ?_, fun h => by omega⟩
   ·obtain ⟨k, rfl⟩ : ∃ j, k = j + 1 := ⟨k - 1, by omega⟩
    rw [keep_Floor.l0, if_neg (by omega)]
   ·rcases hpr with h | ⟨_, h⟩
    ·exact .inl h
    ·exact .inr h
  | succ d ih =>
   intro i p hd hi hi0 hp hpr
   by_cases c : R[i] > fl
   ·refine ⟨p, fun k hk => ?_, by omega, ?_, fun h => ?_⟩
    ·obtain ⟨k, rfl⟩ : ∃ j, k = j + 1 := ⟨k - 1, by omega⟩
     rw [keep_Floor.l0, if_pos (by omega), if_pos (by omega), if_pos (by omega), rdI_at R i (by omega), if_pos c]
    ·rcases hpr with h | ⟨_, h⟩
     ·exact .inl h
     ·exact .inr h
    ·subst hp; exact c
   ·have hil : i < R.length := by clear c hpr; omega
    have e1 : R.length - (i + 1) = d := by clear c hpr; omega
    obtain ⟨a, a1, a2⟩ := ih (i + 1) i e1 hil (Nat.succ_pos i) rfl (.inr ⟨hil, Int.not_lt.1 c⟩)
    refine ⟨a, fun k hk => ?_, a2⟩
    obtain ⟨k, rfl⟩ : ∃ j, k = j + 1 := ⟨k - 1, by omega⟩
    rw [keep_Floor.l0, if_pos (by omega), if_pos (by omega), if_pos (by omega), rdI_at R i (by omega), if_neg c, w64 (by omega) (by omega), show (i : Int) + 1 = ((i + 1 : Nat) : Int) by omega]
    exact a1 k (by omega)
 by_cases c : R[0] > fl
 ·refine ⟨0, fun k hk => ?_, h1, .inl rfl, fun h => by have := (rise_lt hr h1 h).2 (by omega); omega⟩
  obtain ⟨k, rfl⟩ : ∃ j, k = j + 1 := ⟨k - 1, by omega⟩
  unfold keep_Floor.f
  rw [keep_Floor.l0, if_pos (by omega), if_pos (by omega), if_pos (by omega), show (0 : Int) = ((0 : Nat) : Int) from rfl, rdI_at R 0 h1, if_pos c]
 ·obtain ⟨a, a1, h, a2, a3⟩ := go (R.length - 1) 1 0 rfl (by omega) (by omega) rfl (.inl rfl)
  refine ⟨a, fun k hk => ?_, h, a2, a3⟩
  obtain ⟨k, rfl⟩ : ∃ j, k = j + 1 := ⟨k - 1, by omega⟩
  unfold keep_Floor.f
  rw [keep_Floor.l0, if_pos (by omega), if_pos (by omega), if_pos (by omega), show (0 : Int) = ((0 : Nat) : Int) from rfl, rdI_at R 0 h1, if_neg c, show wrap64 (((0 : Nat) : Int) + 1) = ((1 : Nat) : Int) by simp [wrap64]]
  exact a1 k (by omega)
theorem to_at {R : List Int} (h : rise R) : ∀ (d i j : Nat) (hj : j < R.length), j - i = d → i ≤ j → compact_Of.to R[j] (R.drop i) i = some j := by
 intro d
 induction d with
 | zero =>
  intro i j hj hd hi
  obtain rfl : i = j := by omega
  rw [List.drop_eq_getElem_cons hj, compact_Of.to, if_pos rfl]
 | succ d ih =>
  intro i j hj hd hi
  rw [List.drop_eq_getElem_cons (show i < R.length by omega), compact_Of.to, if_neg (fun e => by have := rise_inj h _ _ e; omega), ih (i + 1) j hj (by omega) (by omega)]
theorem filter_next (p : Int → Bool) (R : List Int) : ∀ (d i : Nat), R.length - i = d → (R.drop i).filter p = [] ∧ (∀ j (h : j < R.length), i ≤ j → p R[j] = false) ∨ ∃ t, ∃ h : t < R.length, i ≤ t ∧ p R[t] = true ∧ (R.drop i).filter p = R[t] :: (R.drop (t + 1)).filter p ∧ ∀ j (h : j < R.length), i ≤ j → j < t → p R[j] = false := by
 intro d
 induction d with
 | zero => intro i hd; exact .inl ⟨by rw [List.drop_of_length_le (by omega)]; rfl, fun j h hi => by omega⟩
 | succ d ih =>
  intro i hd
  have hi : i < R.length := by omega
  by_cases c : p R[i] = true
  ·exact .inr ⟨i, hi, Nat.le_refl _, c, by rw [List.drop_eq_getElem_cons hi, List.filter_cons, if_pos c], fun j _ h1 h2 => by omega⟩
  ·have e : (R.drop i).filter p = (R.drop (i + 1)).filter p := by rw [List.drop_eq_getElem_cons hi, List.filter_cons, if_neg c]
   have cf : p R[i] = false := by simpa using c
   rcases ih (i + 1) (by omega) with ⟨h1, h2⟩ | ⟨t, ht, h1, h2, h3, h4⟩
   ·refine .inl ⟨by rw [e, h1], fun j hj hij => ?_⟩
    by_cases z : j = i
    ·subst z; exact cf
    ·exact h2 j hj (by omega)
   ·refine .inr ⟨t, ht, by omega, h2, by rw [e, h3], fun j hj hij hjt => ?_⟩
    by_cases z : j = i
    ·subst z; exact cf
    ·exact h4 j hj (by omega) hjt
def CP (n : Nat) (R : List Int) (segs : List (List S25)) : Nat → List Int → List (List S25) → Prop
 | a, [], [] => a = segs.length
 | a, y :: ys, o :: os => ∃ t, a < t ∧ t ≤ segs.length ∧ R[t]? = some y ∧ W o ∧ Alt o ∧ ats o = cmps (sz n segs a) ((segs.take t).drop a) ∧ o.length ≤ lens ((segs.take t).drop a) ∧ (ats o).length ≤ 400000 ∧ CP n R segs t ys os
 | _, _, _ => False
theorem CP_len {n : Nat} {R : List Int} {segs : List (List S25)} : ∀ (ys : List Int) (os : List (List S25)) (a : Nat), CP n R segs a ys os → os.length = ys.length
 | [], [], _, _ => rfl
 | y :: ys, o :: os, a, ⟨t, _, _, _, _, _, _, _, _, h⟩ => by rw [List.length_cons, List.length_cons, CP_len ys os t h]
theorem compact_l {b R : List Int} {segs : List (List S25)} (h : LogOk b R segs) (p : Int → Bool) (hp : ∀ j (hj : j < R.length), j + 1 = R.length → p R[j] = true) (k : Nat) (hk : 1000005 ≤ k) : ∀ (d a : Nat), R.length - a = d → a < R.length →
  ∃ os, compact_Of.l k ((b.length : Int) :: szs segs) R segs a ((R.drop (a + 1)).filter p) = some os ∧ CP b.length R segs a ((R.drop (a + 1)).filter p) os := by
 intro d
 have hln := h.ln
 have htt := h.tt
 have hsl := h.sl
 induction d using Nat.strongRecOn with
 | _ d ih =>
  intro a hd ha
  rcases filter_next p R _ (a + 1) rfl with ⟨e, hno⟩ | ⟨t, ht, h1, h2, e, _⟩
  ·rw [e]
   refine ⟨[], rfl, ?_⟩
   by_cases c : a + 1 = R.length
   ·show a = segs.length; omega
   ·have e1 := hno (R.length - 1) (by omega) (by omega)
    rw [hp (R.length - 1) (by omega) (by omega)] at e1
    cases e1
  ·obtain ⟨os, o1, o2⟩ := ih (R.length - t) (by omega) t rfl ht
   have ta := tot_part (n := b.length) (l := segs) (a := a) (t := t) (by omega) (by omega)
   obtain ⟨r, f1, f2, f3, f4, f5⟩ := fuse_A (hs_part h.hs (a := a) (t := t) (by omega) (by omega)) (by rw [List.length_drop, List.length_take]; omega) (by omega)
   have hne : (segs.take t).drop a ≠ [] := fun e => by have := congrArg List.length e; rw [List.length_drop, List.length_take, List.length_nil] at this; omega
   rw [e]
   refine ⟨r :: os, ?_, t, by omega, by omega, List.getElem?_eq_getElem ht, f2, f3, f4, f5 hne, by rw [f4]; have := (cmps_len (hs_part h.hs (a := a) (t := t) (by omega) (by omega)).1).1; omega, o2⟩
   rw [compact_Of.l, to_at h.ri _ a t ht rfl (by omega), Option.bind_some, if_pos ⟨by omega, by rw [List.length_cons, szs, List.length_map]; omega⟩, rd_sz segs _ a (by omega), f1 k (by omega), Option.bind_some, if_pos rfl, o1]
   rfl
theorem compact_A {b R : List Int} {segs : List (List S25)} (h : LogOk b R segs) (set : List Int) (fl : Int) (hset : ∀ x ∈ set, i64ok x) (hl : set.length ≤ 60000) (k : Nat) (hk : 1100010 ≤ k) :
  ∃ a : Nat, ∃ ha : a < R.length, ∃ os, (∀ k, R.length + 2 ≤ k → keep_Floor.f k R fl = some (a : Int)) ∧ (a = 0 ∨ R[a] ≤ fl) ∧ (∀ h1 : a + 1 < R.length, fl < R[a + 1]) ∧
   compact_Of.f k (enc b) R segs set fl = some (enc (txs b (segs.take a)), R[a] :: (R.drop (a + 1)).filter (keep_Of.p (R.drop a) set), os, 0) ∧ Runes (txs b (segs.take a)) ∧ CP b.length R segs a ((R.drop (a + 1)).filter (keep_Of.p (R.drop a) set)) os := by
 have hln := h.ln
 have hsl := h.sl
 obtain ⟨a, f1, ha, f2, f3⟩ := floor_A R h.ri fl (fun e => by rw [e] at hln; simp at hln) (by omega)
 have hp : ∀ j (hj : j < R.length), j + 1 = R.length → keep_Of.p (R.drop a) set R[j] = true := by
  intro j hj e
  have hd : (R.drop a).length = j - a + 1 := by rw [List.length_drop]; omega
  have : rd (R.drop a) (((R.drop a).length : Int) - 1) = R[j] := by
   rw [hd, show ((j - a + 1 : Nat) : Int) - 1 = ((j - a : Nat) : Int) by omega, rdI_at _ _ (by omega), List.getElem_drop]
   congr 1; omega
  unfold keep_Of.p
  rw [this]; simp
 obtain ⟨os, c1, c2⟩ := compact_l h (keep_Of.p (R.drop a) set) hp k (by omega) _ a rfl ha
 obtain ⟨a1, a2⟩ := at_A h a (by omega) k hk
 refine ⟨a, ha, os, f1, f2, f3, ?_, a2, c2⟩
 have e0 : rd (R.drop a) 0 = R[a] := by rw [List.drop_eq_getElem_cons ha]; rfl
 have ek : (R.drop a).filter (keep_Of.p (R.drop a) set) = R[a] :: (R.drop (a + 1)).filter (keep_Of.p (R.drop a) set) := by
  conv => lhs; arg 2; rw [List.drop_eq_getElem_cons ha]
  rw [List.filter_cons, if_pos]
  unfold keep_Of.p
  rw [e0]; simp
 have ho : ∀ x ∈ R, i64ok x := fun x hx => by have := h.ri.2 x hx; unfold i64ok; omega
 unfold compact_Of.f
 rw [if_pos ⟨by omega, by omega⟩]
 unfold chain_Sizes.f
 rw [sizes_A h k (by omega), Option.bind_some, Option.bind_some, if_pos rfl, f1 k (by omega), Option.bind_some, a1, Option.bind_some, if_pos rfl]
 unfold keep_Of.f
 rw [f1 k (by omega), Option.bind_some, if_pos ⟨by omega, by omega, by omega, by omega, ho, hset⟩, Option.bind_some, Int.toNat_natCast, ek]
 have hfl := List.length_filter_le (keep_Of.p (R.drop a) set) (R.drop (a + 1))
 rw [List.length_drop] at hfl
 rw [if_pos ⟨by omega, by simp, by rw [List.length_cons]; omega⟩]
 show ((compact_Of.l k ((b.length : Int) :: szs segs) R segs a ((R.drop (a + 1)).filter (keep_Of.p (R.drop a) set))).bind _) = _
 rw [c1]
 rfl
theorem revs_at (m i : Nat) (h : i < (revs m).length) : (revs m)[i] = (i : Int) := by simp [revs]
theorem revs_rise (m : Nat) (hm : m ≤ 100000) : rise (revs m) := by
 refine ⟨List.pairwise_iff_getElem.2 fun i j hi hj hij => by rw [revs_at, revs_at]; omega, fun x hx => ?_⟩
 obtain ⟨i, hi, rfl⟩ := List.getElem_of_mem hx
 rw [revs_at]
 rw [revs_len] at hi
 omega
theorem same_A (l : List S25) (hl : l.length ≤ 1000000) (k : Nat) (hk : l.length + 1 ≤ k) : epitomeref04_Same.f k l l = some true := by
 have go : ∀ (d i k : Nat), l.length - i = d → i ≤ l.length → d + 1 ≤ k → epitomeref04_Same.l0 k l l (i : Int) = some true := by
  intro d
  induction d with
  | zero =>
   intro i k hd hi hk
   obtain ⟨k, rfl⟩ : ∃ j, k = j + 1 := ⟨k - 1, by omega⟩
   rw [epitomeref04_Same.l0, if_neg (by omega)]
  | succ d ih =>
   intro i k hd hi hk
   obtain ⟨k, rfl⟩ : ∃ j, k = j + 1 := ⟨k - 1, by omega⟩
   rw [epitomeref04_Same.l0, if_pos (by omega), if_pos (by omega), if_pos (by omega), if_neg (by simp), w64 (by omega) (by omega), show (i : Int) + 1 = ((i + 1 : Nat) : Int) by omega]
   exact ih (i + 1) k (by omega) (by omega) (by omega)
 unfold epitomeref04_Same.f
 rw [if_pos rfl]
 exact go l.length 0 k rfl (Nat.zero_le _) hk
def ovr (a s : List At) : List At :=
 match a, s with
 | a, .I c :: s => .K :: ovr a s
 | .I c :: a, s => .I c :: ovr a s
 | .K :: a, .K :: s => .K :: ovr a s
 | .D :: a, .K :: s => .D :: ovr a s
 | .K :: a, .D :: s => ovr a s
 | .D :: a, .D :: s => ovr a s
 | _, _ => []
termination_by a.length + s.length
theorem ovr_I (a s : List At) (c : Int) : ovr a (.I c :: s) = .K :: ovr a s := by rw [ovr]
theorem ovr_aI (a s : List At) (c : Int) (h : noI s) : ovr (.I c :: a) s = .I c :: ovr a s := by rw [ovr]; exact fun c l e => h c l e
theorem ovr_KK (a s : List At) : ovr (.K :: a) (.K :: s) = .K :: ovr a s := by rw [ovr]
theorem ovr_DK (a s : List At) : ovr (.D :: a) (.K :: s) = .D :: ovr a s := by rw [ovr]
theorem ovr_KD (a s : List At) : ovr (.K :: a) (.D :: s) = ovr a s := by rw [ovr]
theorem ovr_DD (a s : List At) : ovr (.D :: a) (.D :: s) = ovr a s := by rw [ovr]
theorem ovr_nil : ovr [] [] = [] := by rw [ovr] <;> (intros; simp_all)
theorem ovr_rI (a s : List At) : ∀ t : List Int, ovr a (t.map At.I ++ s) = List.replicate t.length At.K ++ ovr a s
 | [] => rfl
 | c :: t => by rw [List.map_cons, List.cons_append, ovr_I, ovr_rI a s t, List.length_cons, List.replicate_succ]; rfl
theorem ovr_ra (a s : List At) (h : noI s) : ∀ t : List Int, ovr (t.map At.I ++ a) s = t.map At.I ++ ovr a s
 | [] => rfl
 | c :: t => by rw [List.map_cons, List.cons_append, ovr_aI _ _ _ h, ovr_ra a s h t]; rfl
theorem ovr_rKK (a s : List At) : ∀ n : Nat, ovr (List.replicate n At.K ++ a) (List.replicate n At.K ++ s) = List.replicate n At.K ++ ovr a s
 | 0 => rfl
 | n + 1 => by rw [List.replicate_succ, List.cons_append, List.cons_append, ovr_KK, ovr_rKK a s n]; rfl
theorem ovr_rDK (a s : List At) : ∀ n : Nat, ovr (List.replicate n At.D ++ a) (List.replicate n At.K ++ s) = List.replicate n At.D ++ ovr a s
 | 0 => rfl
 | n + 1 => by rw [List.replicate_succ, List.replicate_succ, List.cons_append, List.cons_append, ovr_DK, ovr_rDK a s n]; rfl
theorem ovr_rKD (a s : List At) : ∀ n : Nat, ovr (List.replicate n At.K ++ a) (List.replicate n At.D ++ s) = ovr a s
 | 0 => rfl
 | n + 1 => by rw [List.replicate_succ, List.replicate_succ, List.cons_append, List.cons_append, ovr_KD, ovr_rKD a s n]
theorem ovr_rDD (a s : List At) : ∀ n : Nat, ovr (List.replicate n At.D ++ a) (List.replicate n At.D ++ s) = ovr a s
 | 0 => rfl
 | n + 1 => by rw [List.replicate_succ, List.cons_append, List.cons_append, ovr_DD, ovr_rDD a s n]
theorem noI_or (l : List At) : noI l ∨ ∃ c l', l = .I c :: l' := by
 cases l with
 | nil => exact .inl fun c l' e => by cases e
 | cons x l =>
  cases x with
  | K => exact .inl fun c l' e => by cases e
  | D => exact .inl fun c l' e => by cases e
  | I c => exact .inr ⟨c, l, rfl⟩
theorem ovr_len : ∀ (n : Nat) (a s : List At), a.length + s.length ≤ n → ins a = ins s → ins (ovr a s) = outs s ∧ (ovr a s).length ≤ a.length + s.length ∧ outs (ovr a s) ≤ outs a + outs s
 | 0, a, s, h, _ => by
  obtain rfl : a = [] := List.length_eq_zero_iff.1 (by omega)
  obtain rfl : s = [] := List.length_eq_zero_iff.1 (by omega)
  rw [ovr_nil]; simp [ins, outs]
 | n + 1, a, s, h, hio => by
  rcases noI_or s with c | ⟨c, s', rfl⟩
  ·cases a with
   | nil =>
    cases s with
    | nil => rw [ovr_nil]; simp [ins, outs]
    | cons y s =>
     exfalso
     rw [ins_nil, ins_cons] at hio
     cases y with
     | K => simp only [At.i] at hio; omega
     | D => simp only [At.i] at hio; omega
     | I c' => exact c c' s rfl
   | cons x a =>
    rw [List.length_cons] at h
    cases x with
    | I c' =>
     obtain ⟨h1, h2, h3⟩ := ovr_len n a s (by omega) (by rw [ins_cons] at hio; simpa [At.i] using hio)
     rw [ovr_aI _ _ _ c, ins_cons, outs_cons, outs_cons, h1, List.length_cons, List.length_cons]
     simp only [At.i, At.o, true_and]; omega
    | K =>
     cases s with
     | nil => exfalso; rw [ins_cons, ins_nil] at hio; simp only [At.i] at hio; omega
     | cons y s =>
      rw [List.length_cons] at h
      rw [ins_cons, ins_cons] at hio
      cases y with
      | K =>
       obtain ⟨h1, h2, h3⟩ := ovr_len n a s (by omega) (by simpa [At.i] using hio)
       rw [ovr_KK, ins_cons, outs_cons, outs_cons, outs_cons, h1, List.length_cons, List.length_cons, List.length_cons]
       simp only [At.i, At.o, true_and]; omega
      | D =>
       obtain ⟨h1, h2, h3⟩ := ovr_len n a s (by omega) (by simpa [At.i] using hio)
       rw [ovr_KD, outs_cons, outs_cons, h1, List.length_cons, List.length_cons]
       simp only [At.o]; omega
      | I c' => exact absurd rfl (c c' s)
    | D =>
     cases s with
     | nil => exfalso; rw [ins_cons, ins_nil] at hio; simp only [At.i] at hio; omega
     | cons y s =>
      rw [List.length_cons] at h
      rw [ins_cons, ins_cons] at hio
      cases y with
      | K =>
       obtain ⟨h1, h2, h3⟩ := ovr_len n a s (by omega) (by simpa [At.i] using hio)
       rw [ovr_DK, ins_cons, outs_cons, outs_cons, outs_cons, h1, List.length_cons, List.length_cons, List.length_cons]
       simp only [At.i, At.o, true_and]; omega
      | D =>
       obtain ⟨h1, h2, h3⟩ := ovr_len n a s (by omega) (by simpa [At.i] using hio)
       rw [ovr_DD, outs_cons, outs_cons, h1, List.length_cons, List.length_cons]
       simp only [At.o]; omega
      | I c' => exact absurd rfl (c c' s)
  ·rw [List.length_cons] at h
   rw [ins_cons] at hio
   obtain ⟨h1, h2, h3⟩ := ovr_len n a s' (by omega) (by simpa [At.i] using hio)
   rw [ovr_I, ins_cons, outs_cons, outs_cons, h1, List.length_cons, List.length_cons]
   simp only [At.i, At.o, true_and]; omega
theorem ovr_keep : ∀ (a : List At), ovr a (List.replicate (ins a) At.K) = a
 | [] => ovr_nil
 | .I c :: a => by
  have e : ins (.I c :: a) = ins a := by rw [ins_cons]; simp [At.i]
  rw [e, ovr_aI, ovr_keep a]
  intro c' l' e
  cases hn : ins a with
  | zero => rw [hn] at e; cases e
  | succ n => rw [hn, List.replicate_succ] at e; injection e with e _; cases e
 | .K :: a => by rw [ins_cons]; simp only [At.i]; rw [Nat.add_comm, List.replicate_succ, ovr_KK, ovr_keep a]
 | .D :: a => by rw [ins_cons]; simp only [At.i]; rw [Nat.add_comm, List.replicate_succ, ovr_DK, ovr_keep a]
theorem ovr_comp : ∀ (n : Nat) (a s t : List At), a.length + s.length + t.length ≤ n → ins a = ins s → outs s = ins t → ovr a (comp s t) = ovr (ovr a s) t
 | 0, a, s, t, h, _, _ => by
  obtain rfl : a = [] := List.length_eq_zero_iff.1 (by omega)
  obtain rfl : s = [] := List.length_eq_zero_iff.1 (by omega)
  obtain rfl : t = [] := List.length_eq_zero_iff.1 (by omega)
  rw [comp_nil, ovr_nil, ovr_nil]
 | n + 1, a, s, t, h, has, hst => by
  rcases noI_or t with ct | ⟨c, t, rfl⟩
  ·cases s with
   | nil =>
    cases t with
    | nil =>
     rw [comp_nil]
     have e : ovr a [] = a := by have := ovr_keep a; rw [has] at this; exact this
     rw [e, e]
    | cons y t =>
     exfalso
     rw [outs_nil, ins_cons] at hst
     cases y with
     | K => simp only [At.i] at hst; omega
     | D => simp only [At.i] at hst; omega
     | I c' => exact ct c' t rfl
   | cons x s =>
    rw [List.length_cons] at h
    cases x with
    | D =>
     have nD : ∀ l, noI (At.D :: l) := fun l c l' e => by cases e
     rw [comp_D _ _ ct]
     cases a with
     | nil => exfalso; rw [ins_nil, ins_cons] at has; simp only [At.i] at has; omega
     | cons y a =>
      rw [List.length_cons] at h
      rw [ins_cons, ins_cons] at has
      rw [outs_cons] at hst
      cases y with
      | I c' =>
       have ih := ovr_comp n a (.D :: s) t (by rw [List.length_cons]; omega) (by rw [ins_cons]; simpa [At.i] using has) (by rw [outs_cons]; exact hst)
       rw [comp_D _ _ ct] at ih
       rw [ovr_aI _ _ _ (nD _), ovr_aI _ _ _ (nD _), ovr_aI _ _ _ ct, ih]
      | K => rw [ovr_KD, ovr_KD]; exact ovr_comp n a s t (by omega) (by simpa [At.i] using has) (by simpa [At.o] using hst)
      | D => rw [ovr_DD, ovr_DD]; exact ovr_comp n a s t (by omega) (by simpa [At.i] using has) (by simpa [At.o] using hst)
    | K =>
     have nK : ∀ l, noI (At.K :: l) := fun l c l' e => by cases e
     have nD : ∀ l, noI (At.D :: l) := fun l c l' e => by cases e
     cases t with
     | nil => exfalso; rw [outs_cons, ins_nil] at hst; simp only [At.o] at hst; omega
     | cons z t =>
      rw [List.length_cons] at h
      rw [outs_cons, ins_cons] at hst
      cases a with
      | nil => exfalso; rw [ins_nil, ins_cons] at has; simp only [At.i] at has; omega
      | cons y a =>
       rw [List.length_cons] at h
       rw [ins_cons, ins_cons] at has
       cases z with
       | I c' => exact absurd rfl (ct c' t)
       | K =>
        rw [comp_KK]
        cases y with
        | I c' =>
         have ih := ovr_comp n a (.K :: s) (.K :: t) (by rw [List.length_cons, List.length_cons]; omega) (by rw [ins_cons]; simpa [At.i] using has) (by rw [outs_cons, ins_cons]; exact hst)
         rw [comp_KK] at ih
         rw [ovr_aI _ _ _ (nK _), ovr_aI _ _ _ (nK _), ovr_aI _ _ _ (nK _), ih]
        | K => rw [ovr_KK, ovr_KK, ovr_KK, ovr_comp n a s t (by omega) (by simpa [At.i] using has) (by simpa [At.o, At.i] using hst)]
        | D => rw [ovr_DK, ovr_DK, ovr_DK, ovr_comp n a s t (by omega) (by simpa [At.i] using has) (by simpa [At.o, At.i] using hst)]
       | D =>
        rw [comp_KD]
        cases y with
        | I c' =>
         have ih := ovr_comp n a (.K :: s) (.D :: t) (by rw [List.length_cons, List.length_cons]; omega) (by rw [ins_cons]; simpa [At.i] using has) (by rw [outs_cons, ins_cons]; exact hst)
         rw [comp_KD] at ih
         rw [ovr_aI _ _ _ (nD _), ovr_aI _ _ _ (nK _), ovr_aI _ _ _ (nD _), ih]
        | K => rw [ovr_KD, ovr_KK, ovr_KD, ovr_comp n a s t (by omega) (by simpa [At.i] using has) (by simpa [At.o, At.i] using hst)]
        | D => rw [ovr_DD, ovr_DK, ovr_DD, ovr_comp n a s t (by omega) (by simpa [At.i] using has) (by simpa [At.o, At.i] using hst)]
    | I c =>
     rw [ins_cons] at has
     cases t with
     | nil => exfalso; rw [outs_cons, ins_nil] at hst; simp only [At.o] at hst; omega
     | cons z t =>
      rw [List.length_cons] at h
      rw [outs_cons, ins_cons] at hst
      cases z with
      | I c' => exact absurd rfl (ct c' t)
      | K => rw [comp_IK, ovr_I, ovr_I, ovr_KK, ovr_comp n a s t (by omega) (by simpa [At.i] using has) (by simpa [At.o, At.i] using hst)]
      | D => rw [comp_ID, ovr_I, ovr_KD, ovr_comp n a s t (by omega) (by simpa [At.i] using has) (by simpa [At.o, At.i] using hst)]
  ·rw [List.length_cons] at h
   rw [ins_cons] at hst
   rw [comp_I, ovr_I, ovr_I, ovr_comp n a s t (by omega) has (by simpa [At.i] using hst)]
theorem app_comp : ∀ (n : Nat) (s t : List At) (u : List Int), s.length + t.length ≤ n → ins s = u.length → outs s = ins t → app (comp s t) u = app t (app s u)
 | 0, s, t, u, h, hu, _ => by
  obtain rfl : s = [] := List.length_eq_zero_iff.1 (by omega)
  obtain rfl : t = [] := List.length_eq_zero_iff.1 (by omega)
  obtain rfl : u = [] := List.length_eq_zero_iff.1 (by rw [← hu]; rfl)
  rw [comp_nil]; rfl
 | n + 1, s, t, u, h, hu, hst => by
  rcases noI_or t with ct | ⟨c, t, rfl⟩
  ·cases s with
   | nil =>
    obtain rfl : u = [] := List.length_eq_zero_iff.1 (by rw [← hu]; rfl)
    cases t with
    | nil => rw [comp_nil]; rfl
    | cons y t =>
     exfalso
     rw [outs_nil, ins_cons] at hst
     cases y with
     | K => simp only [At.i] at hst; omega
     | D => simp only [At.i] at hst; omega
     | I c' => exact ct c' t rfl
   | cons x s =>
    rw [List.length_cons] at h
    cases x with
    | D =>
     cases u with
     | nil => exfalso; rw [ins_cons] at hu; simp only [At.i, List.length_nil] at hu; omega
     | cons d u =>
      rw [ins_cons, List.length_cons] at hu
      rw [outs_cons] at hst
      rw [comp_D _ _ ct]
      show app (comp s t) u = app t (app s u)
      exact app_comp n s t u (by omega) (by simp only [At.i] at hu; omega) (by simpa [At.o] using hst)
    | K =>
     cases u with
     | nil => exfalso; rw [ins_cons] at hu; simp only [At.i, List.length_nil] at hu; omega
     | cons d u =>
      rw [ins_cons, List.length_cons] at hu
      cases t with
      | nil => exfalso; rw [outs_cons, ins_nil] at hst; simp only [At.o] at hst; omega
      | cons z t =>
       rw [List.length_cons] at h
       rw [outs_cons, ins_cons] at hst
       have ih := fun e => app_comp n s t u (by omega) (by simp only [At.i] at hu; omega) e
       cases z with
       | I c' => exact absurd rfl (ct c' t)
       | K => rw [comp_KK]; show d :: app (comp s t) u = d :: app t (app s u); rw [ih (by simpa [At.o, At.i] using hst)]
       | D => rw [comp_KD]; show app (comp s t) u = app t (app s u); rw [ih (by simpa [At.o, At.i] using hst)]
    | I c =>
     rw [ins_cons] at hu
     cases t with
     | nil => exfalso; rw [outs_cons, ins_nil] at hst; simp only [At.o] at hst; omega
     | cons z t =>
      rw [List.length_cons] at h
      rw [outs_cons, ins_cons] at hst
      have ih := fun e => app_comp n s t u (by omega) (by simp only [At.i] at hu; omega) e
      cases z with
      | I c' => exact absurd rfl (ct c' t)
      | K => rw [comp_IK, app, app, app, ih (by simpa [At.o, At.i] using hst)]
      | D => rw [comp_ID, app, app, ih (by simpa [At.o, At.i] using hst)]
  ·rw [List.length_cons] at h
   rw [ins_cons] at hst
   rw [comp_I, app, app, app_comp n s t u (by omega) hu (by simpa [At.i] using hst)]
theorem app_keep : ∀ u : List Int, app (List.replicate u.length At.K) u = u
 | [] => rfl
 | c :: u => by rw [List.length_cons, List.replicate_succ, app, app_keep u]
theorem restN_A {f : Int} {n m : Nat} {l : List S25} (hf : f = 1 ∨ f = 3) (hm : m ≤ n) (h : W l) (hn : ∀ y ∈ l, ne y) : W (restN f (n : Int) (m : Int) ⟨#[]⟩ l) ∧ (∀ y ∈ restN f (n : Int) (m : Int) ⟨#[]⟩ l, ne y) ∧ ats (restN f (n : Int) (m : Int) ⟨#[]⟩ l) = List.replicate (n - m) (atk f) ++ ats l ∧ (restN f (n : Int) (m : Int) ⟨#[]⟩ l).length ≤ l.length + 1 ∧ (n = m → (restN f (n : Int) (m : Int) ⟨#[]⟩ l).length = l.length) := by
 by_cases c : n = m
 ·subst c
  rw [restN_eq']
  exact ⟨h, hn, by rw [Nat.sub_self]; rfl, by omega, fun _ => rfl⟩
 ·rw [restN_ne' (by omega)]
  have e : (n : Int) - (m : Int) = ((n - m : Nat) : Int) := by omega
  rw [e]
  have ok : okA ⟨f, ((n - m : Nat) : Int), ⟨#[]⟩⟩ := by rcases hf with rfl | rfl; exact okA_K _; exact okA_D _
  have ea : at1 ⟨f, ((n - m : Nat) : Int), ⟨#[]⟩⟩ = List.replicate (n - m) (atk f) := by rcases hf with rfl | rfl <;> rfl
  refine ⟨W_cons.2 ⟨ok, h⟩, fun y hy => ?_, by rw [ats_cons, ea], by simp, fun e => absurd e c⟩
  rcases List.mem_cons.1 hy with rfl | hy
  ·unfold ne
   rw [ea]
   intro e
   have := congrArg List.length e
   simp at this
   omega
  ·exact hn y hy
theorem ol_put' (k : Nat) (a s : List S25) (t : List Int) (out : List S25) (ht : Runes t) (hs : t.length ≤ 1000000) (ho : out.length < 1000000000) :
  over_Of.l (k + 1) a (⟨2, 0, enc t⟩ :: s) out = over_Of.l k a s (out ++ [sK t.length]) := by
 have e : span_Out.f 2 0 (enc t) = some (t.length : Int) := by
  have := out_1 (x := ⟨2, 0, enc t⟩) (okA_I ht) (by rw [at1_I 0 ht, List.length_map]; exact hs)
  rw [at1_I 0 ht, outs_I] at this
  exact this
 rw [over_Of.l, if_pos ho]
 cases a with
 | nil => rw [over_Of.st, if_pos rfl, e, Option.bind_some]
 | cons x a => rw [over_Of.st, if_pos rfl, e, Option.bind_some]
theorem over_l : ∀ (m : Nat) (a s out : List S25), W a → (∀ y ∈ a, ne y) → W s → (∀ y ∈ s, ne y) → a.length + s.length ≤ m → (ats a).length ≤ 1000000 → (ats s).length ≤ 1000000 → out.length + m ≤ 100000000 → ins (ats a) = ins (ats s) →
  ∃ r, (∀ k, m + 1 ≤ k → over_Of.l k a s out = some (out ++ r)) ∧ W r ∧ ats r = ovr (ats a) (ats s) ∧ r.length ≤ a.length + s.length := by
 intro m
 induction m with
 | zero =>
  intro a s out _ _ _ _ hm _ _ ho _
  obtain rfl : a = [] := List.length_eq_zero_iff.1 (by omega)
  obtain rfl : s = [] := List.length_eq_zero_iff.1 (by omega)
  refine ⟨[], fun k hk => ?_, W_nil, ovr_nil.symm, by simp⟩
  obtain ⟨k, rfl⟩ : ∃ j, k = j + 1 := ⟨k - 1, by omega⟩
  rw [ol_end k out (by omega), List.append_nil]
 | succ m ih =>
  intro a s out wa na ws ns hm ba bs ho hio
  have aput : ∀ (t : List Int) (a' : List S25) (_ : a = ⟨2, 0, enc t⟩ :: a') (_ : Runes t) (_ : noI (ats s)) (_ : ∀ k, over_Of.l (k + 1) a s out = over_Of.l k a' s (out ++ [⟨2, 0, enc t⟩])),
    ∃ r, (∀ k, m + 1 + 1 ≤ k → over_Of.l k a s out = some (out ++ r)) ∧ W r ∧ ats r = ovr (ats a) (ats s) ∧ r.length ≤ a.length + s.length := by
   rintro t a' rfl ht hno step
   obtain ⟨w1, w2⟩ := W_cons.1 wa
   rw [ats_cons, at1_I 0 ht] at hio ba ⊢
   rw [ins_app, ins_I] at hio
   rw [List.length_append] at ba
   rw [List.length_cons] at hm
   obtain ⟨r, h1, h2, h3, h4⟩ := ih a' s (out ++ [⟨2, 0, enc t⟩]) w2 (fun y hy => na y (by simp [hy])) ws ns (by omega) (by omega) bs (by rw [List.length_append, List.length_singleton]; omega) (by omega)
   refine ⟨⟨2, 0, enc t⟩ :: r, fun k hk => ?_, W_cons.2 ⟨okA_I ht, h2⟩, ?_, by rw [List.length_cons, List.length_cons]; omega⟩
   ·obtain ⟨k, rfl⟩ : ∃ j, k = j + 1 := ⟨k - 1, by omega⟩
    rw [step k, h1 k (by omega), List.append_assoc]; rfl
   ·rw [ats_cons, at1_I 0 ht, h3, ovr_ra _ _ hno]
  cases s with
  | nil =>
   cases a with
   | nil =>
    refine ⟨[], fun k hk => ?_, W_nil, ovr_nil.symm, by simp⟩
    obtain ⟨k, rfl⟩ : ∃ j, k = j + 1 := ⟨k - 1, by omega⟩
    rw [ol_end k out (by omega), List.append_nil]
   | cons x a =>
    have hx := na x (by simp)
    rcases okA_cases (W_cons.1 wa).1 with ⟨n, rfl⟩ | ⟨n, rfl⟩ | ⟨t, ht, rfl⟩
    ·exfalso
     rw [ats_cons, at1_K, ins_app, ins_K, ats_nil, ins_nil, Int.toNat_natCast] at hio
     unfold ne at hx; rw [at1_K, show ((n : Int)).toNat = 0 by omega] at hx; exact hx rfl
    ·exfalso
     rw [ats_cons, at1_D, ins_app, ins_D, ats_nil, ins_nil, Int.toNat_natCast] at hio
     unfold ne at hx; rw [at1_D, show ((n : Int)).toNat = 0 by omega] at hx; exact hx rfl
    ·exact aput t a rfl ht (fun c l' e => by cases e) fun k => ol_a0 k a 0 _ out (by omega)
  | cons y s =>
   obtain ⟨y1, y2⟩ := W_cons.1 ws
   have hy := ns y (by simp)
   have ns' : ∀ z ∈ s, ne z := fun z hz => ns z (by simp [hz])
   have both : ∀ (g : Int) (p : Nat), (g = 1 ∨ g = 3) → y = ⟨g, (p : Int), ⟨#[]⟩⟩ → 0 < p → ∃ r, (∀ k, m + 1 + 1 ≤ k → over_Of.l k a (y :: s) out = some (out ++ r)) ∧ W r ∧ ats r = ovr (ats a) (ats (y :: s)) ∧ r.length ≤ a.length + (y :: s).length := by
    rintro g p hg rfl hp
    have g2 : g ≠ 2 := by rcases hg with rfl | rfl <;> decide
    have eg : at1 (⟨g, (p : Int), ⟨#[]⟩⟩ : S25) = List.replicate p (atk g) := by rcases hg with rfl | rfl <;> rfl
    have ig : ins (List.replicate p (atk g)) = p := by rcases hg with rfl | rfl; exact ins_K p; exact ins_D p
    have nog : noI (List.replicate p (atk g) ++ ats s) := noI_rep (by rcases hg with rfl | rfl <;> (intro c e; cases e)) hp _
    cases a with
    | nil => exfalso; rw [ats_nil, ins_nil, ats_cons, eg, ins_app, ig] at hio; omega
    | cons x a =>
     obtain ⟨x1, x2⟩ := W_cons.1 wa
     have hx := na x (by simp)
     have na' : ∀ z ∈ a, ne z := fun z hz => na z (by simp [hz])
     have num : ∀ (f : Int) (n : Nat), (f = 1 ∨ f = 3) → x = ⟨f, (n : Int), ⟨#[]⟩⟩ → 0 < n → ∃ r, (∀ k, m + 1 + 1 ≤ k → over_Of.l k (x :: a) (⟨g, (p : Int), ⟨#[]⟩⟩ :: s) out = some (out ++ r)) ∧ W r ∧ ats r = ovr (ats (x :: a)) (ats (⟨g, (p : Int), ⟨#[]⟩⟩ :: s)) ∧ r.length ≤ (x :: a).length + ((⟨g, (p : Int), ⟨#[]⟩⟩ : S25) :: s).length := by
      rintro f n hf rfl hn
      have f2 : f ≠ 2 := by rcases hf with rfl | rfl <;> decide
      have ef : at1 (⟨f, (n : Int), ⟨#[]⟩⟩ : S25) = List.replicate n (atk f) := by rcases hf with rfl | rfl <;> rfl
      have jf : ins (List.replicate n (atk f)) = n := by rcases hf with rfl | rfl; exact ins_K n; exact ins_D n
      rw [ats_cons, ef] at hio ba ⊢
      rw [ats_cons, eg] at hio bs ⊢
      rw [ins_app, ins_app, jf, ig] at hio
      rw [List.length_append, List.length_replicate] at ba bs
      rw [List.length_cons, List.length_cons] at hm
      obtain ⟨a1, a2, a3, a4, a5⟩ := restN_A hf (Nat.min_le_left n p) x2 na'
      obtain ⟨b1, b2, b3, b4, b5⟩ := restN_A hg (Nat.min_le_right n p) y2 ns'
      have jf' : ins (List.replicate (n - min n p) (atk f)) = n - min n p := by rcases hf with rfl | rfl; exact ins_K _; exact ins_D _
      have ig' : ins (List.replicate (p - min n p) (atk g)) = p - min n p := by rcases hg with rfl | rfl; exact ins_K _; exact ins_D _
      have hl : (restN f (n : Int) ((min n p : Nat) : Int) ⟨#[]⟩ a).length + (restN g (p : Int) ((min n p : Nat) : Int) ⟨#[]⟩ s).length ≤ a.length + s.length + 1 := by
       rcases (by omega : n = min n p ∨ p = min n p) with e | e
       ·have := a5 e; omega
       ·have := b5 e; omega
      have go := fun o ho => ih (restN f (n : Int) ((min n p : Nat) : Int) ⟨#[]⟩ a) (restN g (p : Int) ((min n p : Nat) : Int) ⟨#[]⟩ s) o a1 a2 b1 b2 (by omega) (by rw [a3, List.length_append, List.length_replicate]; omega) (by rw [b3, List.length_append, List.length_replicate]; omega) ho (by rw [a3, b3, ins_app, ins_app, jf', ig']; omega)
      rcases hg with rfl | rfl
      ·obtain ⟨r, h1, h2, h3, h4⟩ := go (out ++ [⟨f, ((min n p : Nat) : Int), ⟨#[]⟩⟩]) (by rw [List.length_append, List.length_singleton]; omega)
       refine ⟨⟨f, ((min n p : Nat) : Int), ⟨#[]⟩⟩ :: r, fun k hk => ?_, W_cons.2 ⟨by rcases hf with rfl | rfl; exact okA_K _; exact okA_D _, h2⟩, ?_, by simp only [List.length_cons]; omega⟩
       ·obtain ⟨k, rfl⟩ : ∃ j, k = j + 1 := ⟨k - 1, by omega⟩
        rw [ol_K k a s f n p ⟨#[]⟩ ⟨#[]⟩ out f2 (by omega) (by omega) (by omega) (by omega) (by omega), mn_nat, h1 k (by omega), List.append_assoc]; rfl
       ·have e1 : at1 (⟨f, ((min n p : Nat) : Int), ⟨#[]⟩⟩ : S25) = List.replicate (min n p) (atk f) := by rcases hf with rfl | rfl <;> rfl
        rw [ats_cons, e1, h3, a3, b3, rep_split (atk f) (Nat.min_le_left n p), rep_split (n := p) (atk 1) (Nat.min_le_right n p), List.append_assoc, List.append_assoc]
        rcases hf with rfl | rfl
        ·exact (ovr_rKK _ _ _).symm
        ·exact (ovr_rDK _ _ _).symm
      ·obtain ⟨r, h1, h2, h3, h4⟩ := go out (by omega)
       refine ⟨r, fun k hk => ?_, h2, ?_, by simp only [List.length_cons]; omega⟩
       ·obtain ⟨k, rfl⟩ : ∃ j, k = j + 1 := ⟨k - 1, by omega⟩
        rw [ol_D k a s f n p ⟨#[]⟩ ⟨#[]⟩ out f2 (by omega) (by omega) (by omega) (by omega) (by omega), mn_nat, h1 k (by omega)]
       ·rw [h3, a3, b3, rep_split (atk f) (Nat.min_le_left n p), rep_split (n := p) (atk 3) (Nat.min_le_right n p), List.append_assoc, List.append_assoc]
        rcases hf with rfl | rfl
        ·exact (ovr_rKD _ _ _).symm
        ·exact (ovr_rDD _ _ _).symm
     rcases okA_cases x1 with ⟨n, rfl⟩ | ⟨n, rfl⟩ | ⟨t, ht, rfl⟩
     ·exact num 1 n (.inl rfl) rfl (by unfold ne at hx; rw [at1_K] at hx; cases n with | zero => exact absurd rfl hx | succ n => omega)
     ·exact num 3 n (.inr rfl) rfl (by unfold ne at hx; rw [at1_D] at hx; cases n with | zero => exact absurd rfl hx | succ n => omega)
     ·exact aput t a rfl ht (by rw [ats_cons, eg]; exact nog) fun k => ol_a k a s 0 g (p : Int) _ _ out g2 (by omega)
   rcases okA_cases y1 with ⟨p, rfl⟩ | ⟨p, rfl⟩ | ⟨t, ht, rfl⟩
   ·exact both 1 p (.inl rfl) rfl (by unfold ne at hy; rw [at1_K] at hy; cases p with | zero => exact absurd rfl hy | succ n => omega)
   ·exact both 3 p (.inr rfl) rfl (by unfold ne at hy; rw [at1_D] at hy; cases p with | zero => exact absurd rfl hy | succ n => omega)
   ·rw [ats_cons, at1_I 0 ht] at hio bs ⊢
    rw [ins_app, ins_I] at hio
    rw [List.length_append, List.length_map] at bs
    rw [List.length_cons] at hm
    obtain ⟨r, h1, h2, h3, h4⟩ := ih a s (out ++ [sK t.length]) wa na y2 ns' (by omega) ba (by omega) (by rw [List.length_append, List.length_singleton]; omega) (by omega)
    refine ⟨sK t.length :: r, fun k hk => ?_, W_cons.2 ⟨okA_K _, h2⟩, ?_, by rw [List.length_cons, List.length_cons]; omega⟩
    ·obtain ⟨k, rfl⟩ : ∃ j, k = j + 1 := ⟨k - 1, by omega⟩
     rw [ol_put' k a s t out ht (by omega) (by omega), h1 k (by omega), List.append_assoc]; rfl
    ·rw [ats_cons, at1_K, Int.toNat_natCast, h3, ovr_rI]
theorem over_A {a s : List S25} (wa : W a) (ws : W s) (hab : (ats a).length + (ats s).length ≤ 1000000) (ll : a.length + s.length ≤ 1000000) (hio : ins (ats a) = ins (ats s)) :
  ∃ r, (∀ k, a.length + s.length + 4 ≤ k → over_Of.f k a s = some (r, 0)) ∧ W r ∧ Alt r ∧ ats r = ovr (ats a) (ats s) := by
 obtain ⟨w1, n1, e1, l1⟩ := norm_A wa (by omega)
 obtain ⟨w2, n2, e2, l2⟩ := norm_A ws (by omega)
 have ol := ovr_len _ (ats a) (ats s) (Nat.le_refl _) hio
 obtain ⟨r, h1, h2, h3, h4⟩ := over_l ((normal_Of.n a).length + (normal_Of.n s).length) _ _ [] w1 (alt_ne n1) w2 (alt_ne n2) (Nat.le_refl _) (by rw [e1]; omega) (by rw [e2]; omega) (by simp only [List.length_nil]; omega) (by rw [e1, e2]; exact hio)
 rw [e1, e2] at h3
 obtain ⟨w3, n3, e3, l3⟩ := norm_A h2 (by rw [h3]; omega)
 refine ⟨normal_Of.n r, fun k hk => ?_, w3, n3, by rw [e3, h3]⟩
 unfold over_Of.f
 rw [may_A wa (by omega) (by omega) k (by omega), Option.bind_some, if_pos rfl, may_A ws (by omega) (by omega) k (by omega), Option.bind_some, if_pos rfl, in_A wa (by omega) (by omega), Option.bind_some, in_A ws (by omega) (by omega), Option.bind_some, if_pos (by omega), normal_A wa (by omega) (by omega), Option.bind_some, normal_A ws (by omega) (by omega), Option.bind_some,
  h1 k (by omega), Option.bind_some, List.nil_append, normal_A h2 (by rw [h3]; omega) (by omega)]
 rfl
def ovrs (a : List At) (l : List (List S25)) : List At := l.foldl (fun a x => ovr a (ats x)) a
theorem chain_l' (k : Nat) (hk : 1000005 ≤ k) : ∀ (l : List (List S25)) (n : Nat), ch n l → (∀ x ∈ l, Alt x) → tot l ≤ 400000 → ∃ q : Int, fuse_Chain.l k (n : Int) l = some (q, 0)
 | [], n, _, _, _ => ⟨n, rfl⟩
 | x :: l, n, ⟨h1, h2, h3⟩, hn, ht => by
  rw [tot_cons] at ht
  have lx := alt_len (hn x (by simp))
  obtain ⟨q, hq⟩ := chain_l' k hk l _ h3 (fun y hy => hn y (by simp [hy])) (by omega)
  refine ⟨q, ?_⟩
  rw [fuse_Chain.l]
  unfold fuse_next.f
  rw [may_A h1 (by omega) (by omega) k (by omega), Option.bind_some, if_pos rfl, in_A h1 (by omega) (by omega), Option.bind_some, if_pos (by omega), out_A h1 (by omega) (by omega), Option.bind_some, Option.bind_some, if_pos rfl, hq]
theorem thr_l : ∀ (l : List (List S25)) (a : List S25), W a → Alt a → ch (ins (ats a)) l → (∀ x ∈ l, Alt x) → (ats a).length + tot l ≤ 1000000 → ∃ r, (∀ k, 1000004 ≤ k → through_Of.l k a l = some r) ∧ W r ∧ Alt r ∧ ats r = ovrs (ats a) l
 | [], a, wa, na, _, _, _ => ⟨a, fun k _ => rfl, wa, na, rfl⟩
 | x :: l, a, wa, na, ⟨h1, h2, h3⟩, hn, ht => by
  rw [tot_cons] at ht
  have la := alt_len na
  have lx := alt_len (hn x (by simp))
  obtain ⟨r, c1, c2, c3, c4⟩ := over_A wa h1 (by omega) (by omega) h2.symm
  have ol := ovr_len _ (ats a) (ats x) (Nat.le_refl _) h2.symm
  obtain ⟨q, d1, d2, d3, d4⟩ := thr_l l r c2 c3 (by rw [c4, ol.1]; exact h3) (fun y hy => hn y (by simp [hy])) (by rw [c4]; omega)
  refine ⟨q, fun k hk => ?_, d2, d3, by rw [d4, c4]; rfl⟩
  rw [through_Of.l, c1 k (by omega), Option.bind_some, d1 k hk]
theorem thr_A {n : Nat} {l : List (List S25)} {a : List S25} (wa : W a) (h : hs n l) (hi : ins (ats a) = n) (hl : l.length ≤ 60000) (la : a.length ≤ 100000) (ht : (ats a).length + tot l ≤ 400000) : ∃ r, (∀ k, 1000005 ≤ k → through_Of.f k a l = some (r, 0)) ∧ W r ∧ Alt r ∧ ats r = ovrs (ats a) l := by
 obtain ⟨w1, n1, e1, l1⟩ := norm_A wa (by omega)
 have := ins_le (ats a)
 obtain ⟨r, h1, h2, h3, h4⟩ := thr_l l (normal_Of.n a) w1 n1 (by rw [e1, hi]; exact h.1) h.2 (by rw [e1]; omega)
 refine ⟨r, fun k hk => ?_, h2, h3, by rw [h4, e1]⟩
 obtain ⟨q, hq⟩ := chain_l' k hk l n h.1 h.2 (by omega)
 obtain ⟨kp, p1, _⟩ := keep_op n (by omega)
 unfold through_Of.f through_may.f fuse_Chain.f
 rw [if_pos (by omega), may_A wa (by omega) (by omega) k (by omega), Option.bind_some, if_pos rfl, in_A wa (by omega) (by omega), Option.bind_some, hi, if_pos (by omega), p1 k (by omega), Option.bind_some, if_pos rfl, hq, Option.bind_some, Option.bind_some, if_pos rfl, normal_A wa (by omega) (by omega), Option.bind_some, h1 k (by omega), Option.bind_some]
theorem sz_zero (n : Nat) (l : List (List S25)) : sz n l 0 = n := by cases l <;> rfl
theorem fold_ovr : ∀ (l : List (List S25)) (acc x : List At), ch (outs acc) l → ins x = ins acc → ovr x (l.foldl (fun a x => comp a (ats x)) acc) = ovrs (ovr x acc) l
 | [], _, _, _, _ => rfl
 | y :: l, acc, x, ⟨h1, h2, h3⟩, hx => by
  obtain ⟨c1, c2, c3⟩ := comp_len _ acc (ats y) (Nat.le_refl _) h2.symm
  rw [← c2] at h3
  rw [List.foldl_cons, fold_ovr l (comp acc (ats y)) x h3 (by rw [c1]; exact hx), ovr_comp _ x acc (ats y) (Nat.le_refl _) hx h2.symm]
  rfl
theorem ovr_cmps {n : Nat} {l : List (List S25)} {x : List At} (h : ch n l) (hx : ins x = n) : ovr x (cmps n l) = ovrs x l := by
 have := fold_ovr l (List.replicate n At.K) x (by rw [outs_K]; exact h) (by rw [ins_K]; exact hx)
 rw [← hx, ovr_keep, hx] at this
 exact this
theorem fold_app : ∀ (l : List (List S25)) (acc : List At) (u : List Int), ch (outs acc) l → ins acc = u.length → app (l.foldl (fun a x => comp a (ats x)) acc) u = txs (app acc u) l
 | [], _, _, _, _ => rfl
 | y :: l, acc, u, ⟨h1, h2, h3⟩, hu => by
  obtain ⟨c1, c2, c3⟩ := comp_len _ acc (ats y) (Nat.le_refl _) h2.symm
  rw [← c2] at h3
  rw [List.foldl_cons, fold_app l (comp acc (ats y)) u h3 (by rw [c1]; exact hu), app_comp _ acc (ats y) u (Nat.le_refl _) hu h2.symm]
  rfl
theorem app_cmps {n : Nat} {l : List (List S25)} {u : List Int} (h : ch n l) (hu : u.length = n) : app (cmps n l) u = txs u l := by
 have := fold_app l (List.replicate n At.K) u (by rw [outs_K]; exact h) (by rw [ins_K]; exact hu.symm)
 rw [← hu, app_keep, hu] at this
 exact this
theorem cmps_cons {n : Nat} {x : List S25} {l : List (List S25)} (h : ins (ats x) = n) : cmps n (x :: l) = l.foldl (fun a x => comp a (ats x)) (ats x) := by
 unfold cmps
 rw [List.foldl_cons, ← h, comp_keep]
theorem cmps_tot {n : Nat} {l : List (List S25)} (h : ch n l) (hl : l ≠ []) : (cmps n l).length ≤ tot l := by
 cases l with
 | nil => exact absurd rfl hl
 | cons x l =>
  obtain ⟨h1, h2, h3⟩ := h
  rw [cmps_cons h2, tot_cons]
  exact (fold_len l (ats x) h3).1
theorem ovrs_app (x : List At) (a b : List (List S25)) : ovrs x (a ++ b) = ovrs (ovrs x a) b := List.foldl_append ..
theorem txs_app (u : List Int) (a b : List (List S25)) : txs u (a ++ b) = txs (txs u a) b := List.foldl_append ..
theorem ovrs_ins : ∀ (l : List (List S25)) (n : Nat) (x : List At), ch n l → ins x = n → ins (ovrs x l) = sz n l l.length
 | [], n, x, _, h => h
 | y :: l, n, x, ⟨h1, h2, h3⟩, hx => by
  have ol := ovr_len _ x (ats y) (Nat.le_refl _) (by rw [hx, h2])
  exact ovrs_ins l _ (ovr x (ats y)) h3 ol.1
theorem part_app (segs : List (List S25)) {a t : Nat} (h : a ≤ t) : (segs.take t).drop a ++ segs.drop t = segs.drop a := by
 by_cases c : t ≤ segs.length
 ·rw [← List.drop_append_of_le_length (by rw [List.length_take]; omega), List.take_append_drop]
 ·rw [List.take_of_length_le (by omega), List.drop_of_length_le (l := segs) (i := t) (by omega), List.append_nil]
theorem sz_app : ∀ (l r : List (List S25)) (n i : Nat), sz n (l ++ r) (l.length + i) = sz (sz n l l.length) r i
 | [], r, n, i => by rw [List.length_nil, Nat.zero_add]; rfl
 | x :: l, r, n, i => by
  have := sz_app l r (outs (ats x)) i
  rw [show (x :: l).length + i = (l.length + i) + 1 by rw [List.length_cons]; omega]
  exact this
theorem sz_part {n : Nat} (segs : List (List S25)) {a t : Nat} (h : a ≤ t) (ht : t ≤ segs.length) : sz (sz n segs a) ((segs.take t).drop a) ((segs.take t).drop a).length = sz n segs t := by
 have e1 : segs.take a ++ (segs.take t).drop a = segs.take t := by
  have : segs.take a = (segs.take t).take a := by rw [List.take_take]; congr 1; omega
  rw [this, List.take_append_drop]
 have la : (segs.take a).length = a := by rw [List.length_take]; omega
 have lp : ((segs.take t).drop a).length = t - a := by rw [List.length_drop, List.length_take]; omega
 have h1 := sz_app (segs.take a) ((segs.take t).drop a) n ((segs.take t).drop a).length
 rw [e1, la, sz_take segs n a a (Nat.le_refl _) (by omega), lp, show a + (t - a) = t by omega, sz_take segs n t t (Nat.le_refl _) ht] at h1
 rw [lp]
 exact h1.symm
theorem tot_app (a b : List (List S25)) : tot (a ++ b) = tot a + tot b := by simp [tot]
section
variable {n : Nat} {R : List Int} {segs : List (List S25)}
theorem CP_hs (h : hs n segs) : ∀ (ys : List Int) (os : List (List S25)) (a : Nat), a ≤ segs.length → CP n R segs a ys os → hs (sz n segs a) os ∧ tot os ≤ tot (segs.drop a) ∧ sz (sz n segs a) os os.length = sz n segs segs.length
 | [], [], a, ha, hc => by
  have hc : a = segs.length := hc
  refine ⟨⟨trivial, fun _ h => by cases h⟩, Nat.zero_le _, ?_⟩
  subst hc; rfl
 | y :: ys, o :: os, a, ha, ⟨t, t1, t2, t3, w, al, ea, hle, hb, hc⟩ => by
  have hp := hs_part h (a := a) (t := t) (by omega) t2
  obtain ⟨l1, l2, l3⟩ := cmps_len hp.1
  rw [sz_part segs (by omega) t2] at l3
  obtain ⟨i1, i2, i3⟩ := CP_hs h ys os t t2 hc
  have hne : (segs.take t).drop a ≠ [] := fun e => by have := congrArg List.length e; rw [List.length_drop, List.length_take, List.length_nil] at this; omega
  have lt := cmps_tot hp.1 hne
  refine ⟨⟨⟨w, by rw [ea, l2], by rw [ea, l3]; exact i1.1⟩, fun x hx => ?_⟩, ?_, ?_⟩
  ·rcases List.mem_cons.1 hx with rfl | hx
   ·exact al
   ·exact i1.2 x hx
  ·rw [tot_cons, ea, ← part_app segs (a := a) (t := t) (by omega), tot_app]; omega
  ·show sz (outs (ats o)) os os.length = _
   rw [ea, l3]; exact i3
theorem CP_ovrs (h : hs n segs) : ∀ (ys : List Int) (os : List (List S25)) (a : Nat) (x : List At), a ≤ segs.length → CP n R segs a ys os → ins x = sz n segs a → ovrs x os = ovrs x (segs.drop a)
 | [], [], a, x, ha, hc, _ => by
  have hc : a = segs.length := hc
  rw [List.drop_of_length_le (by omega)]
 | y :: ys, o :: os, a, x, ha, ⟨t, t1, t2, t3, w, al, ea, hle, hb, hc⟩, hx => by
  have hp := hs_part h (a := a) (t := t) (by omega) t2
  have e := ovr_cmps hp.1 hx
  have hi := ovrs_ins _ _ x hp.1 hx
  rw [sz_part segs (by omega) t2] at hi
  show ovrs (ovr x (ats o)) os = _
  rw [ea, e, CP_ovrs h ys os t (ovrs x ((segs.take t).drop a)) t2 hc hi, ← ovrs_app, part_app segs (by omega)]
theorem CP_at (h : hs n segs) : ∀ (ys : List Int) (os : List (List S25)) (a : Nat) (r : Int) (u : List Int) (i : Nat), a ≤ segs.length → R[a]? = some r → CP n R segs a ys os → u.length = sz n segs a → i ≤ os.length →
  ∃ t, a ≤ t ∧ t ≤ segs.length ∧ (r :: ys)[i]? = R[t]? ∧ CP n R segs t (ys.drop i) (os.drop i) ∧ txs u (os.take i) = txs u ((segs.take t).drop a) ∧ sz (sz n segs a) os i = sz n segs t
 | ys, os, a, r, u, 0, ha, hr, hc, hu, _ => by
  refine ⟨a, Nat.le_refl _, ha, by rw [hr]; rfl, hc, ?_, sz_zero _ _⟩
  rw [List.drop_of_length_le (by rw [List.length_take]; omega)]; rfl
 | [], [], a, r, u, i + 1, ha, hr, hc, hu, hi => by simp at hi
 | y :: ys, o :: os, a, r, u, i + 1, ha, hr, ⟨t, t1, t2, t3, w, al, ea, hle, hb, hc⟩, hu, hi => by
  have hp := hs_part h (a := a) (t := t) (by omega) t2
  have e := app_cmps hp.1 hu
  have hl := txs_len _ u (by rw [hu]; exact hp.1)
  rw [hu, sz_part segs (by omega) t2] at hl
  obtain ⟨q, q1, q2, q3, q4, q5, q6⟩ := CP_at h ys os t y (txs u ((segs.take t).drop a)) i t2 t3 hc hl (by simpa using hi)
  obtain ⟨l1, l2, l3⟩ := cmps_len hp.1
  rw [sz_part segs (by omega) t2] at l3
  refine ⟨q, by omega, q2, q3, q4, ?_, ?_⟩
  ·show txs (app (ats o) u) (os.take i) = _
   rw [ea, e, q5, ← txs_app]
   congr 1
   have e2 : (segs.take t).drop a = ((segs.take q).take t).drop a := by rw [List.take_take]; congr 2; omega
   rw [e2]
   exact part_app (segs.take q) (by omega)
  ·show sz (outs (ats o)) os i = _
   rw [ea, l3, q6]
end
theorem CP_log {b R : List Int} {segs : List (List S25)} (h : LogOk b R segs) {a : Nat} (ha : a < R.length) {p : Int → Bool} {os : List (List S25)} (hc : CP b.length R segs a ((R.drop (a + 1)).filter p) os) (hr : Runes (txs b (segs.take a))) :
  LogOk (txs b (segs.take a)) (R[a] :: (R.drop (a + 1)).filter p) os ∧ (txs b (segs.take a)).length = sz b.length segs a := by
 have hln := h.ln
 have hsl := h.sl
 have htt := h.tt
 obtain ⟨c1, c2, c3⟩ := CP_hs h.hs _ os a (by omega) hc
 have hl := txs_len (segs.take a) b (ch_take h.hs.1 a)
 rw [List.length_take, sz_take segs _ _ a (by omega) (by omega), show min a segs.length = a by omega] at hl
 have sl := sz_le segs b.length a (by omega)
 have cl := CP_len _ _ _ hc
 have fl := List.length_filter_le p (R.drop (a + 1))
 rw [List.length_drop] at fl
 refine ⟨⟨hr, by rw [hl]; exact c1, ?_, by rw [List.length_cons, cl], by rw [hl]; omega, by omega⟩, hl⟩
 have hsub : (R[a] :: (R.drop (a + 1)).filter p).Sublist R := by
  have h1 : ((R.drop (a + 1)).filter p).Sublist (R.drop (a + 1)) := List.filter_sublist
  have h2 : (R[a] :: R.drop (a + 1)).Sublist R := by rw [← List.drop_eq_getElem_cons ha]; exact List.drop_sublist a R
  exact (h1.cons_cons _).trans h2
 exact ⟨h.ri.1.sublist hsub, fun x hx => h.ri.2 x (hsub.subset hx)⟩
set_option maxRecDepth 100000 in
theorem shown_top (k : Nat) (hk : 60 ≤ k) : epitometop_shown.f k = some true := up epitometop_shown.mono hk (by decide +kernel)
theorem few_A (l : List Int) (h : ∀ x ∈ l, i64ok x) : ∃ r, epitometop_few.f l = some r ∧ r.length ≤ 30 ∧ ∀ x ∈ r, i64ok x := by
 have m := mn_le (l.length : Int) 30
 have h0 : 0 ≤ mn (l.length : Int) 30 := by rcases m.2.2 with h | h <;> omega
 refine ⟨l.take (mn (l.length : Int) 30).toNat, ?_, ?_, fun x hx => h x (List.mem_of_mem_take hx)⟩
 ·unfold epitometop_few.f
  rw [if_pos h0, if_pos m.1]
 ·rw [List.length_take]; omega
theorem ch_get : ∀ {l : List (List S25)} {n : Nat}, ch n l → ∀ (j : Nat) (h : j < l.length), W l[j] ∧ ins (ats l[j]) = sz n l j ∧ outs (ats l[j]) = sz n l (j + 1)
 | [], _, _, j, h => by simp at h
 | x :: l, n, ⟨h1, h2, h3⟩, 0, _ => ⟨h1, by rw [sz_zero]; exact h2, by show _ = sz (outs (ats x)) l 0; rw [sz_zero]; rfl⟩
 | x :: l, n, ⟨h1, h2, h3⟩, j + 1, h => ch_get h3 j (by simpa using h)
theorem ovrs_len : ∀ (l : List (List S25)) (n : Nat) (x : List At), ch n l → ins x = n → (ovrs x l).length ≤ x.length + tot l
 | [], n, x, _, h => Nat.le_add_right _ _
 | y :: l, n, x, ⟨h1, h2, h3⟩, hx => by
  have ol := ovr_len _ x (ats y) (Nat.le_refl _) (by rw [hx, h2])
  have := ovrs_len l _ (ovr x (ats y)) h3 ol.1
  rw [tot_cons]
  show (ovrs (ovr x (ats y)) l).length ≤ _
  omega
theorem rep_at {b R : List Int} {segs os : List (List S25)} {a : Nat} {p : Int → Bool} (h : LogOk b R segs) (eR : R = revs segs.length) (ha : a < R.length) (hc : CP b.length R segs a ((R.drop (a + 1)).filter p) os) (hr : Runes (txs b (segs.take a))) (ht : b.length + tot segs ≤ 200000) (l1 : List (List S25)) (i : Nat) (hi : i ≤ os.length) :
  ∃ r t n x0 x q q', RepAt 7000000 (enc b) (enc (txs b (segs.take a))) segs os ((b.length : Int) :: szs segs) (R[a] :: (R.drop (a + 1)).filter p) l1 i r t n x0 x q q' := by
 obtain ⟨L, hl⟩ := CP_log h ha hc hr
 have hln := h.ln
 have hsl := h.sl
 obtain ⟨t, t1, t2, t3, t4, t5, t6⟩ := CP_at h.hs _ os a R[a] (txs b (segs.take a)) i (by omega) (List.getElem?_eq_getElem ha) hc hl hi
 obtain ⟨c1, c2⟩ := at_A L i hi 7000000 (by decide)
 have hp : segs.take a ++ (segs.take t).drop a = segs.take t := by
  have : segs.take a = (segs.take t).take a := by rw [List.take_take]; congr 1; omega
  rw [this, List.take_append_drop]
 rw [t5, ← txs_app, hp] at c1 c2
 have tt := tot_take segs t
 obtain ⟨d1, d2⟩ := all_A (s := b) (l := segs.take t) ⟨ch_take h.hs.1 t, fun x hx => h.hs.2 x (List.mem_of_mem_take hx)⟩ h.rb (by omega) (by rw [List.length_take]; omega) 7000000 (by decide)
 have tl := txs_len (segs.take t) b (ch_take h.hs.1 t)
 rw [List.length_take, sz_take segs _ _ t (by omega) (by omega), show min t segs.length = t by omega] at tl
 have sl := sz_le segs b.length t t2
 have cn := count_big d2 (by have := enc_sz (t := txs b (segs.take t)) (by omega); omega)
 obtain ⟨x0, f1, f2, f3, f4, f5⟩ := fit_A [] (txs b (segs.take t)).length (by omega) 7000000 (by decide)
 obtain ⟨x1, g1, g2, g3, g4, g5⟩ := fit_A (rd_L3 l1 0) (txs b (segs.take t)).length (by omega) 7000000 (by decide)
 obtain ⟨x, ex1, ex2, w, hx3, hx4, hx5⟩ : ∃ x, (0 < l1.length → epitomeref04_Fit.f 7000000 (rd_L3 l1 0) ((txs b (segs.take t)).length : Int) = some x) ∧ (l1.length = 0 → x = x0) ∧ W x ∧ ins (ats x) = (txs b (segs.take t)).length ∧ (ats x).length ≤ (txs b (segs.take t)).length + 72 ∧ x.length ≤ 13 := by
  by_cases c : l1.length = 0
  ·exact ⟨x0, fun e => by omega, fun _ => rfl, f2, f3, f4, f5⟩
  ·exact ⟨x1, fun _ => g1, fun e => absurd e c, g2, g3, g4, g5⟩
 obtain ⟨o1, o2, o3⟩ := CP_hs h.hs _ _ t t2 t4
 have hd := ch_drop h.hs.1 t t2
 have hos := CP_len _ _ _ hc
 have fl := List.length_filter_le p (R.drop (a + 1))
 rw [List.length_drop] at fl
 obtain ⟨q, q1, q2, q3, q4⟩ := thr_A (n := sz b.length segs t) (l := segs.drop t) w ⟨hd, fun y hy => h.hs.2 y (List.mem_of_mem_drop hy)⟩ (by rw [hx3, tl]) (by rw [List.length_drop]; omega) (by omega) (by omega)
 obtain ⟨q', r1, r2, r3, r4⟩ := thr_A (n := sz b.length segs t) (l := os.drop i) w o1 (by rw [hx3, tl]) (by rw [List.length_drop]; omega) (by omega) (by omega)
 rw [CP_ovrs h.hs _ _ t (ats x) t2 t4 (by rw [hx3, tl]), ← q4] at r4
 have eq' := alt_uniq r2 q2 r3 q3 r4
 subst eq'
 have ql := ovrs_len (segs.drop t) _ (ats x) hd (by rw [hx3, tl])
 rw [← q4] at ql
 have al := alt_len q3
 refine ⟨t, enc (txs b (segs.take t)), ((txs b (segs.take t)).length : Int), x0, x, q', q', ⟨?_, t2, d1, c1, cn, f1, ex1, ex2, may_A w (by omega) (by omega) _ (by omega), ?_, q1 _ (by decide), r1 _ (by decide), same_A q' (by omega) _ (by omega)⟩⟩
 ·have htr : t < R.length := by omega
  have hik : i < (R[a] :: (R.drop (a + 1)).filter p).length := by rw [List.length_cons]; omega
  rw [List.getElem?_eq_getElem htr, List.getElem?_eq_getElem hik] at t3
  rw [rdI_at _ i hik, Option.some.inj t3]
  subst eR
  exact revs_at _ _ htr
 ·rw [in_A w (by omega) (by omega), rd_sz segs b.length t t2, hx3, tl]
theorem rep_ok (a0 : ByteArray) (l1 : List (List S25)) (l2 : List Int) (fl : Int) (hset : ∀ x ∈ l2, i64ok x) : ∃ b b' R segs os Z K set n0, RepOk 7000000 a0 l1 l2 fl b b' R segs os Z K set n0 := by
 obtain ⟨b, segs, e1, hb, hbl, hh, hsl, ht⟩ := fit16_A a0 l1 7000000 (by decide)
 obtain ⟨set, e2, hs1, hs2⟩ := few_A l2 hset
 have L : LogOk b (revs segs.length) segs := ⟨hb, hh, revs_rise _ (by omega), by rw [revs_len], by omega, by omega⟩
 obtain ⟨a, ha, os, -, -, -, e3, hr, hc⟩ := compact_A L set fl hs2 (by omega) 7000000 (by decide)
 have hl := L.ln
 have hlen := CP_len _ _ _ hc
 have hfl := List.length_filter_le (keep_Of.p ((revs segs.length).drop a) set) ((revs segs.length).drop (a + 1))
 rw [List.length_drop] at hfl
 have bz := enc_sz (t := b) (by omega)
 have hx : ∀ x ∈ segs, W x ∧ (ats x).length ≤ 32000 ∧ x.length ≤ 32000 := by
  intro x hx
  obtain ⟨m1, m2⟩ := ch_mem hh.1 x hx
  have := alt_len (hh.2 x hx)
  exact ⟨m1, by omega, by omega⟩
 refine ⟨enc b, _, _, segs, os, (b.length : Int) :: szs segs, _, set, (b.length : Int), ⟨shown_top _ (by decide), e1, count_big hb (by omega), by omega, by omega, by simp [szs], rfl, by omega, fun x h => by have := (hx x h).2.2; omega, ?_, e2, e3, by rw [List.length_cons, hlen], by rw [List.length_cons]; omega, ?_⟩⟩
 ·intro j hj
  obtain ⟨m1, m2, m3⟩ := hx _ (List.getElem_mem hj)
  obtain ⟨g1, g2, g3⟩ := ch_get hh.1 j hj
  have sl := sz_le segs b.length (j + 1) (by omega)
  rw [rdL_at segs j hj, rd_sz segs b.length j (by omega), rd_sz segs b.length (j + 1) (by omega)]
  refine ⟨may_A m1 (by omega) (by omega) _ (by omega), by rw [in_A m1 (by omega) (by omega), g2], by rw [out_A m1 (by omega) (by omega), g3], by omega, ?_⟩
  rw [normal_A m1 (by omega) (by omega), norm_self m1 (hh.2 _ (List.getElem_mem hj)) (by omega)]
 ·intro i hi
  rw [List.length_cons] at hi
  exact rep_at L rfl ha hc hr (by omega) l1 i (by omega)
end Go.Proofs.YtegjegihcebimaaDoor.Pure
end
section
namespace Go.Proofs.YtegjegihcebimaaDoor.Pure
open Go.Deep Go.ChangeShapes Go.WideShapes Go.ChangeAt Go.RowKit Go.Proofs.YtegjegihcebimaaDoor.P Go.Proofs.YtegjegihcebimaaDoorW.PrintWords Go.Proofs.YtegjegihcebimaaDoorW.PrintLast Go.Proofs.YtegjegihcebimaaDoorW.PrintMore
set_option linter.unusedVariables false
theorem choose_list {α : Type} {p : Nat → α → Prop} : ∀ (n : Nat), (∀ i, i < n → ∃ y, p i y) → ∃ l : List α, l.length = n ∧ ∀ i y, l[i]? = some y → p i y
 | 0, _ => ⟨[], rfl, fun i y h => by simp at h⟩
 | n + 1, h => by
  obtain ⟨l, h1, h2⟩ := choose_list n fun i hi => h i (by omega)
  obtain ⟨y, hy⟩ := h n (by omega)
  refine ⟨l ++ [y], by simp [h1], fun i z hz => ?_⟩
  by_cases c : i < l.length
  ·rw [List.getElem?_append_left c] at hz; exact h2 i z hz
  ·rw [List.getElem?_append_right (by omega)] at hz
   have hi : i - l.length = 0 := by
    have := (List.getElem?_eq_some_iff.mp hz).1
    simp at this; omega
   rw [hi] at hz
   have : y = z := by simpa using hz
   subst this
   have : i = n := by omega
   subst this
   exact hy
section
variable {H : Type} {enc : TypeId × Value → H} {P : Program} {w : World} {base : Nat} {sp : Nat → Bool} {held : Bool}
def Opens {α : Type} (enc : TypeId × Value → H) (P : Program) (w : World) (base : Nat) (sp : Nat → Bool) (held : Bool) (d : Kd α) (t : TypeId) (Q : α → Prop) : Prop :=
 ∀ (fuel : Nat) (cs : List Value) (x : DataW H × List MemPlace), DataW.trod enc P w base sp held fuel t cs = some x → ∃ y, d.K w y cs ∧ Q y
theorem opens_int {t : TypeId} {k : IntKind} (ht : P.underlying t = some (.int k)) : Opens enc P w base sp held (Kd.int k) t (fun n => (Lit.int k n).wf = true) := by
 intro fuel cs x h
 obtain ⟨n, rfl, _, hw⟩ := DataW.trod_int ht h
 exact ⟨n, rfl, hw⟩
theorem opens_slice {α : Type} {d : Kd α} {t e e' : TypeId} {Q : α → Prop} (ht : P.underlying t = some (.slice e)) (hc : P.cellsOf e = d.sz) (h : Opens enc P w base sp held d e Q) : Opens enc P w base sp held (Kd.slice e' d) t (fun l => ∀ x ∈ l, Q x) := by
 intro fuel cs x hx
 rcases open_slice ht hx with ⟨rfl, rfl⟩ | ⟨a, len, cap, m, n, D, Pl, rfl, hb, hl, hm, hmm, rfl, hi⟩
 ·exact ⟨[], ⟨none, 0, rfl, Nat.le_refl _, Kd.C_nil d w⟩, fun x h => by cases h⟩
 ·have hlm : len ≤ m := by rw [hmm]; split <;> omega
  obtain ⟨ys, hy1, hy2⟩ := choose_list (p := fun i y => ∃ c, w.cells? base (a.add (i * d.sz)) d.sz = some c ∧ d.K w y c ∧ Q y) len (fun i hlt => by
   obtain ⟨cs', h1, h2⟩ := hi i (by omega)
   rw [hc] at h1
   obtain ⟨y, k1, k2⟩ := h _ _ _ h2
   exact ⟨y, cs', h1, k1, k2⟩)
  have hmax : maxLen ≤ 9223372036854775807 := by decide
  refine ⟨ys, ⟨some a, cap, by rw [hy1], by omega, ⟨rfl, by omega, fun _ => ⟨a, rfl, fun j p hj => ?_⟩⟩⟩, fun x hx => ?_⟩
  ·obtain ⟨c, c1, c2, _⟩ := hy2 j p hj
   obtain ⟨_, hlen, hcell⟩ := World.cells?_some c1
   refine ⟨c, hlen, c2, fun i u hu => ?_⟩
   have hlt := (List.getElem?_eq_some_iff.mp hu).1
   have := hcell i (by omega)
   rw [hu] at this
   have e : a.add (j * d.sz + i) = (a.add (j * d.sz)).add i := (Addr.add_add a (j * d.sz) i).symm
   rw [e]
   exact this
  ·obtain ⟨i, hi, rfl⟩ := List.getElem_of_mem hx
   obtain ⟨_, _, _, hq⟩ := hy2 i _ (List.getElem?_eq_getElem hi)
   exact hq
theorem open_row_of {α : Type} {d : Kd α} {r : Reach} {b0 : Nat} {t e e' : TypeId} {Q : α → Prop} {v : Value} {dd : DataW H} {ps : List MemPlace} (ht : P.underlying t = some (.slice e)) (hc : P.cellsOf e = d.sz) (h : Opens enc P w base sp held d e Q) (hval : Value.okWide P w r b0 t v) (hd : DataW.Trod enc P w base sp held t v dd ps) :
  ∃ A c l, v = .slice A l.length c ∧ l.length ≤ c ∧ d.C w A l.length l ∧ ∀ x ∈ l, Q x := by
 obtain ⟨a, len, cap, rfl⟩ := okWide_slice ht hval
 obtain ⟨fuel, hf⟩ := hd
 obtain ⟨l, ⟨A, c, e1, e2, e3⟩, hq⟩ := opens_slice (e' := e') ht hc h _ _ _ hf
 simp [Value.cells] at e1
 exact ⟨A, c, l, by rw [e1.1, e1.2.1, e1.2.2], e2, e3, hq⟩
theorem open_cell_of {α : Type} {d : Kd α} {t e e' : TypeId} {Q : α → Prop} {v : Value} {n : Nat} {y : DataW H × List MemPlace} (ht : P.underlying t = some (.slice e)) (hc : P.cellsOf e = d.sz) (h : Opens enc P w base sp held d e Q) (hd : DataW.trod enc P w base sp held n t [v] = some y) :
  ∃ A c l, v = .slice A l.length c ∧ l.length ≤ c ∧ d.C w A l.length l ∧ ∀ x ∈ l, Q x := by
 obtain ⟨l, ⟨A, c, e1, e2, e3⟩, hq⟩ := opens_slice (e' := e') ht hc h _ _ _ hd
 exact ⟨A, c, l, by simpa using e1, e2, e3, hq⟩
end
set_option maxRecDepth 100000 in
theorem opens_span {H : Type} {enc : TypeId × Value → H} {w : World} {base : Nat} {sp : Nat → Bool} {held : Bool} : Opens enc Tryd.prog w base sp held k25 25 (fun _ => True) := by
 intro fuel cs x h
 obtain ⟨y0, y1, y2, n, _, hl, h0, h1, h2⟩ := trod_struct3 Tryd.underlying25 h
 have hl : cs.length = 3 := hl.trans (by kernel_rfl)
 match cs, hl with
 | [c0, c1, c2], _ =>
  have i1 : Tryd.prog.cellsOf 3 = 1 := by kernel_rfl
  have i2 : Tryd.prog.cellsOf 9 = 1 := by kernel_rfl
  obtain ⟨a, e0, _, _⟩ := DataW.trod_int Tryd.underlying3 h0
  obtain ⟨b, e1, _, _⟩ := DataW.trod_int Tryd.underlying3 h1
  obtain ⟨s, e2, _, _⟩ := DataW.trod_string Tryd.underlying9 h2
  replace e0 : ([c0, c1, c2].drop 0).take (Tryd.prog.cellsOf 3) = _ := e0
  replace e1 : ([c0, c1, c2].drop 1).take (Tryd.prog.cellsOf 3) = _ := e1
  replace e2 : ([c0, c1, c2].drop 2).take (Tryd.prog.cellsOf 9) = _ := e2
  rw [i1] at e0 e1
  rw [i2] at e2
  simp only [List.drop_succ_cons, List.drop_zero, List.take_succ_cons, List.take_zero] at e0 e1 e2
  injection e0 with e0
  injection e1 with e1
  injection e2 with e2
  subst e0 e1 e2
  exact ⟨⟨a, b, s⟩, k25_mk w ⟨a, b, s⟩, trivial⟩
theorem opens_spans {H : Type} {enc : TypeId × Value → H} {w : World} {base : Nat} {sp : Nat → Bool} {held : Bool} : Opens enc Tryd.prog w base sp held (Kd.slice 25 k25) 27 (fun l => ∀ x ∈ l, True) :=
 opens_slice Tryd.underlying27 (by kernel_rfl) opens_span
end Go.Proofs.YtegjegihcebimaaDoor.Pure
end
