/- Part 17 of the proof of topTwo_holds: out of the texts that this session's programs wrote, what the theorem reaches. -/
import Derived.Deep.Slices
import Derived.Deep.Strs
import Derived.KernelRfl
import Derived.Lib.SmallJoins
import Derived.OpenShut
import Derived.ProofKit
import Derived.Test.YtegjegihcebimaaDoorZ13
import Derived.Test.YtegjegihcebimaaDoorZ14
import Derived.Test.YtegjegihcebimaaDoorZ16
import Derived.Test.YtegjegihcebimaaDoorZ2
section
namespace Go.Proofs.YtegjegihcebimaaDoor.Pure
open Go.RowKit Go.Proofs.YtegjegihcebimaaDoor.P Go.Proofs.YtegjegihcebimaaDoorW.PrintWords Go.Proofs.YtegjegihcebimaaDoorW.PrintLast Go.Proofs.YtegjegihcebimaaDoorW.PrintMore
set_option linter.unusedVariables false
set_option linter.unusedSimpArgs false
def und (s a : List At) : List At :=
 match s, a with
 | .I c :: s, a => .I c :: und s a
 | s, .I c :: a => .K :: und s a
 | .K :: s, .K :: a => .K :: und s a
 | .D :: s, .K :: a => .D :: und s a
 | .K :: s, .D :: a => und s a
 | .D :: s, .D :: a => und s a
 | _, _ => []
termination_by a.length + s.length
theorem und_I (s a : List At) (c : Int) : und (.I c :: s) a = .I c :: und s a := by rw [und]
theorem und_aI (s a : List At) (c : Int) (h : noI s) : und s (.I c :: a) = .K :: und s a := by rw [und]; exact fun c l e => h c l e
theorem und_KK (s a : List At) : und (.K :: s) (.K :: a) = .K :: und s a := by rw [und]
theorem und_DK (s a : List At) : und (.D :: s) (.K :: a) = .D :: und s a := by rw [und]
theorem und_KD (s a : List At) : und (.K :: s) (.D :: a) = und s a := by rw [und]
theorem und_DD (s a : List At) : und (.D :: s) (.D :: a) = und s a := by rw [und]
theorem und_nil : und [] [] = [] := by rw [und] <;> (intros; simp_all)
theorem app_cI (c : Int) (l : List At) (t : List Int) : app (.I c :: l) t = c :: app l t := by rw [app]
theorem app_cK (c : Int) (l : List At) (t : List Int) : app (.K :: l) (c :: t) = c :: app l t := by rw [app]
theorem app_cD (c : Int) (l : List At) (t : List Int) : app (.D :: l) (c :: t) = app l t := by rw [app]
theorem n0 : noI [] := fun c l' e => by cases e
theorem und_app : ∀ (n : Nat) (a s : List At) (u : List Int), a.length + s.length ≤ n → ins a = u.length → ins s = u.length → app (und s a) (app a u) = app (ovr a s) (app s u)
 | 0, a, s, u, h, _, _ => by
  obtain rfl : a = [] := List.length_eq_zero_iff.1 (by omega)
  obtain rfl : s = [] := List.length_eq_zero_iff.1 (by omega)
  rw [und_nil, ovr_nil]
 | n + 1, a, s, u, h, ha, hs => by
  rcases noI_or s with cs | ⟨c, s, rfl⟩
  ·rcases noI_or a with ca | ⟨c, a, rfl⟩
   ·cases u with
    | nil =>
     have es : s = [] := by
      cases s with
      | nil => rfl
      | cons x s => cases x with
       | K => rw [ins_cons] at hs; simp only [At.i, List.length_nil] at hs; omega
       | D => rw [ins_cons] at hs; simp only [At.i, List.length_nil] at hs; omega
       | I c => exact absurd rfl (cs c s)
     have ea : a = [] := by
      cases a with
      | nil => rfl
      | cons x a => cases x with
       | K => rw [ins_cons] at ha; simp only [At.i, List.length_nil] at ha; omega
       | D => rw [ins_cons] at ha; simp only [At.i, List.length_nil] at ha; omega
       | I c => exact absurd rfl (ca c a)
     subst es ea
     rw [und_nil, ovr_nil]
    | cons v u =>
     cases s with
     | nil => rw [ins_nil, List.length_cons] at hs; omega
     | cons x s =>
      cases a with
      | nil => rw [ins_nil, List.length_cons] at ha; omega
      | cons y a =>
       rw [List.length_cons, List.length_cons] at h
       rw [ins_cons, List.length_cons] at ha hs
       cases x with
       | I c => exact absurd rfl (cs c s)
       | K => cases y with
        | I c => exact absurd rfl (ca c a)
        | K =>
         simp only [At.i] at ha hs
         rw [und_KK, ovr_KK, app_cK, app_cK, app_cK, app_cK, und_app n a s u (by omega) (by omega) (by omega)]
        | D =>
         simp only [At.i] at ha hs
         rw [und_KD, ovr_DK, app_cD, app_cK, app_cD, und_app n a s u (by omega) (by omega) (by omega)]
       | D => cases y with
        | I c => exact absurd rfl (ca c a)
        | K =>
         simp only [At.i] at ha hs
         rw [und_DK, ovr_KD, app_cK, app_cD, app_cD, und_app n a s u (by omega) (by omega) (by omega)]
        | D =>
         simp only [At.i] at ha hs
         rw [und_DD, ovr_DD, app_cD, app_cD, und_app n a s u (by omega) (by omega) (by omega)]
   ·rw [List.length_cons] at h
    rw [ins_cons] at ha; simp only [At.i] at ha
    rw [und_aI _ _ _ cs, ovr_aI _ _ _ cs, app_cI, app_cK, app_cI, und_app n a s u (by omega) (by omega) (by omega)]
  ·rw [List.length_cons] at h
   rw [ins_cons] at hs; simp only [At.i] at hs
   rw [und_I, ovr_I, app_cI, app_cI, app_cK, und_app n a s u (by omega) (by omega) (by omega)]
theorem ovr_outs : ∀ (n : Nat) (a s : List At), a.length + s.length ≤ n → ins a = ins s → outs (ovr a s) = outs (ovr s a)
 | 0, a, s, h, _ => by
  obtain rfl : a = [] := List.length_eq_zero_iff.1 (by omega)
  obtain rfl : s = [] := List.length_eq_zero_iff.1 (by omega)
  rfl
 | n + 1, a, s, h, hi => by
  rcases noI_or s with cs | ⟨c, s, rfl⟩
  ·rcases noI_or a with ca | ⟨d, a, rfl⟩
   ·cases s with
    | nil =>
     have ea : a = [] := by
      cases a with
      | nil => rfl
      | cons x a => cases x with
       | K => rw [ins_cons, ins_nil] at hi; simp only [At.i] at hi; omega
       | D => rw [ins_cons, ins_nil] at hi; simp only [At.i] at hi; omega
       | I c => exact absurd rfl (ca c a)
     subst ea; rfl
    | cons x s =>
     cases a with
     | nil =>
      cases x with
      | K => rw [ins_cons, ins_nil] at hi; simp only [At.i] at hi; omega
      | D => rw [ins_cons, ins_nil] at hi; simp only [At.i] at hi; omega
      | I c => exact absurd rfl (cs c s)
     | cons y a =>
      rw [List.length_cons, List.length_cons] at h
      rw [ins_cons, ins_cons] at hi
      cases x with
      | I c => exact absurd rfl (cs c s)
      | K => cases y with
       | I c => exact absurd rfl (ca c a)
       | K => simp only [At.i] at hi; rw [ovr_KK, ovr_KK, outs_cons, outs_cons, ovr_outs n a s (by omega) (by omega)]
       | D => simp only [At.i] at hi; rw [ovr_DK, ovr_KD, outs_cons, ovr_outs n a s (by omega) (by omega)]; simp [At.o]
      | D => cases y with
       | I c => exact absurd rfl (ca c a)
       | K => simp only [At.i] at hi; rw [ovr_KD, ovr_DK, outs_cons, ovr_outs n a s (by omega) (by omega)]; simp [At.o]
       | D => simp only [At.i] at hi; rw [ovr_DD, ovr_DD, ovr_outs n a s (by omega) (by omega)]
   ·rw [List.length_cons] at h
    rw [ins_cons] at hi; simp only [At.i] at hi
    rw [ovr_aI _ _ _ cs, ovr_I, outs_cons, outs_cons, ovr_outs n a s (by omega) (by omega)]; rfl
  ·rw [List.length_cons] at h
   rw [ins_cons] at hi; simp only [At.i] at hi
   rcases noI_or a with ca | ⟨d, a, rfl⟩
   ·rw [ovr_I, ovr_aI _ _ _ ca, outs_cons, outs_cons, ovr_outs n a s (by omega) (by omega)]; rfl
   ·rw [List.length_cons] at h
    rw [ins_cons] at hi; simp only [At.i] at hi
    rw [ovr_I, ovr_I, outs_cons, outs_cons, ovr_outs n (.I d :: a) s (by rw [List.length_cons]; omega) (by rw [ins_cons]; simp only [At.i]; omega), ovr_I, outs_cons, ← ovr_outs n a (.I c :: s) (by rw [List.length_cons]; omega) (by rw [ins_cons]; simp only [At.i]; omega), ovr_I, outs_cons, ovr_outs n a s (by omega) (by omega)]
theorem und_len : ∀ (n : Nat) (a s : List At), a.length + s.length ≤ n → ins a = ins s → ins (und s a) = outs a ∧ (und s a).length ≤ a.length + s.length
 | 0, a, s, h, _ => by
  obtain rfl : a = [] := List.length_eq_zero_iff.1 (by omega)
  obtain rfl : s = [] := List.length_eq_zero_iff.1 (by omega)
  rw [und_nil]; exact ⟨rfl, Nat.le_refl _⟩
 | n + 1, a, s, h, hi => by
  rcases noI_or s with cs | ⟨c, s, rfl⟩
  ·rcases noI_or a with ca | ⟨d, a, rfl⟩
   ·cases s with
    | nil =>
     have ea : a = [] := by
      cases a with
      | nil => rfl
      | cons x a => cases x with
       | K => rw [ins_cons, ins_nil] at hi; simp only [At.i] at hi; omega
       | D => rw [ins_cons, ins_nil] at hi; simp only [At.i] at hi; omega
       | I c => exact absurd rfl (ca c a)
     subst ea; rw [und_nil]; exact ⟨rfl, Nat.le_refl _⟩
    | cons x s =>
     cases a with
     | nil =>
      cases x with
      | K => rw [ins_cons, ins_nil] at hi; simp only [At.i] at hi; omega
      | D => rw [ins_cons, ins_nil] at hi; simp only [At.i] at hi; omega
      | I c => exact absurd rfl (cs c s)
     | cons y a =>
      rw [List.length_cons, List.length_cons] at h ⊢
      rw [ins_cons, ins_cons] at hi
      cases x with
      | I c => exact absurd rfl (cs c s)
      | K => cases y with
       | I c => exact absurd rfl (ca c a)
       | K => simp only [At.i] at hi; have := und_len n a s (by omega) (by omega); rw [und_KK, ins_cons, outs_cons, List.length_cons]; simp only [At.i, At.o]; omega
       | D => simp only [At.i] at hi; have := und_len n a s (by omega) (by omega); rw [und_KD, outs_cons]; simp only [At.o]; omega
      | D => cases y with
       | I c => exact absurd rfl (ca c a)
       | K => simp only [At.i] at hi; have := und_len n a s (by omega) (by omega); rw [und_DK, ins_cons, outs_cons, List.length_cons]; simp only [At.i, At.o]; omega
       | D => simp only [At.i] at hi; have := und_len n a s (by omega) (by omega); rw [und_DD, outs_cons]; simp only [At.o]; omega
   ·rw [List.length_cons] at h ⊢
    rw [ins_cons] at hi; simp only [At.i] at hi
    have := und_len n a s (by omega) (by omega)
    rw [und_aI _ _ _ cs, ins_cons, outs_cons, List.length_cons]; simp only [At.i, At.o]; omega
  ·rw [List.length_cons] at h ⊢
   rw [ins_cons] at hi; simp only [At.i] at hi
   have := und_len n a s (by omega) (by omega)
   rw [und_I, ins_cons, List.length_cons]; simp only [At.i]; omega
theorem und_rI (s a : List At) : ∀ t : List Int, und (t.map At.I ++ s) a = t.map At.I ++ und s a
 | [] => rfl
 | c :: t => by rw [List.map_cons, List.cons_append, und_I, und_rI s a t]; rfl
theorem und_ra (s a : List At) (h : noI s) : ∀ t : List Int, und s (t.map At.I ++ a) = List.replicate t.length At.K ++ und s a
 | [] => rfl
 | c :: t => by rw [List.map_cons, List.cons_append, und_aI _ _ _ h, und_ra s a h t, List.length_cons, List.replicate_succ]; rfl
theorem und_rK (s a : List At) (f : Int) (hf : f = 1 ∨ f = 3) : ∀ n : Nat, und (List.replicate n (atk f) ++ s) (List.replicate n At.K ++ a) = List.replicate n (atk f) ++ und s a
 | 0 => rfl
 | n + 1 => by
  rw [List.replicate_succ, List.replicate_succ, List.cons_append, List.cons_append]
  rcases hf with rfl | rfl
  ·show und (.K :: _) (.K :: _) = _
   rw [und_KK]; exact congrArg (At.K :: ·) (und_rK s a 1 (.inl rfl) n)
  ·show und (.D :: _) (.K :: _) = _
   rw [und_DK]; exact congrArg (At.D :: ·) (und_rK s a 3 (.inr rfl) n)
theorem und_rD (s a : List At) (f : Int) (hf : f = 1 ∨ f = 3) : ∀ n : Nat, und (List.replicate n (atk f) ++ s) (List.replicate n At.D ++ a) = und s a
 | 0 => rfl
 | n + 1 => by
  rw [List.replicate_succ, List.replicate_succ, List.cons_append, List.cons_append]
  rcases hf with rfl | rfl
  ·show und (.K :: _) (.D :: _) = _
   rw [und_KD]; exact und_rD s a 1 (.inl rfl) n
  ·show und (.D :: _) (.D :: _) = _
   rw [und_DD]; exact und_rD s a 3 (.inr rfl) n
def Red (S : List S25) (d : Int) (s : List S25) : Prop := (d = 0 ∧ S = s) ∨ ∃ (f : Int) (n p : Nat) (l : List S25), (f = 1 ∨ f = 3) ∧ 0 < n ∧ 0 < p ∧ n + p ≤ 1000000 ∧ d = (p : Int) ∧ S = ⟨f, ((n + p : Nat) : Int), ⟨#[]⟩⟩ :: l ∧ s = ⟨f, (n : Int), ⟨#[]⟩⟩ :: l
theorem red_nil {S : List S25} {d : Int} (h : Red S d []) : d = 0 ∧ S = [] := by
 rcases h with h | ⟨f, n, p, l, _, _, _, _, _, _, h⟩
 ·exact h
 ·cases h
theorem red_put {S l : List S25} {d : Int} {t : ByteArray} (h : Red S d (⟨2, 0, t⟩ :: l)) : d = 0 ∧ S = ⟨2, 0, t⟩ :: l := by
 rcases h with h | ⟨f, n, p, l, hf, _, _, _, _, _, h⟩
 ·exact h
 ·injection h with h
  injection h with h
  rcases hf with rfl | rfl <;> cases h
theorem red_step {S l : List S25} {d f : Int} {n q : Nat} (h : Red S d (⟨f, (n : Int), ⟨#[]⟩⟩ :: l)) (hf : f = 1 ∨ f = 3) (hn : 0 < n) (hb : n ≤ 1000000) (hq : 0 < q) (hqn : q ≤ n) :
  ∃ N d1 : Int, S = ⟨f, N, ⟨#[]⟩⟩ :: l ∧ wrap64 (N - d) = (n : Int) ∧ wrap64 (d + (q : Int)) = d1 ∧ Red (if d1 = N then l else S) (if d1 = N then 0 else d1) (restN f (n : Int) (q : Int) ⟨#[]⟩ l) := by
 obtain ⟨p, hp, rfl, rfl⟩ : ∃ p : Nat, n + p ≤ 1000000 ∧ d = (p : Int) ∧ S = ⟨f, ((n + p : Nat) : Int), ⟨#[]⟩⟩ :: l := by
  rcases h with ⟨rfl, rfl⟩ | ⟨f', n', p, l', _, _, _, hp, rfl, rfl, h⟩
  ·exact ⟨0, by omega, rfl, rfl⟩
  ·injection h with h1 h2
   injection h1 with h1 h3 _
   subst h1 h2
   have : n' = n := by omega
   subst this
   exact ⟨p, hp, rfl, rfl⟩
 refine ⟨_, ((p + q : Nat) : Int), rfl, by rw [w64 (by omega) (by omega)]; omega, by rw [w64 (by omega) (by omega)]; omega, ?_⟩
 by_cases c : n = q
 ·subst c
  rw [if_pos (by omega), if_pos (by omega), show restN f (n : Int) (n : Int) ⟨#[]⟩ l = l from if_pos rfl]
  exact .inl ⟨rfl, rfl⟩
 ·rw [if_neg (by omega), if_neg (by omega), show restN f (n : Int) (q : Int) ⟨#[]⟩ l = ⟨f, (n : Int) - (q : Int), ⟨#[]⟩⟩ :: l from if_neg (by omega)]
  refine .inr ⟨f, n - q, p + q, l, hf, by omega, by omega, by omega, rfl, ?_, ?_⟩
  ·rw [show n - q + (p + q) = n + p by omega]
  ·rw [show (n : Int) - (q : Int) = ((n - q : Nat) : Int) by omega]
theorem red_head {S l : List S25} {d f : Int} {n : Nat} (h : Red S d (⟨f, (n : Int), ⟨#[]⟩⟩ :: l)) : ∃ N : Int, S = ⟨f, N, ⟨#[]⟩⟩ :: l := by
 rcases h with ⟨rfl, rfl⟩ | ⟨f', n', p, l', _, _, _, hp, rfl, rfl, h⟩
 ·exact ⟨_, rfl⟩
 ·injection h with h1 h2
  injection h1 with h1 h3 _
  subst h1 h2
  exact ⟨_, rfl⟩
theorem span_put {t : List Int} (ht : Runes t) (hs : t.length ≤ 1000000) : span_Out.f 2 0 (enc t) = some (t.length : Int) := by
 have := out_1 (x := ⟨2, 0, enc t⟩) (okA_I ht) (by rw [at1_I 0 ht, List.length_map]; exact hs)
 rw [at1_I 0 ht, outs_I] at this
 exact this
theorem under_l : ∀ (m : Nat) (s a out S A : List S25) (d g : Int), Red S d s → Red A g a → W s → (∀ y ∈ s, ne y) → W a → (∀ y ∈ a, ne y) → s.length + a.length ≤ m → (ats s).length ≤ 1000000 → (ats a).length ≤ 1000000 → out.length + m ≤ 100000000 → ins (ats s) = ins (ats a) →
  ∃ r, (∀ k, m + 1 ≤ k → under_Of.l k S A d g out = some (out ++ r)) ∧ W r ∧ ats r = und (ats s) (ats a) ∧ r.length ≤ s.length + a.length := by
 intro m
 induction m with
 | zero =>
  intro s a out S A d g hS hA _ _ _ _ hm _ _ ho _
  obtain rfl : a = [] := List.length_eq_zero_iff.1 (by omega)
  obtain rfl : s = [] := List.length_eq_zero_iff.1 (by omega)
  obtain ⟨rfl, rfl⟩ := red_nil hS
  obtain ⟨rfl, rfl⟩ := red_nil hA
  refine ⟨[], fun k hk => ?_, W_nil, und_nil.symm, by simp⟩
  obtain ⟨k, rfl⟩ : ∃ j, k = j + 1 := ⟨k - 1, by omega⟩
  rw [under_Of.l, if_pos (by omega), List.append_nil]; rfl
 | succ m ih =>
  intro s a out S A d g hS hA ws ns wa na hm bs ba ho hio
  have keep : ∀ (t : List Int) (a' : List S25) (_ : a = ⟨2, 0, enc t⟩ :: a') (_ : Runes t) (_ : noI (ats s)) (_ : ∀ k, under_Of.l (k + 1) S A d g out = under_Of.l k S a' d 0 (out ++ [sK t.length])),
    ∃ r, (∀ k, m + 1 + 1 ≤ k → under_Of.l k S A d g out = some (out ++ r)) ∧ W r ∧ ats r = und (ats s) (ats a) ∧ r.length ≤ s.length + a.length := by
   rintro t a' rfl ht hno step
   obtain ⟨w1, w2⟩ := W_cons.1 wa
   rw [ats_cons, at1_I 0 ht] at hio ba ⊢
   rw [ins_app, ins_I] at hio
   rw [List.length_append] at ba
   rw [List.length_cons] at hm
   obtain ⟨r, h1, h2, h3, h4⟩ := ih s a' (out ++ [sK t.length]) S a' d 0 hS (.inl ⟨rfl, rfl⟩) ws ns w2 (fun y hy => na y (by simp [hy])) (by omega) bs (by omega) (by rw [List.length_append, List.length_singleton]; omega) (by omega)
   refine ⟨sK t.length :: r, fun k hk => ?_, W_cons.2 ⟨okA_K _, h2⟩, ?_, by rw [List.length_cons, List.length_cons]; omega⟩
   ·obtain ⟨k, rfl⟩ : ∃ j, k = j + 1 := ⟨k - 1, by omega⟩
    rw [step k, h1 k (by omega), List.append_assoc]; rfl
   ·rw [ats_cons, at1_K, Int.toNat_natCast, h3, und_ra _ _ hno]
  have len : ∀ t : List Int, Runes t → ∀ a', a = ⟨2, 0, enc t⟩ :: a' → t.length ≤ 1000000 := by
   rintro t ht a' rfl
   rw [ats_cons, at1_I 0 ht, List.length_append, List.length_map] at ba
   omega
  cases s with
  | nil =>
   obtain ⟨rfl, rfl⟩ := red_nil hS
   cases a with
   | nil =>
    obtain ⟨rfl, rfl⟩ := red_nil hA
    refine ⟨[], fun k hk => ?_, W_nil, und_nil.symm, by simp⟩
    obtain ⟨k, rfl⟩ : ∃ j, k = j + 1 := ⟨k - 1, by omega⟩
    rw [under_Of.l, if_pos (by omega), List.append_nil]; rfl
   | cons y a =>
    have hy := na y (by simp)
    rcases okA_cases (W_cons.1 wa).1 with ⟨n, rfl⟩ | ⟨n, rfl⟩ | ⟨t, ht, rfl⟩
    ·exfalso
     rw [ats_cons, at1_K, ins_app, ins_K, ats_nil, ins_nil, Int.toNat_natCast] at hio
     unfold ne at hy; rw [at1_K, show ((n : Int)).toNat = 0 by omega] at hy; exact hy rfl
    ·exfalso
     rw [ats_cons, at1_D, ins_app, ins_D, ats_nil, ins_nil, Int.toNat_natCast] at hio
     unfold ne at hy; rw [at1_D, show ((n : Int)).toNat = 0 by omega] at hy; exact hy rfl
    ·obtain ⟨rfl, rfl⟩ := red_put hA
     refine keep t a rfl ht n0 fun k => ?_
     rw [under_Of.l, if_pos (by omega)]
     show (if (2 : Int) = 2 then (span_Out.f 2 0 (enc t)).bind _ else none) = _
     rw [if_pos rfl, span_put ht (len t ht a rfl), Option.bind_some]
  | cons x s =>
   obtain ⟨x1, x2⟩ := W_cons.1 ws
   have hx := ns x (by simp)
   have ns' : ∀ z ∈ s, ne z := fun z hz => ns z (by simp [hz])
   have both : ∀ (f : Int) (n : Nat), (f = 1 ∨ f = 3) → x = ⟨f, (n : Int), ⟨#[]⟩⟩ → 0 < n → ∃ r, (∀ k, m + 1 + 1 ≤ k → under_Of.l k S A d g out = some (out ++ r)) ∧ W r ∧ ats r = und (ats (x :: s)) (ats a) ∧ r.length ≤ (x :: s).length + a.length := by
    rintro f n hf rfl hn
    have f2 : ¬ f = 2 := by rcases hf with rfl | rfl <;> decide
    have ef : at1 (⟨f, (n : Int), ⟨#[]⟩⟩ : S25) = List.replicate n (atk f) := by rcases hf with rfl | rfl <;> rfl
    have jf : ins (List.replicate n (atk f)) = n := by rcases hf with rfl | rfl; exact ins_K n; exact ins_D n
    have nof : noI (List.replicate n (atk f) ++ ats s) := noI_rep (by rcases hf with rfl | rfl <;> (intro c e; cases e)) hn _
    obtain ⟨N0, hN0⟩ := red_head hS
    cases a with
    | nil => exfalso; rw [ats_nil, ins_nil, ats_cons, ef, ins_app, jf] at hio; omega
    | cons y a =>
     obtain ⟨y1, y2⟩ := W_cons.1 wa
     have hy := na y (by simp)
     have na' : ∀ z ∈ a, ne z := fun z hz => na z (by simp [hz])
     have num : ∀ (h : Int) (p : Nat), (h = 1 ∨ h = 3) → y = ⟨h, (p : Int), ⟨#[]⟩⟩ → 0 < p → ∃ r, (∀ k, m + 1 + 1 ≤ k → under_Of.l k S A d g out = some (out ++ r)) ∧ W r ∧ ats r = und (ats (⟨f, (n : Int), ⟨#[]⟩⟩ :: s)) (ats (y :: a)) ∧ r.length ≤ ((⟨f, (n : Int), ⟨#[]⟩⟩ : S25) :: s).length + (y :: a).length := by
      rintro h p hh rfl hp
      have h2 : ¬ h = 2 := by rcases hh with rfl | rfl <;> decide
      have eh : at1 (⟨h, (p : Int), ⟨#[]⟩⟩ : S25) = List.replicate p (atk h) := by rcases hh with rfl | rfl <;> rfl
      have jh : ins (List.replicate p (atk h)) = p := by rcases hh with rfl | rfl; exact ins_K p; exact ins_D p
      rw [ats_cons, ef] at hio bs ⊢
      rw [ats_cons, eh] at hio ba ⊢
      rw [ins_app, ins_app, jf, jh] at hio
      rw [List.length_append, List.length_replicate] at ba bs
      rw [List.length_cons, List.length_cons] at hm
      obtain ⟨a1, a2, a3, a4, a5⟩ := restN_A hf (Nat.min_le_left n p) x2 ns'
      obtain ⟨b1, b2, b3, b4, b5⟩ := restN_A hh (Nat.min_le_right n p) y2 na'
      have jf' : ins (List.replicate (n - min n p) (atk f)) = n - min n p := by rcases hf with rfl | rfl; exact ins_K _; exact ins_D _
      have jh' : ins (List.replicate (p - min n p) (atk h)) = p - min n p := by rcases hh with rfl | rfl; exact ins_K _; exact ins_D _
      have hl : (restN f (n : Int) ((min n p : Nat) : Int) ⟨#[]⟩ s).length + (restN h (p : Int) ((min n p : Nat) : Int) ⟨#[]⟩ a).length ≤ s.length + a.length + 1 := by
       rcases (by omega : n = min n p ∨ p = min n p) with e | e
       ·have := a5 e; omega
       ·have := b5 e; omega
      obtain ⟨N, d1, eS, s1, s2, s3⟩ := red_step hS hf hn (by omega) (q := min n p) (by omega) (Nat.min_le_left n p)
      obtain ⟨P, g1, eA, t1, t2, t3⟩ := red_step hA hh hp (by omega) (q := min n p) (by omega) (Nat.min_le_right n p)
      have go := fun o ho => ih (restN f (n : Int) ((min n p : Nat) : Int) ⟨#[]⟩ s) (restN h (p : Int) ((min n p : Nat) : Int) ⟨#[]⟩ a) o _ _ _ _ s3 t3 a1 a2 b1 b2 (by omega) (by rw [a3, List.length_append, List.length_replicate]; omega) (by rw [b3, List.length_append, List.length_replicate]; omega) ho (by rw [a3, b3, ins_app, ins_app, jf', jh']; omega)
      have step : ∀ k, under_Of.l (k + 1) S A d g out = under_Of.l k (if d1 = N then s else S) (if g1 = P then a else A) (if d1 = N then 0 else d1) (if g1 = P then 0 else g1) (if h = 1 then out ++ [⟨f, ((min n p : Nat) : Int), ⟨#[]⟩⟩] else out) := by
       intro k
       rw [under_Of.l, if_pos (by omega), eS, eA, under_Of.st_take _ _ _ _ _ _ _ _ f2 h2 _ _ _ d1 g1 s1 t1 (mn_nat n p) s2 t2]
      rcases hh with rfl | rfl
      ·obtain ⟨r, h1, h2, h3, h4⟩ := go (out ++ [⟨f, ((min n p : Nat) : Int), ⟨#[]⟩⟩]) (by rw [List.length_append, List.length_singleton]; omega)
       refine ⟨⟨f, ((min n p : Nat) : Int), ⟨#[]⟩⟩ :: r, fun k hk => ?_, W_cons.2 ⟨by rcases hf with rfl | rfl; exact okA_K _; exact okA_D _, h2⟩, ?_, by simp only [List.length_cons]; omega⟩
       ·obtain ⟨k, rfl⟩ : ∃ j, k = j + 1 := ⟨k - 1, by omega⟩
        rw [step k, if_pos (show (1 : Int) = 1 from rfl), h1 k (by omega), List.append_assoc]; rfl
       ·have e1 : at1 (⟨f, ((min n p : Nat) : Int), ⟨#[]⟩⟩ : S25) = List.replicate (min n p) (atk f) := by rcases hf with rfl | rfl <;> rfl
        rw [ats_cons, e1, h3, a3, b3, rep_split (atk f) (Nat.min_le_left n p), rep_split (n := p) (atk 1) (Nat.min_le_right n p), List.append_assoc, List.append_assoc]
        exact (und_rK _ _ f hf _).symm
      ·obtain ⟨r, h1, h2, h3, h4⟩ := go out (by omega)
       refine ⟨r, fun k hk => ?_, h2, ?_, by simp only [List.length_cons]; omega⟩
       ·obtain ⟨k, rfl⟩ : ∃ j, k = j + 1 := ⟨k - 1, by omega⟩
        rw [step k, if_neg (show ¬ (3 : Int) = 1 by decide), h1 k (by omega)]
       ·rw [h3, a3, b3, rep_split (atk f) (Nat.min_le_left n p), rep_split (n := p) (atk 3) (Nat.min_le_right n p), List.append_assoc, List.append_assoc]
        exact (und_rD _ _ f hf _).symm
     rcases okA_cases y1 with ⟨p, rfl⟩ | ⟨p, rfl⟩ | ⟨t, ht, rfl⟩
     ·exact num 1 p (.inl rfl) rfl (by unfold ne at hy; rw [at1_K] at hy; cases p with | zero => exact absurd rfl hy | succ n => omega)
     ·exact num 3 p (.inr rfl) rfl (by unfold ne at hy; rw [at1_D] at hy; cases p with | zero => exact absurd rfl hy | succ n => omega)
     ·obtain ⟨rfl, rfl⟩ := red_put hA
      refine keep t a rfl ht (by rw [ats_cons, ef]; exact nof) fun k => ?_
      rw [under_Of.l, if_pos (by omega), hN0, under_Of.st_keep _ _ _ _ _ _ _ _ f2 rfl, span_put ht (len t ht a rfl), Option.bind_some]
   rcases okA_cases x1 with ⟨n, rfl⟩ | ⟨n, rfl⟩ | ⟨t, ht, rfl⟩
   ·exact both 1 n (.inl rfl) rfl (by unfold ne at hx; rw [at1_K] at hx; cases n with | zero => exact absurd rfl hx | succ n => omega)
   ·exact both 3 n (.inr rfl) rfl (by unfold ne at hx; rw [at1_D] at hx; cases n with | zero => exact absurd rfl hx | succ n => omega)
   ·obtain ⟨rfl, rfl⟩ := red_put hS
    rw [ats_cons, at1_I 0 ht] at hio bs ⊢
    rw [ins_app, ins_I] at hio
    rw [List.length_append, List.length_map] at bs
    rw [List.length_cons] at hm
    obtain ⟨r, h1, h2, h3, h4⟩ := ih s a (out ++ [⟨2, 0, enc t⟩]) s A 0 g (.inl ⟨rfl, rfl⟩) hA x2 ns' wa na (by omega) (by omega) ba (by rw [List.length_append, List.length_singleton]; omega) (by omega)
    refine ⟨⟨2, 0, enc t⟩ :: r, fun k hk => ?_, W_cons.2 ⟨okA_I ht, h2⟩, ?_, by rw [List.length_cons, List.length_cons]; omega⟩
    ·obtain ⟨k, rfl⟩ : ∃ j, k = j + 1 := ⟨k - 1, by omega⟩
     rw [under_Of.l, if_pos (by omega), under_Of.st_put _ _ _ _ _ _ _ rfl, h1 k (by omega), List.append_assoc]; rfl
    ·rw [ats_cons, at1_I 0 ht, h3, und_rI]
theorem under_A {s a : List S25} (ws : W s) (wa : W a) (hab : (ats s).length + (ats a).length ≤ 1000000) (ll : s.length + a.length ≤ 1000000) (hio : ins (ats s) = ins (ats a)) (k : Nat) (hk : s.length + a.length + 4 ≤ k) :
  ∃ (n : Int) (la ls out r : List S25), op_May.f k s = some 0 ∧ op_May.f k a = some 0 ∧ op_In.f s = some n ∧ op_In.f a = some n ∧ normal_Of.f s = some la ∧ normal_Of.f a = some ls ∧ under_Of.l k la ls 0 0 [] = some out ∧ normal_Of.f out = some r ∧ W r ∧ Alt r ∧ ats r = und (ats s) (ats a) := by
 obtain ⟨w1, n1, e1, l1⟩ := norm_A ws (by omega)
 obtain ⟨w2, n2, e2, l2⟩ := norm_A wa (by omega)
 have ol := und_len _ (ats a) (ats s) (Nat.le_refl _) hio.symm
 obtain ⟨r, h1, h2, h3, h4⟩ := under_l ((normal_Of.n s).length + (normal_Of.n a).length) _ _ [] _ _ 0 0 (.inl ⟨rfl, rfl⟩) (.inl ⟨rfl, rfl⟩) w1 (alt_ne n1) w2 (alt_ne n2) (Nat.le_refl _) (by rw [e1]; omega) (by rw [e2]; omega) (by simp only [List.length_nil]; omega) (by rw [e1, e2]; exact hio)
 rw [e1, e2] at h3
 simp only [List.nil_append] at h1
 obtain ⟨w3, n3, e3, l3⟩ := norm_A h2 (by rw [h3]; omega)
 exact ⟨_, _, _, _, _, may_A ws (by omega) (by omega) k (by omega), may_A wa (by omega) (by omega) k (by omega), in_A ws (by omega) (by omega), by rw [in_A wa (by omega) (by omega), hio], normal_A ws (by omega) (by omega), normal_A wa (by omega) (by omega), h1 k (by omega), normal_A h2 (by rw [h3]; omega) (by omega), w3, n3, by rw [e3, h3]⟩
set_option maxRecDepth 100000 in
theorem shown_two (k : Nat) (hk : 60 ≤ k) : epitometop_shown.f k = some true := up epitometop_shown.mono hk (by decide +kernel)
theorem all_W {s : List Int} {l : List (List S25)} (h : ch s.length l) (hn : ∀ x ∈ l, x.length ≤ 400000) (hr : Runes s) (ht : s.length + tot l ≤ 400000) (hl : l.length ≤ 60000) (h0 : l ≠ []) (k : Nat) (hk : 1100010 ≤ k) : apply_All.f k (enc s) l = some (enc (txs s l), 0) ∧ Runes (txs s l) := by
 have go : ∀ (d i k : Nat) (t : List Int), l.length - i = d → i ≤ l.length → 1000005 + d ≤ k → ch t.length (l.drop i) → Runes t → t.length + tot (l.drop i) ≤ 400000 → apply_All.l0 k (enc t) l (l.length : Int) (i : Int) = some (enc (txs t (l.drop i)), 0) ∧ Runes (txs t (l.drop i)) := by
  intro d
  induction d with
  | zero =>
   intro i k t hd hi hk hc hrt ht
   obtain ⟨k, rfl⟩ : ∃ j, k = j + 1 := ⟨k - 1, by omega⟩
   rw [apply_All.l0, if_neg (by omega), List.drop_of_length_le (by omega)]
   exact ⟨rfl, hrt⟩
  | succ d ih =>
   intro i k t hd hi hk hc hrt ht
   obtain ⟨k, rfl⟩ : ∃ j, k = j + 1 := ⟨k - 1, by omega⟩
   have hm : l[i] ∈ l := List.getElem_mem _
   rw [List.drop_eq_getElem_cons (show i < l.length by omega)] at hc ht ⊢
   obtain ⟨c1, c2, c3⟩ := hc
   rw [tot_cons] at ht
   have la := hn _ hm
   obtain ⟨a1, a2⟩ := to_A c1 (by omega) c2 hrt (by omega) k (by omega)
   have al := app_len (ats l[i]) t c2
   have ol := outs_le (ats l[i])
   obtain ⟨i1, i2⟩ := ih (i + 1) k (app (ats l[i]) t) (by omega) (by omega) (by omega) (by rw [al]; exact c3) a2 (by omega)
   rw [apply_All.l0, if_pos (by omega), if_pos (by omega), if_pos (by omega), rdL_at l i (by omega), a1, Option.bind_some, if_pos rfl, w64 (by omega) (by omega), show (i : Int) + 1 = ((i + 1 : Nat) : Int) by omega]
   exact ⟨i1, i2⟩
 obtain ⟨k, rfl⟩ : ∃ j, k = j + 1 := ⟨k - 1, by omega⟩
 obtain ⟨g1, g2⟩ := go l.length 0 k s rfl (Nat.zero_le _) (by omega) h hr ht
 rw [List.drop_zero] at g1 g2
 refine ⟨?_, g2⟩
 have hc : l.length ≠ 0 := fun e => h0 (List.length_eq_zero_iff.1 e)
 unfold apply_All.f
 rw [if_neg (by omega), apply_All.j0, if_neg (by decide)]
 exact g1
theorem two_way {u : List Int} (hu : Runes u) (hul : u.length ≤ 20) {xa xb : List S25} (wa : W xa) (wb : W xb) (ia : ins (ats xa) = u.length) (ib : ins (ats xb) = u.length) (la : (ats xa).length ≤ 92) (lb : (ats xb).length ≤ 92) (na : xa.length ≤ 13) (nb : xb.length ≤ 13) :
  ∃ ya pb, ∃ za qb : Int, ∃ nm ux, ∃ n' : Int, ∃ l1 l2 o one, ∃ m : Int, SubOk 7000000 [0] [] [(u.length : Int)] 0 xa 0 0 (u.length : Int) 0 1 ya za ∧ SubOk 7000000 ([0] ++ [1]) ([] ++ [ya]) ([(u.length : Int)] ++ [za]) 0 xb 0 0 (u.length : Int) 1 2 pb qb ∧ over_Of.f 7000000 xb xa = some (pb, 0) ∧ normal_Of.f xa = some nm ∧ UndOk 7000000 nm xb ux n' l1 l2 o ∧ apply_All.f 7000000 (enc u) [xb, ux] = some (one, 0) ∧ epitomeref04_Same.f 7000000 pb pb = some true ∧
   chain_At.f 7000000 (enc u) ([0] ++ [1] ++ [2]) ([] ++ [ya] ++ [pb]) (([] ++ [ya] ++ [pb]).length : Int) = some (one, 0) ∧ points_Count.f one = some m ∧ m = (outs (ovr (ats xb) (ats xa)) : Int) := by
 have L0 : LogOk u [0] [] := ⟨hu, ⟨trivial, fun _ h => by cases h⟩, ⟨List.pairwise_singleton _ _, fun x hx => by rw [List.mem_singleton.1 hx]; decide⟩, rfl, by simp [tot]; omega, by decide⟩
 have f0 : seek_Find.f [0] 0 = some (((0 : Nat) : Int), 0, 0) := seek_at L0.ri (by decide) 0 (by decide)
 obtain ⟨ya, s1, y2, y3, y4, y5, y6⟩ := sub_A L0 wa (i := 0) (Nat.le_refl _) ia (by omega) (by simp [tot]; omega) 0 ⟨by decide, rfl⟩ (by decide) 0 0 f0
 have e4 : ats ya = ats xa := y4
 have L1 : LogOk u ([0] ++ [1]) ([] ++ [ya]) := log_snoc L0 y2 y3 y5 (fun x hx => by rw [List.mem_singleton.1 hx]; decide) (by decide) (by decide) (by rw [e4]; simp [tot]; omega) (by decide)
 have f1 : seek_Find.f ([0] ++ [1]) 0 = some (((0 : Nat) : Int), 0, 0) := seek_at L1.ri (by decide) 0 (by decide)
 have t1 : tot ([] ++ [ya]) = (ats xa).length := by rw [tot_snoc, e4]; simp [tot]
 obtain ⟨pb, s2, p2, p3, p4, p5, p6⟩ := sub_A L1 wb (i := 0) (Nat.zero_le _) ib (by omega) (by rw [List.drop_zero, t1]; omega) 1 ⟨(show 1 < 2 by decide), rfl⟩ (by decide) 0 0 f1
 have e5 : ats pb = ovr (ats xb) (ats xa) := by rw [p4]; show ovr (ats xb) (ats ya) = _; rw [e4]
 rw [List.drop_zero, t1] at p6
 have L2 : LogOk u ([0] ++ [1] ++ [2]) ([] ++ [ya] ++ [pb]) := log_snoc L1 p2 p3 p5 (fun x hx => by
  rcases List.mem_append.1 hx with hx | hx <;> (rw [List.mem_singleton.1 hx]; decide)) (by decide) (by decide) (by rw [t1]; omega) (by show 1 < 60000; decide)
 obtain ⟨c1, c2⟩ := at_A L2 2 (Nat.le_refl 2) 7000000 (by decide)
 obtain ⟨r, o1, o2, o3, o4⟩ := over_A wb wa (by omega) (by omega) (by rw [ia, ib])
 have er := alt_uniq o2 p2 o3 p3 (by rw [o4, e5])
 subst er
 obtain ⟨w1, n1, e1, l1⟩ := norm_A wa (by omega)
 obtain ⟨n', q1, q2, o, ux, d0, d1, d2, d3, d4, d5, d6, d7, d8, d9, d10⟩ := under_A w1 wb (by rw [e1]; omega) (by omega) (by rw [e1, ia, ib]) 7000000 (by omega)
 rw [e1] at d10
 have ul := und_len _ (ats xb) (ats xa) (Nat.le_refl _) (by rw [ia, ib])
 rw [← d10] at ul
 have xl := alt_len d9
 obtain ⟨a1, a2⟩ := all_W (s := u) (l := [xb, ux]) ⟨wb, ib, d8, ul.1, trivial⟩ (fun x hx => by
  rcases List.mem_cons.1 hx with rfl | hx
  ·omega
  ·rw [List.mem_singleton.1 hx]; omega) hu (by rw [tot_cons, tot_cons]; simp [tot]; omega) (by show 2 ≤ 60000; decide) (fun e => by cases e) 7000000 (by decide)
 have et : txs u [xb, ux] = app (ats r) (app (ats ya) u) := by
  show app (ats ux) (app (ats xb) u) = _
  rw [d10, o4, e4]
  exact und_app _ (ats xb) (ats xa) u (Nat.le_refl _) ib ia
 have en : (txs u [xb, ux]).length = outs (ovr (ats xb) (ats xa)) := by
  rw [et, ← o4]
  have h1 := app_len (ats ya) u (by rw [e4]; exact ia)
  have ol := (ovr_len _ (ats xb) (ats xa) (Nat.le_refl _) (by rw [ia, ib])).1
  exact app_len (ats r) _ (by rw [h1, o4, ol, e4])
 have ob := (ovr_len _ (ats xb) (ats xa) (Nat.le_refl _) (by rw [ia, ib])).2.1
 have oo := outs_le (ovr (ats xb) (ats xa))
 have ez := enc_sz (t := txs u [xb, ux]) (by omega)
 refine ⟨ya, r, _, _, _, ux, n', q1, q2, o, _, _, s1, s2, o1 _ (by omega), normal_A wa (by omega) (by omega), ⟨d0, d1, d2, d3, d4, d5, d6, d7⟩, a1, same_A r (by have := alt_len o3; omega) _ (by have := alt_len o3; omega), ?_, count_big a2 (by omega), by rw [en]⟩
 rw [et]
 exact c1
theorem two_ok (a0 : ByteArray) (l0 l1 : List S25) : ∃ u n xa xb ya yb pa pb na nb ua ub za zb qa qb m na' nb' la lb ls lt oa ob one two, TwoOk 7000000 a0 l0 l1 u n xa xb ya yb pa pb na nb ua ub za zb qa qb m na' nb' la lb ls lt oa ob one two := by
 have hm := mn_le (a0.size : Int) 20
 obtain ⟨u, e1, hu, hul⟩ := fit_small (a0.extract 0 (mn (a0.size : Int) 20).toNat) (by rw [ByteArray.size_extract]; omega) 7000000 (by decide)
 have hs : u.length ≤ 20 := by rw [hul, ByteArray.size_extract]; omega
 have hz := enc_sz (t := u) (by omega)
 obtain ⟨xa, a1, a2, a3, a4, a5⟩ := fit_A l0 u.length (by omega) 7000000 (by decide)
 obtain ⟨xb, b1, b2, b3, b4, b5⟩ := fit_A l1 u.length (by omega) 7000000 (by decide)
 obtain ⟨ya, pb, za, qb, na, ua, na', la, ls, oa, one, m, s1, s2, vb, ma, da, x1, sb, c1, m1, em⟩ := two_way hu hs a2 b2 a3 b3 (by omega) (by omega) a5 b5
 obtain ⟨yb, pa, zb, qa, nb, ub, nb', lb, lt, ob, two, m', t1, t2, va, mb, db, x2, sa, c2, m2, em'⟩ := two_way hu hs b2 a2 b3 a3 (by omega) (by omega) b5 a5
 have L0 : LogOk u [0] [] := ⟨hu, ⟨trivial, fun _ h => by cases h⟩, ⟨List.pairwise_singleton _ _, fun x hx => by rw [List.mem_singleton.1 hx]; decide⟩, rfl, by simp [tot]; omega, by decide⟩
 have emm : m' = m := by rw [em, em', ovr_outs _ (ats xa) (ats xb) (Nat.le_refl _) (by rw [a3, b3])]
 subst emm
 exact ⟨enc u, (u.length : Int), xa, xb, ya, yb, pa, pb, na, nb, ua, ub, za, zb, qa, qb, m', na', nb', la, lb, ls, lt, oa, ob, one, two, ⟨shown_two _ (by decide), e1, count_big hu (by omega), by omega, by omega, (by unfold chain_Sizes.f; rw [sizes_A L0 7000000 (by decide)]; rfl), a1, b1, s1, s2, t1, t2, vb, va, ma, mb, da, db, x1, x2, sb, sa, c1, c2, m1, m2⟩⟩
end Go.Proofs.YtegjegihcebimaaDoor.Pure
end
section
namespace Go.Proofs.YtegjegihcebimaaDoor.Pure
open Go.Deep Go.ChangeShapes Go.WideShapes Go.ChangeAt Go.RowKit Go.Proofs.YtegjegihcebimaaDoor.P Go.Proofs.YtegjegihcebimaaDoorW.PrintWords Go.Proofs.YtegjegihcebimaaDoorW.PrintLast Go.Proofs.YtegjegihcebimaaDoorW.PrintMore
set_option linter.unusedVariables false
theorem choose_list {α : Type} {p : Nat → α → Prop} : ∀ (n : Nat), (∀ i, i < n → ∃ y, p i y) → ∃ l : List α, l.length = n ∧ ∀ i y, l[i]? = some y → p i y
 | 0, _ => ⟨[], rfl, fun i y h => by simp at h⟩
 | n + 1, h => by
  obtain ⟨l, h1, h2⟩ := choose_list n fun i hi => h i (by omega)
  obtain ⟨y, hy⟩ := h n (by omega)
  refine ⟨l ++ [y], by simp [h1], fun i z hz => ?_⟩
  by_cases c : i < l.length
  ·rw [List.getElem?_append_left c] at hz; exact h2 i z hz
  ·rw [List.getElem?_append_right (by omega)] at hz
   have hi : i - l.length = 0 := by
    have := (List.getElem?_eq_some_iff.mp hz).1
    simp at this; omega
   rw [hi] at hz
   have : y = z := by simpa using hz
   subst this
   have : i = n := by omega
   subst this
   exact hy
section
variable {H : Type} {enc : TypeId × Value → H} {P : Program} {w : World} {base : Nat} {sp : Nat → Bool} {held : Bool}
def Opens {α : Type} (enc : TypeId × Value → H) (P : Program) (w : World) (base : Nat) (sp : Nat → Bool) (held : Bool) (d : Kd α) (t : TypeId) (Q : α → Prop) : Prop :=
 ∀ (fuel : Nat) (cs : List Value) (x : DataW H × List MemPlace), DataW.trod enc P w base sp held fuel t cs = some x → ∃ y, d.K w y cs ∧ Q y
theorem opens_slice {α : Type} {d : Kd α} {t e e' : TypeId} {Q : α → Prop} (ht : P.underlying t = some (.slice e)) (hc : P.cellsOf e = d.sz) (h : Opens enc P w base sp held d e Q) : Opens enc P w base sp held (Kd.slice e' d) t (fun l => ∀ x ∈ l, Q x) := by
 intro fuel cs x hx
 rcases open_slice ht hx with ⟨rfl, rfl⟩ | ⟨a, len, cap, m, n, D, Pl, rfl, hb, hl, hm, hmm, rfl, hi⟩
 ·exact ⟨[], ⟨none, 0, rfl, Nat.le_refl _, Kd.C_nil d w⟩, fun x h => by cases h⟩
 ·have hlm : len ≤ m := by rw [hmm]; split <;> omega
  obtain ⟨ys, hy1, hy2⟩ := choose_list (p := fun i y => ∃ c, w.cells? base (a.add (i * d.sz)) d.sz = some c ∧ d.K w y c ∧ Q y) len (fun i hlt => by
   obtain ⟨cs', h1, h2⟩ := hi i (by omega)
   rw [hc] at h1
   obtain ⟨y, k1, k2⟩ := h _ _ _ h2
   exact ⟨y, cs', h1, k1, k2⟩)
  have hmax : maxLen ≤ 9223372036854775807 := by decide
  refine ⟨ys, ⟨some a, cap, by rw [hy1], by omega, ⟨rfl, by omega, fun _ => ⟨a, rfl, fun j p hj => ?_⟩⟩⟩, fun x hx => ?_⟩
  ·obtain ⟨c, c1, c2, _⟩ := hy2 j p hj
   obtain ⟨_, hlen, hcell⟩ := World.cells?_some c1
   refine ⟨c, hlen, c2, fun i u hu => ?_⟩
   have hlt := (List.getElem?_eq_some_iff.mp hu).1
   have := hcell i (by omega)
   rw [hu] at this
   have e : a.add (j * d.sz + i) = (a.add (j * d.sz)).add i := (Addr.add_add a (j * d.sz) i).symm
   rw [e]
   exact this
  ·obtain ⟨i, hi, rfl⟩ := List.getElem_of_mem hx
   obtain ⟨_, _, _, hq⟩ := hy2 i _ (List.getElem?_eq_getElem hi)
   exact hq
theorem open_cell_of {α : Type} {d : Kd α} {t e e' : TypeId} {Q : α → Prop} {v : Value} {n : Nat} {y : DataW H × List MemPlace} (ht : P.underlying t = some (.slice e)) (hc : P.cellsOf e = d.sz) (h : Opens enc P w base sp held d e Q) (hd : DataW.trod enc P w base sp held n t [v] = some y) :
  ∃ A c l, v = .slice A l.length c ∧ l.length ≤ c ∧ d.C w A l.length l ∧ ∀ x ∈ l, Q x := by
 obtain ⟨l, ⟨A, c, e1, e2, e3⟩, hq⟩ := opens_slice (e' := e') ht hc h _ _ _ hd
 exact ⟨A, c, l, by simpa using e1, e2, e3, hq⟩
end
set_option maxRecDepth 100000 in
theorem opens_span {H : Type} {enc : TypeId × Value → H} {w : World} {base : Nat} {sp : Nat → Bool} {held : Bool} : Opens enc Tryd.prog w base sp held k25 25 (fun _ => True) := by
 intro fuel cs x h
 obtain ⟨y0, y1, y2, n, _, hl, h0, h1, h2⟩ := trod_struct3 Tryd.underlying25 h
 have hl : cs.length = 3 := hl.trans (by kernel_rfl)
 match cs, hl with
 | [c0, c1, c2], _ =>
  have i1 : Tryd.prog.cellsOf 3 = 1 := by kernel_rfl
  have i2 : Tryd.prog.cellsOf 9 = 1 := by kernel_rfl
  obtain ⟨a, e0, _, _⟩ := DataW.trod_int Tryd.underlying3 h0
  obtain ⟨b, e1, _, _⟩ := DataW.trod_int Tryd.underlying3 h1
  obtain ⟨s, e2, _, _⟩ := DataW.trod_string Tryd.underlying9 h2
  replace e0 : ([c0, c1, c2].drop 0).take (Tryd.prog.cellsOf 3) = _ := e0
  replace e1 : ([c0, c1, c2].drop 1).take (Tryd.prog.cellsOf 3) = _ := e1
  replace e2 : ([c0, c1, c2].drop 2).take (Tryd.prog.cellsOf 9) = _ := e2
  rw [i1] at e0 e1
  rw [i2] at e2
  simp only [List.drop_succ_cons, List.drop_zero, List.take_succ_cons, List.take_zero] at e0 e1 e2
  injection e0 with e0
  injection e1 with e1
  injection e2 with e2
  subst e0 e1 e2
  exact ⟨⟨a, b, s⟩, k25_mk w ⟨a, b, s⟩, trivial⟩
theorem okWide_array {P : Program} {w : World} {r : Reach} {base : Nat} {t : TypeId} {v : Value} {n : Nat} {e : TypeId} (ht : P.underlying t = some (.array n e)) (h : Value.okWide P w r base t v) : ∃ cs, v = .agg cs ∧ cs.size = P.cellsOf t := by
 simp only [Value.okWide, ht] at h
 obtain ⟨cs, h1, h2, _⟩ := h
 exact ⟨cs, h1, h2⟩
theorem open_pair {α H : Type} {enc : TypeId × Value → H} {P : Program} {w : World} {base : Nat} {sp : Nat → Bool} {held : Bool} {d : Kd α} {r : Reach} {b0 : Nat} {t e e2 : TypeId} {Q : α → Prop} {v : Value} {dd : DataW H} {ps : List MemPlace} (ht : P.underlying t = some (.array 2 e)) (he : P.underlying e = some (.slice e2)) (hC : P.cellsOf t = 2) (hc : P.cellsOf e = 1) (hc2 : P.cellsOf e2 = d.sz) (h : Opens enc P w base sp held d e2 Q) (hval : Value.okWide P w r b0 t v) (hd : DataW.Trod enc P w base sp held t v dd ps) :
  ∃ A c l A' c' l', v = .agg #[.slice A l.length c, .slice A' l'.length c'] ∧ l.length ≤ c ∧ d.C w A l.length l ∧ l'.length ≤ c' ∧ d.C w A' l'.length l' := by
 obtain ⟨cs, rfl, hsz⟩ := okWide_array ht hval
 rw [hC] at hsz
 cases cs with | mk cs =>
 replace hsz : cs.length = 2 := hsz
 obtain ⟨fuel, hf⟩ := hd
 obtain ⟨xs, m, _, _, _, hl, hel⟩ := DataW.trod_array ht hf
 match cs, hsz with
 | [c0, c1], _ =>
  rw [hc] at hel
  have g : ∀ i (hi : i < 2) c, ([c0, c1].drop (i * 1)).take 1 = [c] → ∃ A k l, c = .slice A l.length k ∧ l.length ≤ k ∧ d.C w A l.length l ∧ ∀ x ∈ l, Q x := by
   intro i hi c e0
   have h1 := hel i hi
   simp only [Value.cells] at h1
   rw [e0] at h1
   obtain ⟨y, hy⟩ : ∃ y, xs[i]? = some y := ⟨xs[i]'(by omega), List.getElem?_eq_getElem (by omega)⟩
   rw [hy] at h1
   exact open_cell_of (e' := 0) he hc2 h h1
  obtain ⟨A, k, l, rfl, l1, l2, _⟩ := g 0 (by omega) c0 rfl
  obtain ⟨A', k', l', rfl, l3, l4, _⟩ := g 1 (by omega) c1 rfl
  exact ⟨A, k, l, A', k', l', rfl, l1, l2, l3, l4⟩
end Go.Proofs.YtegjegihcebimaaDoor.Pure
end
