/- Part 13 of the proof of topTwo_holds: out of the texts that this session's programs wrote, what the theorem reaches. -/
import Derived.Test.YtegjegihcebimaaDoorZ12
section
namespace Go.Proofs.YtegjegihcebimaaDoor.P
open Go.RowKit Go.Proofs.YtegjegihcebimaaDoorW.PrintWords Go.Proofs.YtegjegihcebimaaDoorW.PrintLast Go.Proofs.YtegjegihcebimaaDoorW.PrintMore
attribute [local go_sem] max2_int min2_int max_two min_two max_three min_three max_four min_four
set_option linter.unusedVariables false
set_option linter.unusedSimpArgs false
def under_Of.st (F : List S25 → List S25 → Int → Int → List S25 → Option (List S25)) (dn gn : Int) (out : List S25) : List S25 → List S25 → Option (List S25)
 | x :: s', a =>
  if x.f0 = 2 then F s' a dn gn (out ++ [x])
  else match a with
   | y :: a' =>
    if y.f0 = 2 then (span_Out.f y.f0 y.f1 y.f2).bind fun n => F (x :: s') a' dn gn (out ++ [⟨1, n, ⟨#[]⟩⟩])
    else
     F (if wrap64 (dn + mn (wrap64 (x.f1 - dn)) (wrap64 (y.f1 - gn))) = x.f1 then s' else x :: s') (if wrap64 (gn + mn (wrap64 (x.f1 - dn)) (wrap64 (y.f1 - gn))) = y.f1 then a' else y :: a')
      (if wrap64 (dn + mn (wrap64 (x.f1 - dn)) (wrap64 (y.f1 - gn))) = x.f1 then 0 else wrap64 (dn + mn (wrap64 (x.f1 - dn)) (wrap64 (y.f1 - gn)))) (if wrap64 (gn + mn (wrap64 (x.f1 - dn)) (wrap64 (y.f1 - gn))) = y.f1 then 0 else wrap64 (gn + mn (wrap64 (x.f1 - dn)) (wrap64 (y.f1 - gn))))
      (if y.f0 = 1 then out ++ [⟨x.f0, mn (wrap64 (x.f1 - dn)) (wrap64 (y.f1 - gn)), ⟨#[]⟩⟩] else out)
   | [] => none
 | [], y :: a' => if y.f0 = 2 then (span_Out.f y.f0 y.f1 y.f2).bind fun n => F [] a' dn gn (out ++ [⟨1, n, ⟨#[]⟩⟩]) else none
 | [], [] => some out
theorem under_Of.st_put (F : List S25 → List S25 → Int → Int → List S25 → Option (List S25)) (dn gn : Int) (out : List S25) (x : S25) (s' a : List S25) (h : x.f0 = 2) : under_Of.st F dn gn out (x :: s') a = F s' a dn gn (out ++ [x]) := by
 cases a <;> exact if_pos h
theorem under_Of.st_no (F : List S25 → List S25 → Int → Int → List S25 → Option (List S25)) (dn gn : Int) (out : List S25) (x : S25) (s' : List S25) (h : ¬ x.f0 = 2) : under_Of.st F dn gn out (x :: s') [] = none := if_neg h
theorem under_Of.st_keep (F : List S25 → List S25 → Int → Int → List S25 → Option (List S25)) (dn gn : Int) (out : List S25) (x y : S25) (s' a' : List S25) (h : ¬ x.f0 = 2) (h2 : y.f0 = 2) : under_Of.st F dn gn out (x :: s') (y :: a') = (span_Out.f y.f0 y.f1 y.f2).bind fun n => F (x :: s') a' dn gn (out ++ [⟨1, n, ⟨#[]⟩⟩]) := by
 show (if x.f0 = 2 then _ else (if y.f0 = 2 then _ else _)) = _
 rw [if_neg h, if_pos h2]
theorem under_Of.st_take (F : List S25 → List S25 → Int → Int → List S25 → Option (List S25)) (dn gn : Int) (out : List S25) (x y : S25) (s' a' : List S25) (h : ¬ x.f0 = 2) (h2 : ¬ y.f0 = 2) (e1 e2 n d1 g1 : Int) (he1 : wrap64 (x.f1 - dn) = e1) (he2 : wrap64 (y.f1 - gn) = e2) (hn : mn e1 e2 = n) (hd : wrap64 (dn + n) = d1) (hg : wrap64 (gn + n) = g1) :
  under_Of.st F dn gn out (x :: s') (y :: a') = F (if d1 = x.f1 then s' else x :: s') (if g1 = y.f1 then a' else y :: a') (if d1 = x.f1 then 0 else d1) (if g1 = y.f1 then 0 else g1) (if y.f0 = 1 then out ++ [⟨x.f0, n, ⟨#[]⟩⟩] else out) := by
 subst he1 he2 hn hd hg
 show (if x.f0 = 2 then _ else (if y.f0 = 2 then _ else _)) = _
 rw [if_neg h, if_neg h2]
theorem QS_at {w0 w : World} {B o c : Nat} {x : S25} {l : List S25} (h : QS w0 w B (.slice (some ⟨B, o, none⟩) (l.length + 1) c) (x :: l)) :
  w.cell? ⟨B, o, none⟩ = some (.int .i64 x.f0) ∧ w.cell? ⟨B, o + 1, none⟩ = some (.int .i64 x.f1) ∧ w.cell? ⟨B, o + 2, none⟩ = some (.string x.f2) := by
 obtain ⟨o', c', e, _, h0, h1, h2, _⟩ := QS_open h
 injection e with e
 injection e with e
 injection e with _ e
 subst e
 exact ⟨h0, h1, h2⟩
def under_Of.l : Nat → List S25 → List S25 → Int → Int → List S25 → Option (List S25)
 | 0, _, _, _, _, _ => none
 | k + 1, s, a, dn, gn, out => if out.length < 1000000000 then under_Of.st (under_Of.l k) dn gn out s a else none
def under_Of.C (p : Nat) : Array Value := #[.func (.func 69) #[] #[.pointer (some ⟨p, 0, none⟩)], .func (.func 70) #[] #[.pointer (some ⟨p, 0, none⟩)], .func (.func 71) #[] #[.pointer (some ⟨p, 0, none⟩)]]
set_option maxHeartbeats 16000000 in
set_option maxRecDepth 100000 in
theorem under_through.calls (k : Nat) (w0 w : World) (p Ba Bs : Nat) (va vs : Value) (s a out r : List S25) (hT : Tabs w0) (h : OI w0 w p Ba Bs va vs s a out) (hl : under_Of.l k s a 0 0 out = some r) :
  Calls Tryd.prog 72 #[.agg (under_Of.C p), va, vs] w fun e w' => e = .returned (.tuple #[]) ∧ ∃ va' vs', OI w0 w' p Ba Bs va' vs' [] [] r := by
 have HOW := Aside0.mk (⟨OI_below h (below_alloc (Below.refl w.heap.size w) (.cells (under_Of.C p) 125)), heap_alloc_new w _⟩ : OW w0 (w.alloc (.cells (under_Of.C p) 125)) p Ba Bs va vs s a out w.heap.size (under_Of.C p))
 have HT := Aside0.mk hT; have HLL := Aside0.mk hl
 clear h hl hT
 unfold under_Of.C at HOW ⊢
 go_enter Tryd.func72, Tryd.ntmps72
 go_upto_region 1 with (fail)
 generalize w.alloc (.cells #[.func (.func 69) #[] #[.pointer (some ⟨p, 0, none⟩)], .func (.func 70) #[] #[.pointer (some ⟨p, 0, none⟩)], .func (.func 71) #[] #[.pointer (some ⟨p, 0, none⟩)]] 125) = w1 at HOW ⊢
 generalize w.heap.size = gw at HOW ⊢
 go_wp2
 go_loopg [1, 2, 6, 7] k (fun kq v1 v2 v6 v7 wr => ∃ (s a ot : List S25) (dn gn : Int), v6 = .int .i64 dn ∧ v7 = .int .i64 gn ∧ Aside0 (under_Of.l kq s a dn gn ot = some r) ∧ Aside0 (OW w0 wr p Ba Bs v1 v2 s a ot gw #[.func (.func 69) #[] #[.pointer (some ⟨p, 0, none⟩)], .func (.func 70) #[] #[.pointer (some ⟨p, 0, none⟩)], .func (.func 71) #[] #[.pointer (some ⟨p, 0, none⟩)]]) ∧ Aside0 (kq ≤ k))
 case atStart => exact ⟨_, _, _, _, _, rfl, rfl, HLL, HOW, ⟨Nat.le_refl _⟩⟩
 case round =>
  clear HOW HLL
  obtain ⟨s, a, ot, dn, gn, rfl, rfl, HA, HOW, HK1⟩ := hrel
  cases gk with
  | zero => exact absurd HA.out (by simp [under_Of.l])
  | succ k1 =>
   have H := HA.out
   clear HA
   rw [under_Of.l] at H
   by_cases hlen : ot.length < 1000000000
   ·rw [if_pos hlen] at H
    have HLEN := Aside0.mk hlen
    clear hlen
    have f0 : wr.cell? ⟨gw, 0, none⟩ = some (.func (.func 69) #[] #[.pointer (some ⟨p, 0, none⟩)]) := (blk_cell HOW.out.2 0).trans rfl
    have f1 : wr.cell? ⟨gw, 1, none⟩ = some (.func (.func 70) #[] #[.pointer (some ⟨p, 0, none⟩)]) := (blk_cell HOW.out.2 1).trans rfl
    have f2 : wr.cell? ⟨gw, 2, none⟩ = some (.func (.func 71) #[] #[.pointer (some ⟨p, 0, none⟩)]) := (blk_cell HOW.out.2 2).trans rfl
    have HOD := Aside0.mk (OW_below HOW.out (below_drew (Below.refl _ _)))
    have HQA := Aside0.mk HOW.out.1.1; have HQS := Aside0.mk HOW.out.1.2.1
    have HTD := Aside0.mk (Tabs.below HT.out HOD.out.1.2.2.2.1)
    cases s with
    | nil =>
     obtain ⟨Aa, ca, rfl, hca, _⟩ := Kd.Q_reads HQA.out
     clear hca
     cases a with
     | nil =>
      obtain ⟨As, cs_, rfl, hcs, _⟩ := Kd.Q_reads HQS.out
      clear hcs
      obtain rfl : ot = r := Option.some.inj H
      have HOI := Aside0.mk HOW.out.1
      clear H
      go_wp2
      go_end0
      exact ⟨rfl, _, _, HOI.out⟩
     | cons y a' =>
      obtain ⟨os, cs, rfl, hcs, y0, y1, y2c, fzs, hbs1, hbs2, htys⟩ := QS_open HQS.out
      have q1 : (0 < a'.length + 1) = True := eq_true (by omega)
      have HCS := Aside0.mk hcs
      clear hbs1 hbs2 htys hcs fzs
      by_cases y2 : y.f0 = 2
      ·rw [under_Of.st, if_pos y2] at H
       have y2b : (y.f0 == 2) = true := beq_iff_eq.mpr y2
       obtain ⟨n, hn, H⟩ := Option.bind_eq_some_iff.mp H
       have HSN := Aside0.mk hn; have H' := Aside0.mk H
       clear hn H y2
       obtain ⟨A3, c3, hcut, hcq, hc3⟩ := over_Of.cutq cs (some ⟨Bs, os, none⟩) y a' HCS.out
       clear hc3
       go_wp2_with fail
       go_region_law (go_simp; go_at_call 70; (with_reducible refine (under_keep.calls w0 _ p Ba Bs _ _ _ _ _ gw _ y n HTD.out HOD.out HLEN.out HSN.out).mono ?_); rintro e w5 ⟨rfl, ho⟩; have HO5 := Aside0.mk ho; clear ho)
       all_goals go_wp2
       all_goals go_roundg k1
       all_goals first | exact compose_Of.lt HK1.out | exact ⟨_, _, _, _, _, rfl, rfl, H', ⟨⟨OI_tail_s HO5.out.1 (hcq.out _ _ _), HO5.out.2⟩⟩, ⟨Nat.le_of_succ_le HK1.out⟩⟩
      ·rw [under_Of.st, if_neg y2] at H; cases H
    | cons x s' =>
     obtain ⟨oa, ca, rfl, hca, x0, x1, x2c, fza, hba1, hba2, htya⟩ := QS_open HQA.out
     have p1 : (0 < s'.length + 1) = True := eq_true (by omega)
     have HCA := Aside0.mk hca
     clear hba1 hba2 htya hca fza
     by_cases x2 : x.f0 = 2
     ·rw [under_Of.st_put _ _ _ _ _ _ _ x2] at H
      have x2b : (x.f0 == 2) = true := beq_iff_eq.mpr x2
      have H' := Aside0.mk H
      clear H x2
      obtain ⟨As, cs, rfl, hcs, _⟩ := Kd.Q_reads HQS.out
      clear hcs
      obtain ⟨A3, c3, hcut, hcq, hc3⟩ := over_Of.cutq ca (some ⟨Ba, oa, none⟩) x s' HCA.out
      clear hc3
      go_wp2_with fail
      go_region_law (go_simp; go_at_call 69; (with_reducible refine (under_put.calls w0 _ p Ba Bs _ _ _ _ _ gw _ x HOD.out HLEN.out).mono ?_); rintro e w5 ⟨rfl, ho⟩; have HO5 := Aside0.mk ho; clear ho)
      all_goals go_wp2
      all_goals go_roundg k1
      all_goals first | exact compose_Of.lt HK1.out | exact ⟨_, _, _, _, _, rfl, rfl, H', ⟨⟨OI_tail_a HO5.out.1 (hcq.out _ _ _), HO5.out.2⟩⟩, ⟨Nat.le_of_succ_le HK1.out⟩⟩
     ·cases a with
      | nil => rw [under_Of.st_no _ _ _ _ _ _ x2] at H; cases H
      | cons y a' =>
       obtain ⟨os, cs, rfl, hcs, y0, y1, y2c, fzs, hbs1, hbs2, htys⟩ := QS_open HQS.out
       have q1 : (0 < a'.length + 1) = True := eq_true (by omega)
       have HCS := Aside0.mk hcs
       clear hbs1 hbs2 htys hcs fzs
       have x2b : (x.f0 == 2) = false := beq_eq_false_iff_ne.mpr x2
       by_cases y2 : y.f0 = 2
       ·rw [under_Of.st_keep _ _ _ _ _ _ _ _ x2 y2] at H
        have y2b : (y.f0 == 2) = true := beq_iff_eq.mpr y2
        clear x2
        obtain ⟨n, hn, H⟩ := Option.bind_eq_some_iff.mp H
        have HSN := Aside0.mk hn; have H' := Aside0.mk H
        clear hn H y2
        obtain ⟨A3, c3, hcut, hcq, hc3⟩ := over_Of.cutq cs (some ⟨Bs, os, none⟩) y a' HCS.out
        clear hc3
        go_wp2_with fail
        go_region_law (go_simp; go_at_call 70; (with_reducible refine (under_keep.calls w0 _ p Ba Bs _ _ _ _ _ gw _ y n HTD.out HOD.out HLEN.out HSN.out).mono ?_); rintro e w5 ⟨rfl, ho⟩; have HO5 := Aside0.mk ho; clear ho)
        all_goals go_wp2
        all_goals go_roundg k1
        all_goals first | exact compose_Of.lt HK1.out | exact ⟨_, _, _, _, _, rfl, rfl, H', ⟨⟨OI_tail_s HO5.out.1 (hcq.out _ _ _), HO5.out.2⟩⟩, ⟨Nat.le_of_succ_le HK1.out⟩⟩
       ·have y2b : (y.f0 == 2) = false := beq_eq_false_iff_ne.mpr y2
        obtain ⟨e1, he1⟩ : ∃ e, wrap64 (x.f1 - dn) = e := ⟨_, rfl⟩
        obtain ⟨e2, he2⟩ : ∃ e, wrap64 (y.f1 - gn) = e := ⟨_, rfl⟩
        obtain ⟨n, hn⟩ : ∃ e, mn e1 e2 = e := ⟨_, rfl⟩
        obtain ⟨d1, hd⟩ : ∃ e, wrap64 (dn + n) = e := ⟨_, rfl⟩
        obtain ⟨g1, hg⟩ : ∃ e, wrap64 (gn + n) = e := ⟨_, rfl⟩
        rw [under_Of.st_take _ _ _ _ _ _ _ _ x2 y2 e1 e2 n d1 g1 he1 he2 hn hd hg] at H
        have hn_ : (if e2 < e1 then e2 else e1) = n := hn
        by_cases c1 : d1 = x.f1
        ·have HX := Aside0.mk c1
         rw [if_pos c1, if_pos c1] at H
         clear c1
         by_cases c2 : g1 = y.f1
         ·have HY := Aside0.mk c2
          rw [if_pos c2, if_pos c2] at H
          have H2 := Aside0.mk H
          clear c2 H
          clear hn x2 y2
          obtain ⟨A3, c3, hcut, hcq, hc3⟩ := over_Of.cutq ca (some ⟨Ba, oa, none⟩) x s' HCA.out
          obtain ⟨A4, c4, hcut4, hcq4, hc4⟩ := over_Of.cutq cs (some ⟨Bs, os, none⟩) y a' HCS.out
          clear hc3 hc4
          go_wp2_with fail
          go_quiet (fail)
          have HON : Aside0 (OW w0 (wr.drewN (nq + 1)) p Ba Bs _ _ _ _ _ gw _) := ⟨OW_below HOW.out (below_drew (pw_below_drewN (Below.refl _ _) nq))⟩
          go_wp2_with fail
          go_region_law (go_simp; go_at_call 71; (with_reducible refine (under_take.calls w0 _ p Ba Bs _ _ _ _ _ gw _ x y n HON.out HLEN.out).mono ?_); rintro e w5 ⟨rfl, ho⟩; have HO5 := Aside0.mk ho; clear ho)
          all_goals obtain ⟨u0_, u1_, u2_⟩ := QS_at HO5.out.1.1
          all_goals obtain ⟨t0_, t1_, t2_⟩ := QS_at HO5.out.1.2.1
          all_goals have c1b : (d1 == x.f1) = true := beq_iff_eq.mpr HX.out
          all_goals have c2b : (g1 == y.f1) = true := beq_iff_eq.mpr HY.out
          all_goals go_wp2
          all_goals go_roundg k1
          all_goals first | exact compose_Of.lt HK1.out | exact ⟨_, _, _, _, _, rfl, rfl, ⟨by first | exact H2.out | (rw [hg]; exact H2.out) | (rw [hd]; exact H2.out) | (rw [hd, hg]; exact H2.out)⟩, ⟨⟨OI_tail_s (OI_tail_a HO5.out.1 (hcq.out _ _ _)) (hcq4.out _ _ _), HO5.out.2⟩⟩, ⟨Nat.le_of_succ_le HK1.out⟩⟩
         ·have HY := Aside0.mk c2
          rw [if_neg c2, if_neg c2] at H
          have H2 := Aside0.mk H
          clear c2 H
          clear hn x2 y2
          obtain ⟨A3, c3, hcut, hcq, hc3⟩ := over_Of.cutq ca (some ⟨Ba, oa, none⟩) x s' HCA.out
          obtain ⟨A4, c4, hcut4, hcq4, hc4⟩ := over_Of.cutq cs (some ⟨Bs, os, none⟩) y a' HCS.out
          clear hc3 hc4
          go_wp2_with fail
          go_quiet (fail)
          have HON : Aside0 (OW w0 (wr.drewN (nq + 1)) p Ba Bs _ _ _ _ _ gw _) := ⟨OW_below HOW.out (below_drew (pw_below_drewN (Below.refl _ _) nq))⟩
          go_wp2_with fail
          go_region_law (go_simp; go_at_call 71; (with_reducible refine (under_take.calls w0 _ p Ba Bs _ _ _ _ _ gw _ x y n HON.out HLEN.out).mono ?_); rintro e w5 ⟨rfl, ho⟩; have HO5 := Aside0.mk ho; clear ho)
          all_goals obtain ⟨u0_, u1_, u2_⟩ := QS_at HO5.out.1.1
          all_goals obtain ⟨t0_, t1_, t2_⟩ := QS_at HO5.out.1.2.1
          all_goals have c1b : (d1 == x.f1) = true := beq_iff_eq.mpr HX.out
          all_goals have c2b : (g1 == y.f1) = false := beq_eq_false_iff_ne.mpr HY.out
          all_goals go_wp2
          all_goals go_roundg k1
          all_goals first | exact compose_Of.lt HK1.out | exact ⟨_, _, _, _, _, rfl, rfl, ⟨by first | exact H2.out | (rw [hg]; exact H2.out) | (rw [hd]; exact H2.out) | (rw [hd, hg]; exact H2.out)⟩, ⟨⟨OI_tail_a HO5.out.1 (hcq.out _ _ _), HO5.out.2⟩⟩, ⟨Nat.le_of_succ_le HK1.out⟩⟩
        ·have HX := Aside0.mk c1
         rw [if_neg c1, if_neg c1] at H
         clear c1
         by_cases c2 : g1 = y.f1
         ·have HY := Aside0.mk c2
          rw [if_pos c2, if_pos c2] at H
          have H2 := Aside0.mk H
          clear c2 H
          clear hn x2 y2
          obtain ⟨A3, c3, hcut, hcq, hc3⟩ := over_Of.cutq ca (some ⟨Ba, oa, none⟩) x s' HCA.out
          obtain ⟨A4, c4, hcut4, hcq4, hc4⟩ := over_Of.cutq cs (some ⟨Bs, os, none⟩) y a' HCS.out
          clear hc3 hc4
          go_wp2_with fail
          go_quiet (fail)
          have HON : Aside0 (OW w0 (wr.drewN (nq + 1)) p Ba Bs _ _ _ _ _ gw _) := ⟨OW_below HOW.out (below_drew (pw_below_drewN (Below.refl _ _) nq))⟩
          go_wp2_with fail
          go_region_law (go_simp; go_at_call 71; (with_reducible refine (under_take.calls w0 _ p Ba Bs _ _ _ _ _ gw _ x y n HON.out HLEN.out).mono ?_); rintro e w5 ⟨rfl, ho⟩; have HO5 := Aside0.mk ho; clear ho)
          all_goals obtain ⟨u0_, u1_, u2_⟩ := QS_at HO5.out.1.1
          all_goals obtain ⟨t0_, t1_, t2_⟩ := QS_at HO5.out.1.2.1
          all_goals have c1b : (d1 == x.f1) = false := beq_eq_false_iff_ne.mpr HX.out
          all_goals have c2b : (g1 == y.f1) = true := beq_iff_eq.mpr HY.out
          all_goals go_wp2
          all_goals go_roundg k1
          all_goals first | exact compose_Of.lt HK1.out | exact ⟨_, _, _, _, _, rfl, rfl, ⟨by first | exact H2.out | (rw [hg]; exact H2.out) | (rw [hd]; exact H2.out) | (rw [hd, hg]; exact H2.out)⟩, ⟨⟨OI_tail_s HO5.out.1 (hcq4.out _ _ _), HO5.out.2⟩⟩, ⟨Nat.le_of_succ_le HK1.out⟩⟩
         ·have HY := Aside0.mk c2
          rw [if_neg c2, if_neg c2] at H
          have H2 := Aside0.mk H
          clear c2 H
          clear hn x2 y2
          obtain ⟨A3, c3, hcut, hcq, hc3⟩ := over_Of.cutq ca (some ⟨Ba, oa, none⟩) x s' HCA.out
          obtain ⟨A4, c4, hcut4, hcq4, hc4⟩ := over_Of.cutq cs (some ⟨Bs, os, none⟩) y a' HCS.out
          clear hc3 hc4
          go_wp2_with fail
          go_quiet (fail)
          have HON : Aside0 (OW w0 (wr.drewN (nq + 1)) p Ba Bs _ _ _ _ _ gw _) := ⟨OW_below HOW.out (below_drew (pw_below_drewN (Below.refl _ _) nq))⟩
          go_wp2_with fail
          go_region_law (go_simp; go_at_call 71; (with_reducible refine (under_take.calls w0 _ p Ba Bs _ _ _ _ _ gw _ x y n HON.out HLEN.out).mono ?_); rintro e w5 ⟨rfl, ho⟩; have HO5 := Aside0.mk ho; clear ho)
          all_goals obtain ⟨u0_, u1_, u2_⟩ := QS_at HO5.out.1.1
          all_goals obtain ⟨t0_, t1_, t2_⟩ := QS_at HO5.out.1.2.1
          all_goals have c1b : (d1 == x.f1) = false := beq_eq_false_iff_ne.mpr HX.out
          all_goals have c2b : (g1 == y.f1) = false := beq_eq_false_iff_ne.mpr HY.out
          all_goals go_wp2
          all_goals go_roundg k1
          all_goals first | exact compose_Of.lt HK1.out | exact ⟨_, _, _, _, _, rfl, rfl, ⟨by first | exact H2.out | (rw [hg]; exact H2.out) | (rw [hd]; exact H2.out) | (rw [hd, hg]; exact H2.out)⟩, ⟨⟨HO5.out.1, HO5.out.2⟩⟩, ⟨Nat.le_of_succ_le HK1.out⟩⟩
   ·rw [if_neg hlen] at H; cases H
end Go.Proofs.YtegjegihcebimaaDoor.P
end
