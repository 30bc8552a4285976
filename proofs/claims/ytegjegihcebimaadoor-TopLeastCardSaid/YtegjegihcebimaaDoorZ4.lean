/- Part 4 of the proof of topLeast_holds: out of the texts that this session's programs wrote, what the theorem reaches. -/
import Derived.Lib.Bytes
import Derived.Test.YtegjegihcebimaaDoorZ0
import Derived.Test.YtegjegihcebimaaDoorZ1
import Derived.Test.YtegjegihcebimaaDoorZ2
import Derived.Test.YtegjegihcebimaaDoorZ3
section
namespace Go.Proofs.YtegjegihcebimaaDoor.P
open Go.RowKit Go.Proofs.YtegjegihcebimaaDoorW.PrintWords Go.Proofs.YtegjegihcebimaaDoorW.PrintLast Go.Proofs.YtegjegihcebimaaDoorW.PrintMore
attribute [local go_sem] max2_int min2_int max_two min_two max_three min_three max_four min_four
set_option linter.unusedVariables false
set_option linter.unusedSimpArgs false
def epitometop_few.f (l0 : List Int) : Option (List Int) := if 0 ≤ (mn (l0.length : Int) 30) then (if (mn (l0.length : Int) 30) ≤ (l0.length : Int) then (some (l0.take ((mn (l0.length : Int) 30) : Int).toNat)) else (none)) else (none)
set_option maxHeartbeats 8000000 in
set_option maxRecDepth 100000 in
theorem epitometop_few.calls (P0_ : Nat → Prop) (A0 : Option Addr) (c0 : Nat) (l0 : List Int) (r : List Int) (w : World) (hs0 : Kd.V (Kd.int .i64) 3 w w.heap.size (fun k_ => P0_ k_) (.slice A0 l0.length c0) l0) (h : epitometop_few.f l0 = some r) :
  Calls Tryd.prog 18 #[.slice A0 l0.length c0] w fun e w' => ∃ v0_ : Value, e = .returned (v0_) ∧ Kd.V (Kd.int .i64) 3 w' w.heap.size (fun k_ => (P0_ k_ ∨ w.heap.size ≤ k_)) v0_ r ∧ Below w.heap.size w w' := by
 have HO0 := am (show Kd.V (Kd.int .i64) 3 w w.heap.size (fun k_ => (P0_ k_ ∨ w.heap.size ≤ k_)) (.slice A0 l0.length c0) l0 from Kd.V_mono hs0 (fun k_ hk => .inl hk))
 have HB := am (Below.refl w.heap.size w)
 have H : (if 0 ≤ (mn (l0.length : Int) 30) then (if (mn (l0.length : Int) 30) ≤ (l0.length : Int) then (some (l0.take ((mn (l0.length : Int) 30) : Int).toNat)) else (none)) else (none)) = some r := h
 clear h
 obtain ⟨ji2, hji2⟩ : ∃ j_ : Int, (mn (l0.length : Int) 30) = j_ := ⟨_, rfl⟩
 replace H : (if 0 ≤ (ji2) then (if (ji2) ≤ (l0.length : Int) then (some (l0.take ((ji2) : Int).toNat)) else (none)) else (none)) = some r := by first | (rw [hji2] at H; exact H) | (simp only [hji2] at H ⊢; exact H)
 (try (have hji2h : ji2 ≤ 30 := by (rw [← hji2]; unfold mn; (repeat' split) <;> omega)))
 (try (have hji2g : ji2 ≤ 64 := by omega))
 (try (have hji2l : 0 ≤ ji2 := by (rw [← hji2]; unfold mn; (repeat' split) <;> omega)))
 (try (have hji2m : 0 ≤ ji2 := by omega))
 have hji2_ : (if 30 < (l0.length : Int) then 30 else (l0.length : Int)) = ji2 := hji2
 by_cases c3 : 0 ≤ (ji2)
 ·rw [if_pos c3] at H
  have c3b0 := eq_true c3
  have c3b1 : decide (0 ≤ (ji2)) = true := decide_eq_true c3
  clear c3
  by_cases c4 : (ji2) ≤ (l0.length : Int)
  ·rw [if_pos c4] at H
   have c4b0 := eq_true c4
   have c4b1 : decide ((ji2) ≤ (l0.length : Int)) = true := decide_eq_true c4
   clear c4
   obtain ⟨y323, hy323⟩ : ∃ y_ : List Int, y_ = (l0.take ((ji2) : Int).toNat) := ⟨_, rfl⟩
   replace H : (some y323) = some r := by first | (rw [hy323]; with_reducible exact H) | (have H2_ := (Option.bind_some _ _).symm.trans H; rw [hy323]; with_reducible exact H2_) | (have H2_ := (Option.bind_some _ _).symm.trans H; with_reducible exact H2_) | with_reducible exact H | (rw [hy323]; exact H) | exact H
   have Ny323 := am hy323
   clear hy323
   obtain rfl := Option.some.inj H
   simp only [Option.some.injEq, Prod.mk.injEq] at H
   obtain ⟨rfl⟩ := H
   have q5 : ((ji2) : Int) ≤ ((l0.length : Int) : Int) := of_decide_eq_true as0
   obtain ⟨i05, hi05, _, hsz5, _⟩ := info_parts info3
   have hroom5 : l0.length ≤ c0 := (Kd.V_reads' HO0.out).2.1
   have hC5 : Kd.F (Kd.int .i64) _ _ A0 l0.length l0 := (Kd.V_at (base := w.heap.size) HO0.out).2.2
   have hcut5 := cut_to (P := Tryd.prog) 38 3 .i64 Tryd.underlying38 hi05 A0 l0.length c0 (ji2) (of_decide_eq_true as0) q5 hroom5
   have hr5 := Kd.F_take (m := ((ji2) : Int).toNat) hC5 (by omega)
   have hy5 : y323.length = ((ji2) : Int).toNat := (by rw [Ny323.out, List.length_take]; omega)
   rw [← Ny323.out] at hr5
   rw [← hy5] at hcut5
   have HO327 := am (show Kd.V (Kd.int .i64) 3 _ w.heap.size _ (.slice A0 y323.length c0) y323 from Kd.V_mk (by omega) hr5)
   have HC327 := am (show y323.length ≤ c0 from by omega)
   clear hr5 hC5 hroom5 hi05 hsz5
   have KY5 := am hy5
   clear hy5
   replace q5 := eq_true q5
   go_enter Tryd.func18, Tryd.ntmps18
   go_wp2
   go_ret
   exact ⟨_, by first | rfl | (simp [errW_none, errW_some] <;> rfl) | (simp only [← hji2]; first | rfl | (simp [errW_none, errW_some] <;> rfl)) | (simp [*, errW_none, errW_some] <;> rfl), by (with_reducible repeat (first | apply Kd.V_alloc | apply Kd.V_drewN | apply Kd.V_drew)); exact HO327.out, bl⟩
  ·rw [if_neg c4] at H
   exact absurd H (by simp)
 ·rw [if_neg c3] at H
  exact absurd H (by simp)
def seek_Find.idx (r : Int) : List Int → Int → Int
 | [], _ => -1
 | x :: l, i => if x > r then i else seek_Find.idx r l (i + 1)
theorem seek_Find.idx_spec (r : Int) : ∀ (l : List Int) (i : Nat), (seek_Find.idx r l (i : Int) = -1 ∧ ∀ x ∈ l, x ≤ r) ∨ ∃ k, k < l.length ∧ seek_Find.idx r l (i : Int) = ((i + k : Nat) : Int) ∧ l.getD k 0 > r ∧ ∀ x ∈ l.take k, x ≤ r
 | [], _ => .inl ⟨rfl, fun _ h => by cases h⟩
 | x :: l, i => by
  by_cases h : x > r
  ·exact .inr ⟨0, by simp, by simp [seek_Find.idx, h], by simpa using h, by simp⟩
  ·have e1 : seek_Find.idx r (x :: l) (i : Int) = seek_Find.idx r l ((i + 1 : Nat) : Int) := by rw [seek_Find.idx, if_neg h]; rfl
   rw [e1]
   rcases seek_Find.idx_spec r l (i + 1) with ⟨a, b⟩ | ⟨k, hk, a, b, c⟩
   ·exact .inl ⟨a, fun y hy => by rcases List.mem_cons.1 hy with rfl | hy; exact Int.not_lt.1 h; exact b y hy⟩
   ·refine .inr ⟨k + 1, by simpa using hk, by rw [a]; congr 1; omega, by simpa using b, fun y hy => ?_⟩
    rw [List.take_succ_cons] at hy
    rcases List.mem_cons.1 hy with rfl | hy
    ·exact Int.not_lt.1 h
    ·exact c y hy
theorem seek_Find.idx_next (r : Int) (l : List Int) (j : Nat) (h : j < l.length) : seek_Find.idx r (l.drop j) (j : Int) = if rd l (j : Int) > r then (j : Int) else seek_Find.idx r (l.drop (j + 1)) ((j + 1 : Nat) : Int) := by
 rw [List.drop_eq_getElem_cons h, seek_Find.idx]
 have e : rd l (j : Int) = l[j] := by unfold rd; rw [Int.toNat_natCast, List.getD_eq_getElem?_getD, List.getElem?_eq_getElem h]; rfl
 rw [e]
 rfl
theorem seek_Find.less (x r : Int) (g : Nat) (w : World) (h : w.heap[g]? = some (.cells #[.int .i64 r] 3 (0, 0))) :
  Calls Tryd.prog 58 #[.int .i64 x, .pointer (some ⟨g, 0, none⟩)] w fun e w' => e = .returned (.bool (decide (x > r))) ∧ Below w.heap.size w w' := by
 have hc : w.cell? ⟨g, 0, none⟩ = some (.int .i64 r) := (blk_cell h 0).trans rfl
 have HB := am (Below.refl w.heap.size w)
 have e1 : decide (x > r) = decide (r < x) := rfl
 rw [e1]
 go_enter Tryd.func58, Tryd.ntmps58
 go_wp2
 go_ret
 exact ⟨by first | rfl | (simp; done), by repeat (first | exact HB.out | apply pw_below_drewN | apply below_drew1)⟩
set_option maxHeartbeats 8000000 in
set_option maxRecDepth 100000 in
theorem seek_Find.index (A0 : Option Addr) (c0 : Nat) (l0 : List Int) (r : Int) (g : Nat) (w : World) (hr0 : Kd.C (Kd.int .i64) w A0 l0.length l0) (hg : w.heap[g]? = some (.cells #[.int .i64 r] 3 (0, 0))) (hs : l0.length < 1000000000) :
  Calls Tryd.prog 57 #[.slice A0 l0.length c0, .func (Fn.func 58) #[] #[.pointer (some ⟨g, 0, none⟩)]] w fun e w' => e = .returned (.int .i64 (seek_Find.idx r l0 0)) ∧ Below w.heap.size w w' := by
 have HR0 := am hr0; have HZ := am hs; have HG := am hg
 obtain ⟨q, hr⟩ : ∃ q, seek_Find.idx r l0 0 = q := ⟨_, rfl⟩
 rw [hr]
 have H := am hr
 clear hr0 hs hr hg
 go_enter Tryd.func57, Tryd.ntmps57
 go_wp2
 go_loopw [5, 8] (fun _ v8 wr => ∃ j : Nat, v8 = .int .i64 j ∧ j ≤ l0.length ∧ Aside0 (seek_Find.idx r (l0.drop j) (j : Int) = q) ∧ Aside0 (Below w.heap.size w wr)) (fun _ v8 _ => l0.length - (intOf v8).toNat)
 case atStart => exact ⟨0, rfl, Nat.zero_le _, H, ⟨Below.refl _ _⟩⟩
 case round =>
  clear H
  obtain ⟨j, rfl, hj, HA, HB⟩ := hrel
  by_cases hlt : j < l0.length
  ·have hltb : decide ((j : Int) < (l0.length : Int)) = true := decide_eq_true (by omega)
   have HL := am hlt
   have h := HA.out
   clear HA
   rw [seek_Find.idx_next r l0 j hlt] at h
   obtain ⟨ad, rfl, hx0⟩ := Kd.at_int (Kd.C_below HR0.out HB.out) (j : Int) (by omega) (by omega)
   rw [Int.toNat_natCast] at hx0
   have p1 : (0 ≤ (j : Int)) = True := eq_true (by omega)
   have p2 : ((j : Int) < (l0.length : Int)) = True := eq_true (by omega)
   have p3 : (j < l0.length) = True := eq_true hlt
   have ew : wrap64 ((j : Int) + 1) = ((j + 1 : Nat) : Int) := by have := HZ.out; unfold wrap64; omega
   have HK := am (blk_below HG.out HB.out)
   by_cases he : rd l0 (j : Int) > r
   ·rw [if_pos he] at h
    have hd : decide (rd l0 (j : Int) > r) = true := decide_eq_true he
    have HD := am hd
    subst h
    clear hlt he hd
    go_wp2_with (go_at_call 58; (with_reducible refine (seek_Find.less _ r g _ HK.out).mono ?_); rintro e w1 ⟨rfl, hb⟩; rw [HD.out]; have HB1 := am (below_then HB.out HB.out.size hb); clear hb)
    go_ret
    exact ⟨rfl, HB1.out⟩
   ·rw [if_neg he] at h
    have hd : decide (rd l0 (j : Int) > r) = false := decide_eq_false he
    have HD := am hd
    have HE := am h
    clear hlt he h hd
    go_wp2_with (go_at_call 58; (with_reducible refine (seek_Find.less _ r g _ HK.out).mono ?_); rintro e w1 ⟨rfl, hb⟩; rw [HD.out]; have HB1 := am (below_then HB.out HB.out.size hb); clear hb)
    go_round
    case measure => exact op_sum.less HL.out ew
    case rel => exact ⟨j + 1, by rw [ew], HL.out, HE, HB1⟩
  ·have hltb : decide ((j : Int) < (l0.length : Int)) = false := decide_eq_false (by omega)
   have h := HA.out
   clear HA
   rw [List.drop_of_length_le (by omega), seek_Find.idx] at h
   subst h
   go_wp2
   go_ret
   exact ⟨rfl, HB.out⟩
def seek_Find.ab (l0 : List Int) (a1 : Int) : Int := if seek_Find.idx a1 l0 0 < 0 then (l0.length : Int) else seek_Find.idx a1 l0 0
def seek_Find.f (l0 : List Int) (a1 : Int) : Option (Int × Int × Int) :=
 if l0.length < 1000000000 then (if l0.length = 0 then some (0, 0, 6) else if seek_Find.ab l0 a1 = (l0.length : Int) ∧ rd l0 ((l0.length : Int) - 1) ≠ a1 then some (0, 0, 6) else if seek_Find.ab l0 a1 = 0 then some (0, 0, 11)
  else some (seek_Find.ab l0 a1 - 1, rd l0 (seek_Find.ab l0 a1 - 1), if rd l0 (seek_Find.ab l0 a1 - 1) = a1 then 0 else 10)) else none
set_option maxHeartbeats 8000000 in
set_option maxRecDepth 100000 in
theorem seek_Find.calls (A0 : Option Addr) (c0 : Nat) (l0 : List Int) (a1 : Int) (r1 r2 r3 : Int) (w : World) (hr0 : Kd.C (Kd.int .i64) w A0 l0.length l0) (hc0 : l0.length ≤ c0) (h : seek_Find.f l0 a1 = some (r1, r2, r3)) :
  Calls Tryd.prog 19 #[.slice A0 l0.length c0, .int .i64 a1] w fun e w' => e = .returned (.tuple #[.int .i64 r1, .int .i64 r2, .int .i64 r3]) ∧ Below w.heap.size w w' := by
 have hmf : ∀ (fn : Fn) (first cap : Array Value) (w : World), (Instr.makeFunc fn first cap).run Tryd.prog w = .ok (.func fn first cap) w := fun _ _ _ _ => rfl
 unfold seek_Find.f at h
 by_cases hs : l0.length < 1000000000
 ·rw [if_pos hs] at h
  have HR0 := am hr0; have HZ := am hs
  have HA := am (below_alloc (Below.refl w.heap.size w) (.cells #[.int .i64 a1] 3))
  have HG : Aside0 ((w.alloc (.cells #[.int .i64 a1] 3)).heap[w.heap.size]? = some (.cells #[.int .i64 a1] 3 (0, 0))) := ⟨heap_alloc_new w _⟩
  have HI := am (seek_Find.index A0 c0 l0 a1 w.heap.size (w.alloc (.cells #[.int .i64 a1] 3)) (Kd.C_below HR0.out HA.out) HG.out hs)
  obtain ⟨ix, hix⟩ : ∃ ix, seek_Find.idx a1 l0 0 = ix := ⟨_, rfl⟩
  have hib : -1 ≤ ix ∧ ix < (l0.length : Int) := by
   have := seek_Find.idx_spec a1 l0 0
   rw [show ((0 : Nat) : Int) = 0 from rfl, hix] at this
   rcases this with ⟨e, _⟩ | ⟨k, hk, e, _⟩ <;> omega
  rw [hix] at HI
  have hab : seek_Find.ab l0 a1 = if ix < 0 then (l0.length : Int) else ix := by unfold seek_Find.ab; rw [hix]
  rw [hab] at h
  have HIB := am hib
  clear hr0 hs hab hix hib
  by_cases z0 : l0.length = 0
  ·rw [if_pos z0] at h
   simp only [Option.some.injEq, Prod.mk.injEq] at h
   obtain ⟨rfl, rfl, rfl⟩ := h
   have zi : ix < 0 := by have := HIB.out; omega
   have z0b : ((l0.length : Int) == 0) = true := by simp [z0]
   have z0c : decide ((l0.length : Int) = 0) = true := by simp [z0]
   have zib : decide (ix < 0) = true := decide_eq_true zi
   clear z0 zi
   go_enter Tryd.func19, Tryd.ntmps19
   go_wp2_with (go_at_call 57; (with_reducible refine HI.out.mono ?_); rintro e w1 ⟨rfl, hb⟩; have HB1 := am (below_then HA.out HA.out.size hb); have HC1 := am (blk_below HG.out hb); clear hb)
   go_ret3
   exact ⟨rfl, HB1.out⟩
  ·rw [if_neg z0] at h
   have z0b : ((l0.length : Int) == 0) = false := by simp [z0]
   have z0c : decide ((l0.length : Int) = 0) = false := by simp [z0]
   by_cases zi : ix < 0
   ·rw [if_pos zi] at h
    have zib : decide (ix < 0) = true := decide_eq_true zi
    obtain ⟨m, hm⟩ : ∃ m, l0.length = m + 1 := ⟨l0.length - 1, by omega⟩
    have em : (l0.length : Int) - 1 = (m : Int) := by omega
    obtain ⟨ad, ead, hx0⟩ := Kd.at_int HR0.out (m : Int) (by omega) (by omega)
    rw [Int.toNat_natCast] at hx0
    subst ead
    have hp0 : (m < l0.length) = True := eq_true (by omega)
    have hp1 : ((m : Int) < (l0.length : Int)) = True := eq_true (by omega)
    have hw : wrap64 ((l0.length : Int) - 1) = (m : Int) := by rw [em]; have := HZ.out; unfold wrap64; omega
    have hw2 : IntKind.i64.wrap ((l0.length : Int) - 1) = (m : Int) := by rw [IntKind.wrap_i64, em]; have := HZ.out; omega
    rw [em] at h
    by_cases z1 : rd l0 (m : Int) = a1
    ·have z1b : (rd l0 (m : Int) != a1) = false := by simp [z1]
     have z2b : ((l0.length : Int) == 0) = false := by simp [z0]
     rw [if_neg (fun hh => hh.2 z1), if_neg (by omega), if_pos z1] at h
     simp only [Option.some.injEq, Prod.mk.injEq] at h
     obtain ⟨rfl, rfl, rfl⟩ := h
     have HX0 := am hx0
     clear z0 zi z1 hx0 em hm
     go_enter Tryd.func19, Tryd.ntmps19
     go_wp2_with (go_at_call 57; (with_reducible refine HI.out.mono ?_); rintro e w1 ⟨rfl, hb⟩; have HB1 := am (below_then HA.out HA.out.size hb); have HC1 := am (blk_below HG.out hb); clear hb)
     have hx1 : w1.drew.cell? _ = _ := (HB1.out.cell (World.block_lt_of_cell? w _ HX0.out)).trans HX0.out
     have hx2 : w1.drew.cell? ⟨w.heap.size, 0, none⟩ = some (.int .i64 a1) := (blk_cell HC1.out 0).trans rfl
     go_region
     go_wp2
     go_ret3
     exact ⟨rfl, below_drew1 HB1.out⟩
    ·have z1b : (rd l0 (m : Int) != a1) = true := by simp [z1]
     rw [if_pos ⟨rfl, z1⟩] at h
     simp only [Option.some.injEq, Prod.mk.injEq] at h
     obtain ⟨rfl, rfl, rfl⟩ := h
     have HX0 := am hx0
     clear z0 zi z1 hx0 em hm
     go_enter Tryd.func19, Tryd.ntmps19
     go_wp2_with (go_at_call 57; (with_reducible refine HI.out.mono ?_); rintro e w1 ⟨rfl, hb⟩; have HB1 := am (below_then HA.out HA.out.size hb); have HC1 := am (blk_below HG.out hb); clear hb)
     have hx1 : w1.drew.cell? _ = _ := (HB1.out.cell (World.block_lt_of_cell? w _ HX0.out)).trans HX0.out
     have hx2 : w1.drew.cell? ⟨w.heap.size, 0, none⟩ = some (.int .i64 a1) := (blk_cell HC1.out 0).trans rfl
     go_region
     go_wp2
     go_ret3
     exact ⟨rfl, below_drew1 HB1.out⟩
   ·rw [if_neg zi] at h
    have zib : decide (ix < 0) = false := decide_eq_false zi
    obtain ⟨m, hm⟩ : ∃ m : Nat, ix = (m : Int) := ⟨ix.toNat, by omega⟩
    subst hm
    have hlt : m < l0.length := by have := HIB.out; omega
    have z2 : ¬ ((m : Int) = (l0.length : Int)) := by omega
    have z2b : ((m : Int) == (l0.length : Int)) = false := by simp; omega
    rw [if_neg (fun hh => z2 hh.1)] at h
    by_cases z3 : (m : Int) = 0
    ·rw [if_pos z3] at h
     have z3b : ((m : Int) == 0) = true := by simp at z3 ⊢; exact z3
     simp only [Option.some.injEq, Prod.mk.injEq] at h
     obtain ⟨rfl, rfl, rfl⟩ := h
     clear z0 zi z2 z3 hlt
     go_enter Tryd.func19, Tryd.ntmps19
     go_wp2_with (go_at_call 57; (with_reducible refine HI.out.mono ?_); rintro e w1 ⟨rfl, hb⟩; have HB1 := am (below_then HA.out HA.out.size hb); have HC1 := am (blk_below HG.out hb); clear hb)
     go_region
     go_wp2
     go_ret3
     exact ⟨rfl, below_drew1 HB1.out⟩
    ·rw [if_neg z3] at h
     have z3b : ((m : Int) == 0) = false := by simp at z3 ⊢; exact z3
     obtain ⟨q, rfl⟩ : ∃ q, m = q + 1 := ⟨m - 1, by omega⟩
     have em : ((q + 1 : Nat) : Int) - 1 = (q : Int) := by omega
     obtain ⟨ad, ead, hx0⟩ := Kd.at_int HR0.out (q : Int) (by omega) (by omega)
     rw [Int.toNat_natCast] at hx0
     subst ead
     have hp0 : (q < l0.length) = True := eq_true (by omega)
     have hp1 : ((q : Int) < (l0.length : Int)) = True := eq_true (by omega)
     have hw : wrap64 (((q + 1 : Nat) : Int) - 1) = (q : Int) := by rw [em]; have := HZ.out; unfold wrap64; omega
     have hw2 : wrap64 ((q : Int) + 1 - 1) = (q : Int) := by have := HZ.out; unfold wrap64; omega
     have hw3 : wrap64 (q : Int) = (q : Int) := by have := HZ.out; unfold wrap64; omega
     have z3c : ((q : Int) + 1 == 0) = false := by simp; omega
     have z2c : ((q : Int) + 1 == (l0.length : Int)) = false := by simp; omega
     rw [em] at h
     by_cases z4 : rd l0 (q : Int) = a1
     ·have z4b : (rd l0 (q : Int) != a1) = false := by simp [z4]
      rw [if_pos z4] at h
      simp only [Option.some.injEq, Prod.mk.injEq] at h
      obtain ⟨rfl, rfl, rfl⟩ := h
      have HX0 := am hx0
      clear z0 zi z2 z3 z4 hlt hx0 em
      go_enter Tryd.func19, Tryd.ntmps19
      go_wp2_with (go_at_call 57; (with_reducible refine HI.out.mono ?_); rintro e w1 ⟨rfl, hb⟩; have HB1 := am (below_then HA.out HA.out.size hb); have HC1 := am (blk_below HG.out hb); clear hb)
      have hx1 : w1.drew.cell? _ = _ := (HB1.out.cell (World.block_lt_of_cell? w _ HX0.out)).trans HX0.out
      have hx2 : w1.drew.cell? ⟨w.heap.size, 0, none⟩ = some (.int .i64 a1) := (blk_cell HC1.out 0).trans rfl
      go_region
      go_wp2
      go_ret3
      exact ⟨by rw [← hw3]; simp only [hw3]; first | rfl | (simp [hw3]; done), below_drew1 HB1.out⟩
     ·have z4b : (rd l0 (q : Int) != a1) = true := by simp [z4]
      rw [if_neg z4] at h
      simp only [Option.some.injEq, Prod.mk.injEq] at h
      obtain ⟨rfl, rfl, rfl⟩ := h
      have HX0 := am hx0
      clear z0 zi z2 z3 z4 hlt hx0 em
      go_enter Tryd.func19, Tryd.ntmps19
      go_wp2_with (go_at_call 57; (with_reducible refine HI.out.mono ?_); rintro e w1 ⟨rfl, hb⟩; have HB1 := am (below_then HA.out HA.out.size hb); have HC1 := am (blk_below HG.out hb); clear hb)
      have hx1 : w1.drew.cell? _ = _ := (HB1.out.cell (World.block_lt_of_cell? w _ HX0.out)).trans HX0.out
      have hx2 : w1.drew.cell? ⟨w.heap.size, 0, none⟩ = some (.int .i64 a1) := (blk_cell HC1.out 0).trans rfl
      go_region
      go_wp2
      go_ret3
      exact ⟨by rw [← hw3]; simp only [hw3]; first | rfl | (simp [hw3]; done), below_drew1 HB1.out⟩
 ·rw [if_neg hs] at h; cases h
def gapsP (l : List ByteArray) : Array Value := (l.map Value.string).toArray
def gapsG (l : List Bool) : Array Value := (l.map Value.bool).toArray
theorem gaps_Of.allocP (W : World) : (Instr.alloc 105 true (.tuple #[])).run Tryd.prog W = .ok (.pointer (some ⟨W.heap.size, 0, none⟩)) (W.alloc (.cells (gapsP (List.replicate 513 ⟨#[]⟩)) 105 (0, 0))) := by kernel_rfl
theorem gaps_Of.allocG (W : World) : (Instr.alloc 106 true (.tuple #[])).run Tryd.prog W = .ok (.pointer (some ⟨W.heap.size, 0, none⟩)) (W.alloc (.cells (gapsG (List.replicate 512 false)) 106 (0, 0))) := by kernel_rfl
theorem gaps_Of.index (t e : TypeId) (m : Nat) (ht : Tryd.prog.underlying t = some (.array m e)) (hs : (Tryd.prog.info? e).map (·.size) = some 1) (g i : Nat) (hi : i < m) (W : World) :
  (Instr.indexAt t (.pointer (some ⟨g, 0, none⟩)) (.int .i64 (i : Int))).run Tryd.prog W = .ok (.pointer (some ⟨g, i, none⟩)) W := by
 cases hq : Tryd.prog.info? e with
 | none => rw [hq] at hs; cases hs
 | some j =>
  rw [hq] at hs
  have hs : j.size = 1 := by simpa using hs
  simp [Instr.indexAt, asIntOf, run_underlying ht, Instr.sureAddr, sizeOf, typeInfo, hq, hs, go_sem, hi, Addr.add]
  exact fun e => e.symm
theorem gaps_Of.slice (t e : TypeId) (m : Nat) (ht : Tryd.prog.underlying t = some (.array m e)) (hs : (Tryd.prog.info? e).map (·.size) = some 1) (hm : 0 < m) (g i : Nat) (hi : i ≤ m) (W : World) :
  (Instr.sliceAt t (.pointer (some ⟨g, 0, none⟩)) none (some (.int .i64 (i : Int))) none).run Tryd.prog W = .ok (.slice (some ⟨g, 0, none⟩) i m) W := by
 cases hq : Tryd.prog.info? e with
 | none => rw [hq] at hs; cases hs
 | some j =>
  have h0 : m ≠ 0 := by omega
  have hi' : (i : Int) ≤ (m : Int) := by omega
  simp [Instr.sliceAt, Instr.sliceBounds, run_underlying ht, Instr.sureAddr, sizeOf, typeInfo, hq, go_sem, Addr.add, hi, h0]
theorem gaps_Of.sizeP : (Tryd.prog.info? 9).map (·.size) = some 1 := by kernel_rfl
theorem gaps_Of.sizeG : (Tryd.prog.info? 4).map (·.size) = some 1 := by kernel_rfl
theorem gapsP_get (p : List ByteArray) (i : Nat) (h : i < p.length) : (gapsP p)[i]? = some (.string (p.getD i ⟨#[]⟩)) := by
 simp [gapsP, List.getD_eq_getElem?_getD, List.getElem?_eq_getElem h]
theorem gapsP_set (p : List ByteArray) (i : Nat) (s : ByteArray) : (gapsP p).setIfInBounds i (.string s) = gapsP (p.set i s) := by
 simp [gapsP, List.map_set]
theorem gapsG_set (p : List Bool) (i : Nat) (s : Bool) : (gapsG p).setIfInBounds i (.bool s) = gapsG (p.set i s) := by
 simp [gapsG, List.map_set]
def AP (w0 W : World) (B P G : Nat) (p : List ByteArray) (g : List Bool) : Prop :=
 W.heap[B]? = some (.cells #[.slice none 0 0, .slice none 0 0] 53 (0, 0)) ∧ W.heap[P]? = some (.cells (gapsP p) 105 (0, 0)) ∧ W.heap[G]? = some (.cells (gapsG g) 106 (0, 0)) ∧
  B ≠ P ∧ B ≠ G ∧ P ≠ G ∧ w0.heap.size ≤ B ∧ w0.heap.size ≤ P ∧ w0.heap.size ≤ G ∧ Below w0.heap.size w0 W
theorem AP.setP {w0 W : World} {B P G : Nat} {p : List ByteArray} {g : List Bool} (h : AP w0 W B P G p g) (i : Nat) (s : ByteArray) : AP w0 (W.setCell ⟨P, i, none⟩ (.string s)) B P G (p.set i s) g := by
 obtain ⟨h1, h2, h3, h4, h5, h6, h7, h8, h9, h10⟩ := h
 exact ⟨blk_far h1 h4 _, blk_put h2 i _ (gapsP_set _ _ _), blk_far h3 (fun e => h6 e.symm) _, h4, h5, h6, h7, h8, h9, h10.setCell (p := ⟨P, i, none⟩) h8 _⟩
theorem AP.setG {w0 W : World} {B P G : Nat} {p : List ByteArray} {g : List Bool} (h : AP w0 W B P G p g) (i : Nat) (s : Bool) : AP w0 (W.setCell ⟨G, i, none⟩ (.bool s)) B P G p (g.set i s) := by
 obtain ⟨h1, h2, h3, h4, h5, h6, h7, h8, h9, h10⟩ := h
 exact ⟨blk_far h1 h5 _, blk_far h2 h6 _, blk_put h3 i _ (gapsG_set _ _ _), h4, h5, h6, h7, h8, h9, h10.setCell (p := ⟨G, i, none⟩) h9 _⟩
theorem AP.below {w0 W W1 : World} {B P G : Nat} {p : List ByteArray} {g : List Bool} (h : AP w0 W B P G p g) (hb : Below W.heap.size W W1) : AP w0 W1 B P G p g := by
 obtain ⟨h1, h2, h3, h4, h5, h6, h7, h8, h9, h10⟩ := h
 exact ⟨blk_below h1 hb, blk_below h2 hb, blk_below h3 hb, h4, h5, h6, h7, h8, h9, below_then h10 h10.size hb⟩
theorem AP.cells {w0 W : World} {B P G : Nat} {p : List ByteArray} {g : List Bool} (h : AP w0 W B P G p g) (i : Nat) (hi : i < p.length) : W.cell? ⟨P, i, none⟩ = some (.string (p.getD i ⟨#[]⟩)) ∧ W.frozen? ⟨P, i, none⟩ = false ∧ W.frozen? ⟨G, i, none⟩ = false :=
 ⟨(blk_cell h.2.1 i).trans (gapsP_get p i hi), blk_frozen h.2.1 i, blk_frozen h.2.2.1 i⟩
theorem gapsG_get (p : List Bool) (i : Nat) (h : i < p.length) : (gapsG p)[i]? = some (.bool (p.getD i false)) := by
 simp [gapsG, List.getD_eq_getElem?_getD, List.getElem?_eq_getElem h]
theorem AP.cellG {w0 W : World} {B P G : Nat} {p : List ByteArray} {g : List Bool} (h : AP w0 W B P G p g) (i : Nat) (hi : i < g.length) : W.cell? ⟨G, i, none⟩ = some (.bool (g.getD i false)) :=
 (blk_cell h.2.2.1 i).trans (gapsG_get g i hi)
theorem gaps_Of.start {w w2 w3 w4 : World} {gp gg : Nat} {p : List ByteArray} {g : List Bool} (hb3 : Below w.heap.size w w3) (h3 : w3.heap[w.heap.size]? = some (.cells #[.slice none 0 0, .slice none 0 0] 53 (0, 0))) (h2 : w2.heap[w.heap.size]? = some (.cells #[.slice none 0 0, .slice none 0 0] 53 (0, 0)))
  (hp : w3.heap[gp]? = some (.cells (gapsP p) 105 (0, 0))) (hgp : gp = w2.heap.size) (hgg : gg = w3.heap.size) (hg : w4.heap[gg]? = some (.cells (gapsG g) 106 (0, 0))) (hb : Below w3.heap.size w3 w4) (hb2 : Below w.heap.size w w2) : AP w w4 w.heap.size gp gg p g := by
 have := blk_lt h2
 have := blk_lt hp
 exact ⟨blk_below h3 hb, blk_below hp hb, hg, by omega, by omega, by omega, Nat.le_refl _, by omega, by omega, below_then hb3 hb3.size hb⟩
theorem gaps_Of.fin {w wr : World} {B P G : Nat} {p : List ByteArray} {g : List Bool} (h : AP w wr B P G p g) (hp : p.length = 513) (hg : g.length = 512) (m n : Nat) (hm : m ≤ 513) (hn : n ≤ 512) (u0 u1 : Value) :
  Kd.R Kd.string 105 ((wr.setCell ⟨B, 0, none⟩ u0).setCell ⟨B, 1, none⟩ u1).drew w.heap.size (fun _ => True) (.slice (some ⟨P, 0, none⟩) m 513) (p.take m) ∧
   Kd.R Kd.bool 106 ((wr.setCell ⟨B, 0, none⟩ u0).setCell ⟨B, 1, none⟩ u1).drew w.heap.size (fun _ => True) (.slice (some ⟨G, 0, none⟩) n 512) (g.take n) ∧
   Below w.heap.size w ((wr.setCell ⟨B, 0, none⟩ u0).setCell ⟨B, 1, none⟩ u1).drew ∧ ((wr.setCell ⟨B, 0, none⟩ u0).setCell ⟨B, 1, none⟩ u1).drew.heap[B]? = some (.cells #[u0, u1] 53 (0, 0)) := by
 obtain ⟨h1, h2, h3, h4, h5, h6, h7, h8, h9, h10⟩ := h
 have e1 : ((wr.setCell ⟨B, 0, none⟩ u0).setCell ⟨B, 1, none⟩ u1).drew.heap[P]? = some (.cells (gapsP p) 105 (0, 0)) := blk_drew (blk_far (blk_far h2 (fun e => h4 e.symm) _) (fun e => h4 e.symm) _)
 have e2 : ((wr.setCell ⟨B, 0, none⟩ u0).setCell ⟨B, 1, none⟩ u1).drew.heap[G]? = some (.cells (gapsG g) 106 (0, 0)) := blk_drew (blk_far (blk_far h3 (fun e => h5 e.symm) _) (fun e => h5 e.symm) _)
 have lp : (p.take m).length = m := by rw [List.length_take]; omega
 have lg : (g.take n).length = n := by rw [List.length_take]; omega
 refine ⟨?_, ?_, below_drew1 ((h10.setCell (p := ⟨B, 0, none⟩) h7 _).setCell (p := ⟨B, 1, none⟩) h7 _), blk_drew (blk_put (blk_put h1 0 _ rfl) 1 _ rfl)⟩
 ·refine Kd.R_of_own (h1 := fun _ => rfl) (ok := fun _ => True) (enc := Value.string) ⟨by simp [encs], .inr ⟨P, 513, _, by rw [lp], h8, e1, by rw [lp]; exact hm, by unfold maxLen; decide, by simp [gapsP, hp], ?_⟩⟩ (fun _ _ => trivial)
  simp [encs, gapsP, lp, List.map_take]
 ·refine Kd.R_of_own (h1 := fun _ => rfl) (ok := fun _ => True) (enc := Value.bool) ⟨by simp [encs], .inr ⟨G, 512, _, by rw [lg], h9, e2, by rw [lg]; exact hn, by unfold maxLen; decide, by simp [gapsG, hg], ?_⟩⟩ (fun _ _ => trivial)
  simp [encs, gapsG, lg, List.map_take]
def gaps_Of.fill (b : Bool) : Nat → Nat → List Bool → List Bool
 | 0, _, g => g
 | n + 1, i, g => gaps_Of.fill b n (i + 1) (g.set i b)
def gaps_Of.go : List S25 → List ByteArray → List Bool → Nat → Option (List ByteArray × List Bool)
 | [], p, g, _ => some (p, g)
 | x :: l, p, g, i => if 0 ≤ x.f1 ∧ i + x.f1.toNat ≤ 512 ∧ (p.getD i ⟨#[]⟩).size + x.f2.size < 140737488355328 then gaps_Of.go l (p.set i (p.getD i ⟨#[]⟩ ++ x.f2)) (gaps_Of.fill (decide (x.f0 = 3)) x.f1.toNat i g) (i + x.f1.toNat) else none
def gaps_Of.f (k : Nat) (l0 : List S25) : Option (List ByteArray × List Bool × Int) :=
 (op_May.f k l0).bind fun e => if e = 0 then (op_In.f l0).bind fun n => if 0 ≤ n ∧ n ≤ 512 ∧ l0.length < 1000000 then (gaps_Of.go l0 (List.replicate 513 ⟨#[]⟩) (List.replicate 512 false) 0).bind fun s => some (s.1.take (n.toNat + 1), s.2.take n.toNat, 0) else none else none
set_option maxHeartbeats 8000000 in
set_option maxRecDepth 100000 in
theorem gaps_Of.calls (k : Nat) (A0 : Option Addr) (c0 : Nat) (l0 : List S25) (r1 : List ByteArray) (r2 : List Bool) (r3 : Int) (w : World) (hr0 : Kd.C k25 w A0 l0.length l0) (hc0 : l0.length ≤ c0) (hT : Tabs w) (h : gaps_Of.f k l0 = some (r1, r2, r3)) :
  Calls Tryd.prog 21 #[.slice A0 l0.length c0] w fun e w' => ∃ v0_ v1_ : Value, e = .returned (.tuple #[.agg #[v0_, v1_], .int .i64 r3]) ∧ Kd.R Kd.string 105 w' w.heap.size (fun _ => True) v0_ r1 ∧ Kd.R Kd.bool 106 w' w.heap.size (fun _ => True) v1_ r2 ∧ Below w.heap.size w w' := by
 unfold gaps_Of.f at h
 obtain ⟨e, he, h⟩ := Option.bind_eq_some_iff.mp h
 by_cases z : e = 0
 ·subst z
  rw [if_pos rfl] at h
  obtain ⟨n, hn, h⟩ := Option.bind_eq_some_iff.mp h
  by_cases z : 0 ≤ n ∧ n ≤ 512 ∧ l0.length < 1000000
  ·rw [if_pos z] at h
   obtain ⟨⟨p9, g9⟩, hg, h⟩ := Option.bind_eq_some_iff.mp h
   simp only [Option.some.injEq, Prod.mk.injEq] at h
   obtain ⟨rfl, rfl, rfl⟩ := h
   obtain ⟨z1, z2, z3⟩ := z
   obtain ⟨n, rfl⟩ : ∃ m : Nat, n = (m : Int) := ⟨n.toNat, by omega⟩
   rw [Int.toNat_natCast]
   have hnb : decide ((512 : Int) < (n : Int)) = false := decide_eq_false (by omega)
   have hnb2 : decide (512 < n) = false := decide_eq_false (by omega)
   have HR0 := am hr0; have HC0 := am hc0; have HT := am hT; have HM := am he; have HN := am hn; have HG := am hg; have HN2 := am z2; have HL0 := am z3
   clear hr0 hc0 hT he hn hg z1 z2 z3
   have HB1 : Aside0 (Below w.heap.size w (w.alloc (.cells #[.slice none 0 0, .slice none 0 0] 53 (0, 0)))) := ⟨(Below.refl _ _).alloc (Nat.le_refl _) _⟩
   have HG1 : Aside0 ((w.alloc (.cells #[.slice none 0 0, .slice none 0 0] 53 (0, 0))).heap[w.heap.size]? = some (.cells #[.slice none 0 0, .slice none 0 0] 53 (0, 0))) := ⟨blk_new _ _⟩
   go_enter Tryd.func21, Tryd.ntmps21
   go_wp2_with (first | (go_at_call 46; (with_reducible refine (op_May.calls k A0 c0 l0 0 _ (Kd.C_below HR0.out HB1.out) HC0.out (Tabs.below HT.out HB1.out) HM.out).mono ?_); rintro e w1 ⟨rfl, hb⟩; have HG2 := am (blk_below HG1.out hb); have HB2 := am (below_then HB1.out HB1.out.size hb); clear hb) | (go_at_call 20; (with_reducible refine (op_In.calls A0 c0 l0 (n : Int) _ (Kd.C_below HR0.out HB2.out) HC0.out (Tabs.below HT.out HB2.out) HN.out).mono ?_); rintro e w2 ⟨rfl, hb⟩; have HG3 := am (blk_below HG2.out hb); have HB3 := am (below_then HB2.out HB2.out.size hb); clear hb) | ((with_reducible refine gate_dst (N := 6) rfl ?_); refine box_event ?hg (N := 6) ?hd (cs := gapsP (List.replicate 513 ⟨#[]⟩)) (t := 105) ?hr ?_; (case hd => rfl); (case hg => rfl); (case hr => (simp [execOp, gaps_Of.allocP, Result.andThen]; done)); intro gp hgp w3 hbp hb; have HG4 := am (blk_below HG3.out hb); have HB4 := am (below_then HB3.out HB3.out.size hb); have HP4 := am hbp; have HGP := am hgp; clear hb hbp hgp) | ((with_reducible refine gate_dst (N := 7) rfl ?_); refine box_event ?hg (N := 7) ?hd (cs := gapsG (List.replicate 512 false)) (t := 106) ?hr ?_; (case hd => rfl); (case hg => rfl); (case hr => (simp [execOp, gaps_Of.allocG, Result.andThen]; done)); intro gg hgg w4 hbg hb; have HAP : Aside0 (AP w w4 w.heap.size gp gg (List.replicate 513 ⟨#[]⟩) (List.replicate 512 false)) := ⟨gaps_Of.start HB4.out HG4.out HG3.out HP4.out HGP.out hgg hbg hb HB3.out⟩; clear hb hbg hgg))
   clear hnb hnb2 HG1 HG2 HG3 HG4 HB1 HB2 HB3 HB4 HP4 HGP HM
   go_loopw [8, 24] (fun v8 v24 wr => ∃ (j i : Nat) (p : List ByteArray) (g : List Bool), v24 = .int .i64 j ∧ v8 = .int .i64 i ∧ j ≤ l0.length ∧ i ≤ 512 ∧ Aside0 (p.length = 513 ∧ g.length = 512) ∧ Aside0 (AP w wr w.heap.size gp gg p g) ∧ Aside0 (gaps_Of.go (l0.drop j) p g i = some (p9, g9))) (fun _ v24 _ => l0.length - (intOf v24).toNat)
   case atStart => exact ⟨0, 0, _, _, rfl, rfl, Nat.zero_le _, Nat.zero_le _, ⟨by simp⟩, HAP, HG⟩
   case round =>
    clear HAP HG
    obtain ⟨j, i, p, g, rfl, rfl, hj, hi, HLN, HAP, HG⟩ := hrel
    by_cases hlt : j < l0.length
    ·have hltb : decide ((j : Int) < (l0.length : Int)) = true := decide_eq_true (by omega)
     have HL := am hlt
     have h := HG.out
     clear HG
     rw [op_sum.next l0 j hlt, gaps_Of.go] at h
     obtain ⟨ad, e1, hx0, hx1, hx2⟩ := at_T25 (Kd.C_below HR0.out HAP.out.2.2.2.2.2.2.2.2.2) (j : Int) (by omega) (by omega)
     subst e1
     rw [Int.toNat_natCast] at hx0 hx1 hx2
     have p1 : ((j : Int) < (l0.length : Int)) = True := eq_true (by omega)
     have p2 : (j < l0.length) = True := eq_true hlt
     have ew1 : wrap64 ((j : Int) + 1) = ((j + 1 : Nat) : Int) := by have := HL0.out; unfold wrap64; omega
     generalize rd_T25 l0 (j : Int) = x at *
     by_cases z : 0 ≤ x.f1 ∧ i + x.f1.toNat ≤ 512 ∧ (p.getD i ⟨#[]⟩).size + x.f2.size < 140737488355328
     ·rw [if_pos z] at h
      have HG := am h
      obtain ⟨z1, z2, z3⟩ := z
      obtain ⟨N, hN⟩ : ∃ N : Nat, x.f1 = (N : Int) := ⟨x.f1.toNat, by omega⟩
      rw [hN] at hx1 HG z2
      rw [Int.toNat_natCast] at HG z2
      obtain ⟨s, hs⟩ : ∃ s, p.getD i ⟨#[]⟩ = s := ⟨_, rfl⟩
      rw [hs] at HG z3
      have hcb : (9223372036854775807 < s.size + x.f2.size) = False := eq_false (by omega)
      obtain ⟨b, hb⟩ : ∃ b, decide (x.f0 = 3) = b := ⟨_, rfl⟩
      have hb2 : (x.f0 == 3) = b := by rw [← hb]; rfl
      rw [hb] at HG
      have hix := gaps_Of.index 105 9 513 Tryd.underlying105 gaps_Of.sizeP gp i (by omega)
      have HA1 := HAP.out.below (below_alloc (Below.refl wr.heap.size wr) (.cells #[.int .i64 x.f0, .int .i64 (N : Int), .string x.f2] 25 (0, 0)))
      have HS1 := blk_new wr (.cells #[.int .i64 x.f0, .int .i64 (N : Int), .string x.f2] 25 (0, 0))
      have q1 := (HA1.cells i (by have := HLN.out.1; omega)).1
      rw [hs] at q1
      have q2 := (HA1.cells i (by have := HLN.out.1; omega)).2.1
      have q3 := (blk_cell HS1 2).trans rfl
      have HI := am hi; have HZ2 := am z2; have HZ3 := am z3
      have HA2 := am ((AP.setP HA1 i (s ++ x.f2)).below (below_drew1 (Below.refl _ _)))
      have HSL := blk_lt HAP.out.2.1
      have HS2 := am (blk_drew (blk_far (p := ⟨gp, i, none⟩) HS1 (by show wr.heap.size ≠ gp; omega) (.string (s ++ x.f2))))
      clear hlt hj h z1 z2 z3 hN hs hb HA1 HS1 HSL
      go_wp2
      have r1 : (wr.alloc (.cells #[.int .i64 x.f0, .int .i64 (N : Int), .string x.f2] 25 (0, 0))).drew.cell? ⟨gp, i, none⟩ = some (.string s) := q1
      have r2 : (wr.alloc (.cells #[.int .i64 x.f0, .int .i64 (N : Int), .string x.f2] 25 (0, 0))).drew.frozen? ⟨gp, i, none⟩ = false := q2
      have r3 : (wr.alloc (.cells #[.int .i64 x.f0, .int .i64 (N : Int), .string x.f2] 25 (0, 0))).drew.cell? ⟨wr.heap.size, 2, none⟩ = some (.string x.f2) := q3
      go_region
      clear q1 q2 q3 r1 r2 r3 hcb hix hx0 hx1 hx2
      generalize ((wr.alloc (.cells #[.int .i64 x.f0, .int .i64 (N : Int), .string x.f2] 25 (0, 0))).setCell ⟨gp, i, none⟩ (.string (s ++ x.f2))).drew = wa at HA2 HS2 ⊢
      obtain ⟨S, hS⟩ : ∃ S, wr.heap.size = S := ⟨_, rfl⟩
      rw [hS] at HS2 ⊢
      clear hS
      have t1 := (blk_cell HS2.out 1).trans rfl
      obtain ⟨pp, hpp⟩ : ∃ pp, p.set i (s ++ x.f2) = pp := ⟨_, rfl⟩
      rw [hpp] at HA2 HG
      have HPL : Aside0 (pp.length = 513) := ⟨by rw [← hpp, List.length_set]; exact HLN.out.1⟩
      have HGL : Aside0 (g.length = 512) := ⟨HLN.out.2⟩
      clear hpp HLN HAP
      go_wp2
      go_loopw [8, 37] (fun v8 v37 wi => ∃ (t u : Nat) (g' : List Bool), v37 = .int .i64 t ∧ v8 = .int .i64 (u : Int) ∧ Aside0 (u = i + t) ∧ t ≤ N ∧ Aside0 (g'.length = 512) ∧ Aside0 (AP w wi w.heap.size gp gg pp g') ∧ Aside0 (wi.heap[S]? = some (.cells #[.int .i64 x.f0, .int .i64 (N : Int), .string x.f2] 25 (0, 0))) ∧ Aside0 (gaps_Of.fill b (N - t) u g' = gaps_Of.fill b N i g)) (fun _ v37 _ => N - (intOf v37).toNat)
      case atStart => exact ⟨0, i, g, rfl, rfl, ⟨rfl⟩, Nat.zero_le _, HGL, HA2, HS2, ⟨rfl⟩⟩
      case round =>
       clear HA2 HS2 t1 HGL
       obtain ⟨t, u, g', rfl, rfl, HU, ht, HGL, HA2, HS2, HF⟩ := hrel
       by_cases hlt : t < N
       ·have hltb : decide ((t : Int) < (N : Int)) = true := decide_eq_true (by omega)
        have hltc : decide (t < N) = true := decide_eq_true hlt
        have HTL := am hlt
        have t0 : wr.cell? ⟨S, 0, none⟩ = some (.int .i64 x.f0) := (blk_cell HS2.out 0).trans rfl
        have hix := gaps_Of.index 106 4 512 Tryd.underlying106 gaps_Of.sizeG gg u (by have := HZ2.out; have := HU.out; omega)
        obtain ⟨_, _, q4⟩ := HA2.out.cells u (by have := HU.out; have := HZ2.out; have := HPL.out; omega)
        have q5 := HA2.out.cellG u (by have := HU.out; have := HZ2.out; have := HGL.out; omega)
        have HA3 := am (HA2.out.setG u b)
        have HSG : Aside0 (S ≠ gg) := ⟨fun e => by have a := HS2.out; rw [e, HA2.out.2.2.1] at a; injection a with a; injection a with a1 a2 a3; exact absurd a2 (by decide)⟩
        have HS3 := am (blk_far (p := ⟨gg, u, none⟩) HS2.out HSG.out (.bool b))
        have ew2 : wrap64 ((t : Int) + 1) = ((t + 1 : Nat) : Int) := by have := HZ2.out; unfold wrap64; omega
        have ew3 : wrap64 ((u : Int) + 1) = ((u + 1 : Nat) : Int) := by have := HZ2.out; have := HU.out; unfold wrap64; omega
        have HGL3 : Aside0 ((g'.set u b).length = 512) := ⟨by rw [List.length_set]; exact HGL.out⟩
        have HF3 : Aside0 (gaps_Of.fill b (N - (t + 1)) (u + 1) (g'.set u b) = gaps_Of.fill b N i g) := ⟨by
         have a := HF.out
         rw [show N - t = N - (t + 1) + 1 by omega, gaps_Of.fill] at a
         exact a⟩
        have HU3 : Aside0 (u + 1 = i + (t + 1)) := ⟨by have := HU.out; omega⟩
        clear hlt HF HA2 HS2 ht
        go_wp2
        go_roundw
        case rel => exact ⟨t + 1, u + 1, _, by rw [ew2], by rw [ew3], HU3, HTL.out, HGL3, HA3, HS3, HF3⟩
        case measure => exact op_sum.less HTL.out ew2
       ·have hltb : decide ((t : Int) < (N : Int)) = false := decide_eq_false (by omega)
        have hltc : decide (t < N) = false := decide_eq_false hlt
        have t1 : wr.cell? ⟨S, 1, none⟩ = some (.int .i64 (N : Int)) := (blk_cell HS2.out 1).trans rfl
        obtain rfl : t = N := by omega
        have HF3 := HF.out
        rw [Nat.sub_self, gaps_Of.fill] at HF3
        rw [← HF3, ← HU.out] at HG
        clear hlt HF HF3 ht
        go_wp2
        go_roundw
        case rel => exact ⟨j + 1, u, pp, g', by rw [ew1], rfl, HL.out, by have := HU.out; have := HZ2.out; omega, ⟨HPL.out, HGL.out⟩, HA2, HG⟩
        case measure => exact op_sum.less HL.out ew1
     ·rw [if_neg z] at h; cases h
    ·have hltb : decide ((j : Int) < (l0.length : Int)) = false := decide_eq_false (by omega)
     have hltc : decide (j < l0.length) = false := decide_eq_false hlt
     have h := HG.out
     clear HG
     rw [List.drop_of_length_le (by omega), gaps_Of.go] at h
     simp only [Option.some.injEq, Prod.mk.injEq] at h
     obtain ⟨rfl, rfl⟩ := h
     clear hlt hj hi
     have HN3 : Aside0 (n ≤ 512) := ⟨by have := HN2.out; omega⟩
     obtain ⟨m1, hm1⟩ : ∃ m, n + 1 = m := ⟨_, rfl⟩
     have hs1 := gaps_Of.slice 105 9 513 Tryd.underlying105 gaps_Of.sizeP (by decide) gp m1 (by have := HN3.out; omega)
     have hs2 := gaps_Of.slice 106 4 512 Tryd.underlying106 gaps_Of.sizeG (by decide) gg n HN3.out
     have ewn : wrap64 ((n : Int) + 1) = (m1 : Int) := by have := HN3.out; unfold wrap64; omega
     have ewn2 : IntKind.i64.wrap ((n : Int) + 1) = (m1 : Int) := by rw [IntKind.wrap_i64]; have := HN3.out; omega
     have HM1 := am hm1
     clear hm1
     have k0 := (blk_cell HAP.out.1 0).trans rfl
     have k1 := (blk_cell HAP.out.1 1).trans rfl
     have f0 := blk_frozen HAP.out.1 0
     have f1 := blk_frozen HAP.out.1 1
     have k0' : wr.drew.cell? ⟨w.heap.size, 0, none⟩ = some (.slice none 0 0) := k0
     have k1' : wr.drew.cell? ⟨w.heap.size, 1, none⟩ = some (.slice none 0 0) := k1
     go_wp2
     go_region
     have HFI := am (gaps_Of.fin HAP.out HLN.out.1 HLN.out.2 m1 n (by have := HN3.out; have := HM1.out; omega) HN3.out (.slice (some ⟨gp, 0, none⟩) m1 513) (.slice (some ⟨gg, 0, none⟩) n 512))
     obtain rfl := HM1.out
     go_wp2
     refine bodyPost_ret (results_ct rfl _ _ w.heap.size 53 _ (0, 0) _ rfl HFI.out.2.2.2 Tryd.underlying53 rfl (by kernel_rfl)) rfl ?_
     exact ⟨_, _, rfl, HFI.out.1, HFI.out.2.1, HFI.out.2.2.1⟩
  ·rw [if_neg z] at h; cases h
 ·rw [if_neg z] at h; cases h
def gaps_add (d : List S25) (x : S25) : List S25 := if normal_Of.e x = true then d else normal_Of.step d x
theorem gaps_zero (w : World) : (zeroValue 3).run Tryd.prog w = .ok (.int .i64 0) w := by kernel_rfl
theorem plainElem_int_inv {H : Type} {P : Program} {e : TypeId} (he : P.underlying e = some (.int .i64)) {v : Value} {z : DataW H × List MemPlace} (h : plainElem P e v = some z) : ∃ x, v = .int .i64 x ∧ z = (.lit (.int .i64 x), []) := by
 unfold plainElem at h
 rw [he] at h
 cases v <;> simp at h
 obtain ⟨h1, h2⟩ := h
 have h1 := h1.1
 subst h1
 exact ⟨_, rfl, h2.symm⟩
def MB (w : World) (b n : Nat) (l : Bool → Int) : Prop := ∃ D : DataW Unit, w.ownsMap Tryd.prog 4 (plainElem Tryd.prog 3) b n D ∧ Go.Maps.IsMap D ∧ ∀ x : Bool, D.atKey (.bool x) (.lit (.int .i64 0)) = .lit (.int .i64 (l x))
theorem MB.kept {w w' : World} {b n : Nat} {l : Bool → Int} {row : Option Nat} (h : MB w b n l) (hg : w.grownBy w' row) (hne : some b ≠ row) : MB w' b n l := by
 obtain ⟨D, h1, h2, h3⟩ := h
 exact ⟨D, h1.kept hg hne, h2, h3⟩
theorem MB_made (w : World) : MB (w.alloc (.map #[] 0)) w.heap.size 0 (fun _ => 0) := ⟨.map [], World.ownsMap_made w _ _ _, Go.Maps.isMap_empty, fun x => by simp [DataW.atKey]⟩
theorem MB.put {w : World} {b n : Nat} {l : Bool → Int} (h : MB w b n l) (hn : n < maxLen) (y : Bool) {z : Int} (hz : (Lit.int .i64 z).wf = true) :
  ∃ w', (Instr.mapUpdate 109 (.map (some b)) (.bool y) (.int .i64 z)).run Tryd.prog w = .ok () w' ∧ MB w' b (n + 1) (fun x => if x = y then z else l x) ∧ w.grownBy w' (some b) := by
 obtain ⟨D, h1, h2, h3⟩ := h
 obtain ⟨w', hrun, r1, r2⟩ := h1.update (Go.Maps.bool_keyed Tryd.underlying4) Tryd.underlying109 hn (Go.Maps.keyOf_bool_mk Tryd.underlying4 y) (plainElem_int Tryd.underlying3 hz)
 refine ⟨w', hrun, ⟨_, r1, h2.put _ _, fun x => ?_⟩, r2⟩
 by_cases c : x = y
 ·subst c
  rw [Go.Maps.atKey_put_same h2 (by simp [WideAt.IsKeyLit])]
  simp
 ·rw [Go.Maps.atKey_put_other (by intro e; injection e with e1; exact c e1), h3]
  simp [c]
theorem MB.look {w : World} {b n : Nat} {l : Bool → Int} (h : MB w b n l) (x : Bool) :
  (Instr.lookup 109 (.map (some b)) (.bool x) false).run Tryd.prog w = .ok (.int .i64 (l x)) w := by
 obtain ⟨D, h1, h2, h3⟩ := h
 obtain ⟨v, ps, hrun, hv⟩ := h1.lookup (Go.Maps.bool_keyed Tryd.underlying4) Tryd.underlying109 (gaps_zero w) (plainElem_int Tryd.underlying3 (by decide)) (Go.Maps.keyOf_bool_mk Tryd.underlying4 x)
 obtain ⟨c, rfl, e⟩ := plainElem_int_inv Tryd.underlying3 hv
 have e1 := congrArg Prod.fst e
 rw [h3] at e1
 rw [(Lit.int.inj (DataW.lit.inj e1)).2]
 exact hrun
def gaps_kind (b : Bool) : Int := if b then 3 else 1
def WI (w0 W : World) (p m : Nat) (v : Value) (d : List S25) : Prop := W.heap[p]? = some (.cells #[v] 108 (0, 0)) ∧ Kd.R k25 25 W w0.heap.size (fun k => k ≠ p ∧ k ≠ m) v d ∧ w0.heap.size ≤ p ∧ Below w0.heap.size w0 W ∧ MB W m 2 gaps_kind ∧ m ≠ p ∧ m < W.heap.size
theorem spans_ok {W : World} {base : Nat} {ok ok' : Nat → Prop} {v : Value} {d : List S25} (h : Kd.R k25 25 W base ok v d) (hok : ∀ k, v.ownBlock = some k → ok' k) : Kd.R k25 25 W base ok' v d := spans_own (own_spans h) hok
theorem grown_setCell' (w : World) (a : Addr) (u : Value) : w.grownBy (w.setCell a u) (some a.block) :=
 ⟨rfl, rfl, rfl, by simp, fun i hi hne => Below.heap_setCell w a u i (fun e => hne (by rw [e]))⟩
theorem gaps_add.fresh {w0 W : World} {p m : Nat} {v : Value} {d : List S25} (h : WI w0 W p m v d) : ∀ k, W.heap.size ≤ k → k ≠ p ∧ k ≠ m := by
 intro k hk
 have := blk_lt h.1
 have := h.2.2.2.2.2.2
 omega
theorem gaps_add.stored {w0 W W1 : World} {p m : Nat} {v v1 : Value} {d d1 : List S25} (h : WI w0 W p m v d) (hr : Kd.R k25 25 W1 w0.heap.size (fun k => k ≠ p ∧ k ≠ m) v1 d1) (hb : Below w0.heap.size w0 W1) (hg : W.grownBy W1 v.ownBlock) : WI w0 (W1.setCell ⟨p, 0, none⟩ v1) p m v1 d1 ∧ W1.cell? ⟨p, 0, none⟩ = some v ∧ W1.frozen? ⟨p, 0, none⟩ = false := by
 have hp : W1.heap[p]? = some (.cells #[v] 108 (0, 0)) := blk_kept h.1 (Kept.of_grown (S := fun k => v.ownBlock = some k) hg (Kept.refl _ _) (fun k e => .inl e)) (fun e => (h.2.1.1 _ e).1 rfl)
 have hm : MB (W1.setCell ⟨p, 0, none⟩ v1) m 2 gaps_kind := (h.2.2.2.2.1.kept hg (fun e => (h.2.1.1 _ e.symm).2 rfl)).kept (grown_setCell' _ _ _) (fun e => h.2.2.2.2.2.1 (Option.some.inj e))
 exact ⟨⟨blk_put hp 0 _ rfl, Kd.R_far (p := ⟨p, 0, none⟩) hr (fun k hk => hk.1) _, h.2.2.1, hb.setCell (p := ⟨p, 0, none⟩) h.2.2.1 _, hm, h.2.2.2.2.2.1, by have := hg.size; have := h.2.2.2.2.2.2; simp; omega⟩, (blk_cell hp 0).trans rfl, blk_frozen hp 0⟩
set_option maxHeartbeats 8000000 in
set_option maxRecDepth 100000 in
theorem gaps_add.nothing (w0 w : World) (p m : Nat) (v : Value) (d : List S25) (x : S25) (hI : WI w0 w p m v d) (hl : d.length < 1000000) (he : normal_Of.e x = true) :
  Calls Tryd.prog 61 #[.pointer (some ⟨p, 0, none⟩), .int .i64 x.f0, .int .i64 x.f1, .string x.f2] w fun e w' => e = .returned (.tuple #[]) ∧ WI w0 w' p m v d := by
 obtain ⟨A, c, rfl, _, _⟩ := Kd.R_reads hI.2.1
 have hc : w.cell? ⟨p, 0, none⟩ = some (.slice A d.length c) := (blk_cell hI.1 0).trans rfl
 have HI := am hI; have HL := am hl
 have h1 : (x.f1 == 0) = true ∧ x.f2 = ⟨#[]⟩ := by
  unfold normal_Of.e at he
  rw [Bool.and_eq_true] at he
  refine ⟨by simpa using he.1, ?_⟩
  have := he.2
  rw [beq_iff_eq, ByteArray.toList_eq] at this
  cases hx : x.f2 with
  | mk a => rw [hx] at this; simp at this; rw [this]
 obtain ⟨n0, n1⟩ := h1
 rw [n1]
 have n2 : ((⟨#[]⟩ : ByteArray) == ⟨#[]⟩) = true := by decide
 clear hI hl he n1
 go_enter Tryd.func61, Tryd.ntmps61
 go_wp2
 go_end0
 exact ⟨rfl, HI.out⟩
set_option maxHeartbeats 8000000 in
set_option maxRecDepth 100000 in
theorem gaps_add.more (w0 w : World) (p m : Nat) (v : Value) (d : List S25) (x : S25) (hI : WI w0 w p m v d) (hl : d.length < 1000000) (he : ((x.f1 == 0) = false) ∨ (x.f2.toList.isEmpty = false)) (hk : d = [] ∨ (rd_T25 d ((d.length : Int) - 1)).f0 ≠ x.f0) :
  Calls Tryd.prog 61 #[.pointer (some ⟨p, 0, none⟩), .int .i64 x.f0, .int .i64 x.f1, .string x.f2] w fun e w' => e = .returned (.tuple #[]) ∧ ∃ v', WI w0 w' p m v' (d ++ [x]) := by
 obtain ⟨A, c, rfl, _, hrd⟩ := Kd.R_reads hI.2.1
 have hc : w.cell? ⟨p, 0, none⟩ = some (.slice A d.length c) := (blk_cell hI.1 0).trans rfl
 have HI := am hI; have HL := am hl
 clear hI hl
 by_cases h0 : d.length = 0
 ·have hw : wrap64 ((d.length : Int) - 1) = -1 := by unfold wrap64; omega
  rcases he with n1 | n1
  ·clear hrd hk h0
   go_enter Tryd.func61, Tryd.ntmps61
   go_wp2_with ((with_reducible refine gate_builtin (b := .append) (xs := #[.tmp 19, .tmp 24]) rfl ?_); at_builtin; refine Kd.R_append k25 (w0 := w0) w0.heap.size rfl (.tmp 19) (.tmp 24) 27 25 (.agg #[(.int .i64 0), (.int .i64 0), (.string ⟨#[]⟩)]) 32 rfl Tryd.underlying27 info25 rfl (by decide) (by omega) (.slice _ d.length c) d x [.int .i64 x.f0, .int .i64 x.f1, .string x.f2] (fun k => k ≠ p ∧ k ≠ m) (fun _ => False) rfl rfl ?aP (fun _ hk => hk.elim) ?aF ?aO ?aB ?aS ?aL ?_; (case aP => exact k25_mkM _ _ _ _); (case aB => exact HI.out.2.2.2.1); (case aF => exact gaps_add.fresh HI.out); (case aO => exact HI.out.2.1); (case aS => exact HI.out.2.2.2.1.size); (case aL => have := HL.out; omega); intro v17 w17 ho hb hg hat; have HS17 := am (gaps_add.stored HI.out ho hb hg); obtain ⟨A17, c17, e17⟩ := Kd.R_slice ho; rw [List.length_append, List.length_singleton] at e17; subst e17; have cs17 := HS17.out.2.1; have fs17 := HS17.out.2.2; clear ho hb hg hat)
   go_end0
   exact ⟨rfl, _, HS17.out.1⟩
  ·by_cases n2 : (x.f1 == 0) = true
   ·clear hrd hk h0
    go_enter Tryd.func61, Tryd.ntmps61
    go_wp2_with ((with_reducible refine gate_builtin (b := .append) (xs := #[.tmp 19, .tmp 24]) rfl ?_); at_builtin; refine Kd.R_append k25 (w0 := w0) w0.heap.size rfl (.tmp 19) (.tmp 24) 27 25 (.agg #[(.int .i64 0), (.int .i64 0), (.string ⟨#[]⟩)]) 32 rfl Tryd.underlying27 info25 rfl (by decide) (by omega) (.slice _ d.length c) d x [.int .i64 x.f0, .int .i64 x.f1, .string x.f2] (fun k => k ≠ p ∧ k ≠ m) (fun _ => False) rfl rfl ?aP (fun _ hk => hk.elim) ?aF ?aO ?aB ?aS ?aL ?_; (case aP => exact k25_mkM _ _ _ _); (case aB => exact HI.out.2.2.2.1); (case aF => exact gaps_add.fresh HI.out); (case aO => exact HI.out.2.1); (case aS => exact HI.out.2.2.2.1.size); (case aL => have := HL.out; omega); intro v17 w17 ho hb hg hat; have HS17 := am (gaps_add.stored HI.out ho hb hg); obtain ⟨A17, c17, e17⟩ := Kd.R_slice ho; rw [List.length_append, List.length_singleton] at e17; subst e17; have cs17 := HS17.out.2.1; have fs17 := HS17.out.2.2; clear ho hb hg hat)
    go_end0
    exact ⟨rfl, _, HS17.out.1⟩
   ·have n3 : (x.f1 == 0) = false := by simpa using n2
    clear hrd hk h0 n2
    go_enter Tryd.func61, Tryd.ntmps61
    go_wp2_with ((with_reducible refine gate_builtin (b := .append) (xs := #[.tmp 19, .tmp 24]) rfl ?_); at_builtin; refine Kd.R_append k25 (w0 := w0) w0.heap.size rfl (.tmp 19) (.tmp 24) 27 25 (.agg #[(.int .i64 0), (.int .i64 0), (.string ⟨#[]⟩)]) 32 rfl Tryd.underlying27 info25 rfl (by decide) (by omega) (.slice _ d.length c) d x [.int .i64 x.f0, .int .i64 x.f1, .string x.f2] (fun k => k ≠ p ∧ k ≠ m) (fun _ => False) rfl rfl ?aP (fun _ hk => hk.elim) ?aF ?aO ?aB ?aS ?aL ?_; (case aP => exact k25_mkM _ _ _ _); (case aB => exact HI.out.2.2.2.1); (case aF => exact gaps_add.fresh HI.out); (case aO => exact HI.out.2.1); (case aS => exact HI.out.2.2.2.1.size); (case aL => have := HL.out; omega); intro v17 w17 ho hb hg hat; have HS17 := am (gaps_add.stored HI.out ho hb hg); obtain ⟨A17, c17, e17⟩ := Kd.R_slice ho; rw [List.length_append, List.length_singleton] at e17; subst e17; have cs17 := HS17.out.2.1; have fs17 := HS17.out.2.2; clear ho hb hg hat)
    go_end0
    exact ⟨rfl, _, HS17.out.1⟩
 ·obtain ⟨la, hla⟩ : ∃ la, d.length = la + 1 := ⟨d.length - 1, by omega⟩
  have hw : wrap64 ((d.length : Int) - 1) = (la : Int) := by have := HL.out; unfold wrap64; omega
  obtain ⟨ad, ead, hx0, hx1, hx2⟩ := at_T25 hrd (la : Int) (by omega) (by omega)
  subst ead
  rw [Int.toNat_natCast] at hx0
  have q1 : ((la : Int) < (d.length : Int)) = True := eq_true (by omega)
  have q2 : (la < d.length) = True := eq_true (by omega)
  have hkb : ((rd_T25 d (la : Int)).f0 == x.f0) = false := by
   have := hk.resolve_left (fun e => h0 (by rw [e]; rfl))
   rw [show (d.length : Int) - 1 = (la : Int) by omega] at this
   simpa using this
  rcases he with n1 | n1
  ·clear hrd hk h0 hla hx1 hx2
   go_enter Tryd.func61, Tryd.ntmps61
   go_wp2_with ((with_reducible refine gate_builtin (b := .append) (xs := #[.tmp 19, .tmp 24]) rfl ?_); at_builtin; refine Kd.R_append k25 (w0 := w0) w0.heap.size rfl (.tmp 19) (.tmp 24) 27 25 (.agg #[(.int .i64 0), (.int .i64 0), (.string ⟨#[]⟩)]) 32 rfl Tryd.underlying27 info25 rfl (by decide) (by omega) (.slice _ d.length c) d x [.int .i64 x.f0, .int .i64 x.f1, .string x.f2] (fun k => k ≠ p ∧ k ≠ m) (fun _ => False) rfl rfl ?aP (fun _ hk => hk.elim) ?aF ?aO ?aB ?aS ?aL ?_; (case aP => exact k25_mkM _ _ _ _); (case aB => exact HI.out.2.2.2.1); (case aF => exact gaps_add.fresh HI.out); (case aO => exact HI.out.2.1); (case aS => exact HI.out.2.2.2.1.size); (case aL => have := HL.out; omega); intro v17 w17 ho hb hg hat; have HS17 := am (gaps_add.stored HI.out ho hb hg); obtain ⟨A17, c17, e17⟩ := Kd.R_slice ho; rw [List.length_append, List.length_singleton] at e17; subst e17; have cs17 := HS17.out.2.1; have fs17 := HS17.out.2.2; clear ho hb hg hat)
   go_end0
   exact ⟨rfl, _, HS17.out.1⟩
  ·by_cases n2 : (x.f1 == 0) = true
   ·clear hrd hk h0 hla hx1 hx2
    go_enter Tryd.func61, Tryd.ntmps61
    go_wp2_with ((with_reducible refine gate_builtin (b := .append) (xs := #[.tmp 19, .tmp 24]) rfl ?_); at_builtin; refine Kd.R_append k25 (w0 := w0) w0.heap.size rfl (.tmp 19) (.tmp 24) 27 25 (.agg #[(.int .i64 0), (.int .i64 0), (.string ⟨#[]⟩)]) 32 rfl Tryd.underlying27 info25 rfl (by decide) (by omega) (.slice _ d.length c) d x [.int .i64 x.f0, .int .i64 x.f1, .string x.f2] (fun k => k ≠ p ∧ k ≠ m) (fun _ => False) rfl rfl ?aP (fun _ hk => hk.elim) ?aF ?aO ?aB ?aS ?aL ?_; (case aP => exact k25_mkM _ _ _ _); (case aB => exact HI.out.2.2.2.1); (case aF => exact gaps_add.fresh HI.out); (case aO => exact HI.out.2.1); (case aS => exact HI.out.2.2.2.1.size); (case aL => have := HL.out; omega); intro v17 w17 ho hb hg hat; have HS17 := am (gaps_add.stored HI.out ho hb hg); obtain ⟨A17, c17, e17⟩ := Kd.R_slice ho; rw [List.length_append, List.length_singleton] at e17; subst e17; have cs17 := HS17.out.2.1; have fs17 := HS17.out.2.2; clear ho hb hg hat)
    go_end0
    exact ⟨rfl, _, HS17.out.1⟩
   ·have n3 : (x.f1 == 0) = false := by simpa using n2
    clear hrd hk h0 n2 hla hx1 hx2
    go_enter Tryd.func61, Tryd.ntmps61
    go_wp2_with ((with_reducible refine gate_builtin (b := .append) (xs := #[.tmp 19, .tmp 24]) rfl ?_); at_builtin; refine Kd.R_append k25 (w0 := w0) w0.heap.size rfl (.tmp 19) (.tmp 24) 27 25 (.agg #[(.int .i64 0), (.int .i64 0), (.string ⟨#[]⟩)]) 32 rfl Tryd.underlying27 info25 rfl (by decide) (by omega) (.slice _ d.length c) d x [.int .i64 x.f0, .int .i64 x.f1, .string x.f2] (fun k => k ≠ p ∧ k ≠ m) (fun _ => False) rfl rfl ?aP (fun _ hk => hk.elim) ?aF ?aO ?aB ?aS ?aL ?_; (case aP => exact k25_mkM _ _ _ _); (case aB => exact HI.out.2.2.2.1); (case aF => exact gaps_add.fresh HI.out); (case aO => exact HI.out.2.1); (case aS => exact HI.out.2.2.2.1.size); (case aL => have := HL.out; omega); intro v17 w17 ho hb hg hat; have HS17 := am (gaps_add.stored HI.out ho hb hg); obtain ⟨A17, c17, e17⟩ := Kd.R_slice ho; rw [List.length_append, List.length_singleton] at e17; subst e17; have cs17 := HS17.out.2.1; have fs17 := HS17.out.2.2; clear ho hb hg hat)
    go_end0
    exact ⟨rfl, _, HS17.out.1⟩
theorem gaps_add.kept {w0 w : World} {p m g cap la : Nat} {d : List S25} (h : WI w0 w p m (.slice (some ⟨g, 0, none⟩) d.length cap) d) (hl : la < d.length) (z : Int) (t : ByteArray) :
  (w.setCell ⟨g, la * 3 + 1, none⟩ (.int .i64 z)).cell? ⟨p, 0, none⟩ = some (.slice (some ⟨g, 0, none⟩) d.length cap) ∧ (w.setCell ⟨g, la * 3 + 1, none⟩ (.int .i64 z)).cell? ⟨g, la * 3 + 2, none⟩ = some (.string (rd_T25 d (la : Int)).f2) ∧ (w.setCell ⟨g, la * 3 + 1, none⟩ (.int .i64 z)).frozen? ⟨g, la * 3 + 2, none⟩ = false ∧
   WI w0 ((w.setCell ⟨g, la * 3 + 1, none⟩ (.int .i64 z)).setCell ⟨g, la * 3 + 2, none⟩ (.string t)) p m (.slice (some ⟨g, 0, none⟩) d.length cap) (d.set la ⟨(rd_T25 d (la : Int)).f0, z, t⟩) := by
 obtain ⟨h1, h2, h3, h4, h5, h6, h7⟩ := h
 have hgp : g ≠ p := (h2.1 g rfl).1
 have hgm : g ≠ m := (h2.1 g rfl).2
 have hgb : w0.heap.size ≤ g := Kd.R_base h2 g rfl
 have k1 := spans_f1 z (spans_ok h2 (fun _ _ => trivial)) hl
 have hd1 : (d.set la ⟨(rd_T25 d (la : Int)).f0, z, (rd_T25 d (la : Int)).f2⟩).length = d.length := List.length_set
 have k1' := k1.1
 rw [← hd1] at k1'
 have k2 := spans_f2 t k1' (by rw [hd1]; exact hl)
 have lc := normal_Of.last_cells k1' (List.take_length) (la := la) (by rw [hd1]; exact hl) (by rw [hd1]; exact hl)
 have er := rd_set (ys := d) (la := la) (⟨(rd_T25 d (la : Int)).f0, z, (rd_T25 d (la : Int)).f2⟩ : S25) hl
 rw [er] at lc
 have hp1 : (w.setCell ⟨g, la * 3 + 1, none⟩ (.int .i64 z)).heap[p]? = some (.cells #[.slice (some ⟨g, 0, none⟩) d.length cap] 108 (0, 0)) := by
  rw [Below.heap_setCell _ ⟨g, la * 3 + 1, none⟩ _ p (fun e => hgp e.symm)]; exact h1
 have hp2 : ((w.setCell ⟨g, la * 3 + 1, none⟩ (.int .i64 z)).setCell ⟨g, la * 3 + 2, none⟩ (.string t)).heap[p]? = some (.cells #[.slice (some ⟨g, 0, none⟩) d.length cap] 108 (0, 0)) := by
  rw [Below.heap_setCell _ ⟨g, la * 3 + 2, none⟩ _ p (fun e => hgp e.symm)]; exact hp1
 refine ⟨(blk_cell hp1 0).trans rfl, lc.2.2.1, lc.2.2.2.2.2, hp2, ?_, h3, (h4.setCell (p := ⟨g, la * 3 + 1, none⟩) hgb _).setCell (p := ⟨g, la * 3 + 2, none⟩) hgb _, (h5.kept (grown_setCell' _ _ _) (fun e => hgm (Option.some.inj e).symm)).kept (grown_setCell' _ _ _) (fun e => hgm (Option.some.inj e).symm), h6, by simpa using h7⟩
 have k3 := k2.1
 rw [hd1, er, List.set_set] at k3
 exact spans_ok k3 (fun k e => by injection e with e; rw [← e]; exact ⟨hgp, hgm⟩)
set_option maxHeartbeats 8000000 in
set_option maxRecDepth 100000 in
theorem gaps_add.merge (w0 w : World) (p m : Nat) (v : Value) (d : List S25) (x : S25) (la : Nat) (hI : WI w0 w p m v d) (hl : d.length < 1000000) (he : ((x.f1 == 0) = false) ∨ (x.f2.toList.isEmpty = false)) (hla : d.length = la + 1) (hk : (rd_T25 d (la : Int)).f0 = x.f0) (hs : (rd_T25 d (la : Int)).f2.size + x.f2.size < 140737488355328) :
  Calls Tryd.prog 61 #[.pointer (some ⟨p, 0, none⟩), .int .i64 x.f0, .int .i64 x.f1, .string x.f2] w fun e w' => e = .returned (.tuple #[]) ∧ ∃ v', WI w0 w' p m v' (d.set la ⟨(rd_T25 d (la : Int)).f0, wrap64 ((rd_T25 d (la : Int)).f1 + x.f1), (rd_T25 d (la : Int)).f2 ++ x.f2⟩) := by
 obtain ⟨g, cap, rfl, hg1, hg2, _⟩ := Kd.R_form hI.2.1 (by omega)
 have hc : w.cell? ⟨p, 0, none⟩ = some (.slice (some ⟨g, 0, none⟩) d.length cap) := (blk_cell hI.1 0).trans rfl
 have hw : wrap64 ((d.length : Int) - 1) = (la : Int) := by unfold wrap64; omega
 obtain ⟨y0, y1, y2, f0, f1, f2⟩ := normal_Of.last_cells (spans_ok hI.2.1 (fun _ _ => trivial)) (List.take_length) (la := la) (by omega) (by omega)
 obtain ⟨b0, b1, b2, b3⟩ := gaps_add.kept hI (la := la) (by omega) (wrap64 ((rd_T25 d (la : Int)).f1 + x.f1)) ((rd_T25 d (la : Int)).f2 ++ x.f2)
 have HF := am b3
 have q1 : ((la : Int) < (d.length : Int)) = True := eq_true (by omega)
 have q2 : (la < d.length) = True := eq_true (by omega)
 have hkb : ((rd_T25 d (la : Int)).f0 == x.f0) = true := beq_iff_eq.mpr hk
 have hcb : (9223372036854775807 < (rd_T25 d (la : Int)).f2.size + x.f2.size) = False := eq_false (by omega)
 clear b3 hI hl hla hk hs hg1 hg2
 rcases he with n1 | n1
 ·go_enter Tryd.func61, Tryd.ntmps61
  go_wp2
  go_end0
  exact ⟨rfl, _, HF.out⟩
 ·by_cases n2 : (x.f1 == 0) = true
  ·go_enter Tryd.func61, Tryd.ntmps61
   go_wp2
   go_end0
   exact ⟨rfl, _, HF.out⟩
  ·have n3 : (x.f1 == 0) = false := by simpa using n2
   clear n2
   go_enter Tryd.func61, Tryd.ntmps61
   go_wp2
   go_end0
   exact ⟨rfl, _, HF.out⟩
theorem gaps_add.calls (w0 w : World) (p m : Nat) (v : Value) (d : List S25) (x : S25) (hI : WI w0 w p m v d) (hl : d.length < 1000000) (hs : (rd_T25 d ((d.length : Int) - 1)).f2.size + x.f2.size < 140737488355328) :
  Calls Tryd.prog 61 #[.pointer (some ⟨p, 0, none⟩), .int .i64 x.f0, .int .i64 x.f1, .string x.f2] w fun e w' => e = .returned (.tuple #[]) ∧ ∃ v', WI w0 w' p m v' (gaps_add d x) := by
 unfold gaps_add
 by_cases he : normal_Of.e x = true
 ·rw [if_pos he]
  exact (gaps_add.nothing w0 w p m v d x hI hl he).mono fun e w' h => ⟨h.1, _, h.2⟩
 ·rw [if_neg he]
  have he2 : ((x.f1 == 0) = false) ∨ (x.f2.toList.isEmpty = false) := by
   unfold normal_Of.e at he
   by_cases c : x.f1 = 0
   ·right
    by_cases c2 : x.f2.toList = []
    ·exact absurd (by rw [c, c2]; decide) he
    ·simpa using c2
   ·left; simpa using c
  unfold normal_Of.step
  by_cases h0 : d.length = 0
  ·rw [if_pos h0]
   have hd : d = [] := List.length_eq_zero_iff.mp h0
   subst hd
   exact gaps_add.more w0 w p m v [] x hI hl he2 (.inl rfl)
  ·rw [if_neg h0]
   have e1 : (d.length : Int) - 1 = ((d.length - 1 : Nat) : Int) := by omega
   rw [e1] at hs
   by_cases hk : x.f0 = (rd_T25 d ((d.length - 1 : Nat) : Int)).f0
   ·rw [if_pos hk]
    exact gaps_add.merge w0 w p m v d x (d.length - 1) hI hl he2 (by omega) hk.symm hs
   ·rw [if_neg hk]
    exact gaps_add.more w0 w p m v d x hI hl he2 (.inr (by rw [e1]; exact fun e => hk e.symm))
def gaps_Spans.ok (d : List S25) (x : S25) : Prop := d.length < 999999 ∧ (rd_T25 d ((d.length : Int) - 1)).f2.size + x.f2.size < 140737488355328
instance (d : List S25) (x : S25) : Decidable (gaps_Spans.ok d x) := inferInstanceAs (Decidable (_ ∧ _))
def gaps_Spans.one (d : List S25) (x : S25) : Option (List S25) := if gaps_Spans.ok d x then some (gaps_add d x) else none
def gaps_Spans.l : List S25 → List ByteArray → List Bool → Option (List S25)
 | d, [], _ => some d
 | d, s :: p, [] => if s.size < 9223372036854775807 ∧ validT s = true then (gaps_Spans.one d ⟨2, 0, s⟩).bind fun d1 => gaps_Spans.l d1 p [] else none
 | d, s :: p, b :: bs => if s.size < 9223372036854775807 ∧ validT s = true then (gaps_Spans.one d ⟨2, 0, s⟩).bind fun d1 => (gaps_Spans.one d1 ⟨gaps_kind b, 1, ⟨#[]⟩⟩).bind fun d2 => gaps_Spans.l d2 p bs else none
def gaps_Spans.f (l0_0 : List ByteArray) (l0_1 : List Bool) : Option (List S25 × Int) :=
 if l0_0.length = l0_1.length + 1 ∧ l0_1.length ≤ 512 then (gaps_Spans.l [] l0_0 l0_1).bind fun d => some (d, 0) else none
theorem WI.below {w0 W W1 : World} {p m : Nat} {v : Value} {d : List S25} (h : WI w0 W p m v d) (hb : Below W.heap.size W W1) : WI w0 W1 p m v d :=
 ⟨blk_below h.1 hb, Kd.R_below h.2.1 hb, h.2.2.1, below_then h.2.2.2.1 h.2.2.2.1.size hb, h.2.2.2.2.1.kept (grown_of_below hb none) (by simp), h.2.2.2.2.2.1, by have := hb.size; have := h.2.2.2.2.2.2; omega⟩
theorem WI.start (w : World) (b z : Obj) (hz : z = .cells #[.slice none 0 0] 108 (0, 0)) : ∃ w5 w6, (Instr.mapUpdate 109 (.map (some (w.heap.size + 1 + 1))) (.bool false) (.int .i64 1)).run Tryd.prog (((w.alloc b).alloc z).alloc (.map #[] 0)) = .ok () w5 ∧ (Instr.mapUpdate 109 (.map (some (w.heap.size + 1 + 1))) (.bool true) (.int .i64 3)).run Tryd.prog w5 = .ok () w6 ∧ WI (w.alloc b) w6 (w.heap.size + 1) (w.heap.size + 1 + 1) (.slice none 0 0) [] := by
 have e2 : ((w.alloc b).alloc z).heap.size = w.heap.size + 1 + 1 := by simp
 have e1 : (w.alloc b).heap.size = w.heap.size + 1 := by simp
 have hs0 := MB_made ((w.alloc b).alloc z)
 rw [e2] at hs0
 obtain ⟨w5, hrun5, hs5, hg5⟩ := hs0.put (by unfold maxLen; decide) false (z := 1) (by decide)
 obtain ⟨w6, hrun6, hs6, hg6⟩ := hs5.put (by unfold maxLen; decide) true (z := 3) (by decide)
 have hk : (fun x => if x = true then (3 : Int) else if x = false then 1 else 0) = gaps_kind := by funext x; cases x <;> rfl
 rw [hk] at hs6
 have b0 : (w.alloc b |>.alloc z).heap[w.heap.size + 1]? = some (.cells #[.slice none 0 0] 108 (0, 0)) := by rw [← e1, ← hz]; exact blk_new _ _
 have b1 := blk_alloc b0 (.map #[] 0)
 have b2 := blk_grown b1 hg5 (by simp)
 have b3 := blk_grown b2 hg6 (by simp)
 have c0 := ((Below.refl (w.alloc b).heap.size (w.alloc b)).alloc (Nat.le_refl _) z).alloc (by simp) (.map #[] 0)
 have c1 := c0.grown hg5 (by simp) (fun j hj => by cases hj; simp)
 have c2 := c1.grown hg6 c1.size (fun j hj => by cases hj; simp)
 refine ⟨w5, w6, hrun5, hrun6, b3, Kd.R_nil _ _ _ _ _, by simp, c2, hs6, by omega, ?_⟩
 have h1 := hg5.size
 have h2 := hg6.size
 simp at h1
 omega
theorem gaps_Spans.one_some {d r : List S25} {x : S25} (h : gaps_Spans.one d x = some r) : gaps_Spans.ok d x ∧ r = gaps_add d x := by
 unfold gaps_Spans.one at h
 by_cases c : gaps_Spans.ok d x
 ·rw [if_pos c] at h; exact ⟨c, (Option.some.inj h).symm⟩
 ·rw [if_neg c] at h; cases h
theorem drop_rdOf {α : Type} (z : α) (l : List α) (j : Nat) (h : j < l.length) : l.drop j = rdOf z l (j : Int) :: l.drop (j + 1) := by
 rw [List.drop_eq_getElem_cons h]
 unfold rdOf
 rw [Int.toNat_natCast, List.getD_eq_getElem?_getD, List.getElem?_eq_getElem h]
 rfl
theorem gaps_Spans.next {d dd : List S25} {p : List ByteArray} {bs : List Bool} {j : Nat} (hj : j < p.length) (h : gaps_Spans.l d (p.drop j) (bs.drop j) = some dd) :
  (rdOf ByteArray.empty p (j : Int)).size < 9223372036854775807 ∧ validT (rdOf ByteArray.empty p (j : Int)) = true ∧ gaps_Spans.ok d ⟨2, 0, rdOf ByteArray.empty p (j : Int)⟩ ∧
   (j < bs.length → gaps_Spans.ok (gaps_add d ⟨2, 0, rdOf ByteArray.empty p (j : Int)⟩) ⟨gaps_kind (rdOf false bs (j : Int)), 1, ⟨#[]⟩⟩ ∧ gaps_Spans.l (gaps_add (gaps_add d ⟨2, 0, rdOf ByteArray.empty p (j : Int)⟩) ⟨gaps_kind (rdOf false bs (j : Int)), 1, ⟨#[]⟩⟩) (p.drop (j + 1)) (bs.drop (j + 1)) = some dd) ∧
   (bs.length ≤ j → gaps_Spans.l (gaps_add d ⟨2, 0, rdOf ByteArray.empty p (j : Int)⟩) (p.drop (j + 1)) (bs.drop (j + 1)) = some dd) := by
 rw [drop_rdOf ByteArray.empty p j hj] at h
 by_cases c : j < bs.length
 ·rw [drop_rdOf false bs j c, gaps_Spans.l] at h
  by_cases g : (rdOf ByteArray.empty p (j : Int)).size < 9223372036854775807 ∧ validT (rdOf ByteArray.empty p (j : Int)) = true
  ·rw [if_pos g] at h
   obtain ⟨d1, h1, h⟩ := Option.bind_eq_some_iff.mp h
   obtain ⟨d2, h2, h⟩ := Option.bind_eq_some_iff.mp h
   obtain ⟨o1, rfl⟩ := gaps_Spans.one_some h1
   obtain ⟨o2, rfl⟩ := gaps_Spans.one_some h2
   exact ⟨g.1, g.2, o1, fun _ => ⟨o2, h⟩, fun e => absurd e (by omega)⟩
  ·rw [if_neg g] at h; cases h
 ·rw [List.drop_of_length_le (Nat.le_of_not_lt c), gaps_Spans.l] at h
  by_cases g : (rdOf ByteArray.empty p (j : Int)).size < 9223372036854775807 ∧ validT (rdOf ByteArray.empty p (j : Int)) = true
  ·rw [if_pos g] at h
   obtain ⟨d1, h1, h⟩ := Option.bind_eq_some_iff.mp h
   obtain ⟨o1, rfl⟩ := gaps_Spans.one_some h1
   exact ⟨g.1, g.2, o1, fun e => absurd e c, fun _ => by rw [List.drop_of_length_le (l := bs) (by omega)]; exact h⟩
  ·rw [if_neg g] at h; cases h
theorem WI.cells {w W : World} {bx : Obj} {v : Value} {d : List S25} {a b : Value} (h : WI (w.alloc bx) W (w.heap.size + 1) (w.heap.size + 1 + 1) v d) (hb : (w.alloc bx).heap[w.heap.size]? = some (.cells #[a, b] 53 (0, 0))) :
  W.cell? ⟨w.heap.size, 0, none⟩ = some a ∧ W.cell? ⟨w.heap.size, 1, none⟩ = some b ∧ W.cell? ⟨w.heap.size + 1, 0, none⟩ = some v := by
 have q := blk_below hb h.2.2.2.1
 exact ⟨(blk_cell q 0).trans rfl, (blk_cell q 1).trans rfl, (blk_cell h.1 0).trans rfl⟩
theorem gaps_Spans.put {w0 w : World} {p m : Nat} {v : Value} {d : List S25} {s : ByteArray} (hI : WI w0 w p m v d) (h : gaps_Spans.ok d ⟨2, 0, s⟩) :
  Calls Tryd.prog 61 #[.pointer (some ⟨p, 0, none⟩), .int .i64 2, .int .i64 0, .string s] w fun e w' => e = .returned (.tuple #[]) ∧ ∃ v', WI w0 w' p m v' (gaps_add d ⟨2, 0, s⟩) :=
 gaps_add.calls w0 w p m v d ⟨2, 0, s⟩ hI (Nat.lt_of_lt_of_le h.1 (by decide)) h.2
theorem gaps_Spans.step {w0 w : World} {p m : Nat} {v : Value} {d : List S25} {z : Int} (hI : WI w0 w p m v d) (h : gaps_Spans.ok d ⟨z, 1, ⟨#[]⟩⟩) :
  Calls Tryd.prog 61 #[.pointer (some ⟨p, 0, none⟩), .int .i64 z, .int .i64 1, .string ⟨#[]⟩] w fun e w' => e = .returned (.tuple #[]) ∧ ∃ v', WI w0 w' p m v' (gaps_add d ⟨z, 1, ⟨#[]⟩⟩) :=
 gaps_add.calls w0 w p m v d ⟨z, 1, ⟨#[]⟩⟩ hI (Nat.lt_of_lt_of_le h.1 (by decide)) h.2
theorem gaps_Spans.look {W : World} {m : Nat} (h : MB W m 2 gaps_kind) (x : Bool) : (Instr.lookup 109 (.map (some m)) (.bool x) false).run Tryd.prog W = .ok (.int .i64 (gaps_kind x)) W := h.look x
set_option maxHeartbeats 8000000 in
set_option maxRecDepth 100000 in
theorem gaps_Spans.calls (A0_0 : Option Addr) (c0_0 : Nat) (l0_0 : List ByteArray) (A0_1 : Option Addr) (c0_1 : Nat) (l0_1 : List Bool) (r1 : List S25) (r2 : Int) (w : World) (hr0_0 : Kd.C Kd.string w A0_0 l0_0.length l0_0) (hc0_0 : l0_0.length ≤ c0_0) (hr0_1 : Kd.C Kd.bool w A0_1 l0_1.length l0_1) (hc0_1 : l0_1.length ≤ c0_1) (hT : Tabs w) (h : gaps_Spans.f l0_0 l0_1 = some (r1, r2)) :
  Calls Tryd.prog 22 #[.agg #[.slice A0_0 l0_0.length c0_0, .slice A0_1 l0_1.length c0_1]] w fun e w' => ∃ v0_ : Value, e = .returned (.tuple #[v0_, .int .i64 r2]) ∧ Kd.R k25 25 w' w.heap.size (fun _ => True) v0_ r1 ∧ Below w.heap.size w w' := by
 unfold gaps_Spans.f at h
 have hmm := @run_makeMap Tryd.prog
 by_cases z : l0_0.length = l0_1.length + 1 ∧ l0_1.length ≤ 512
 ·rw [if_pos z] at h
  obtain ⟨z1, z2⟩ := z
  obtain ⟨dd, hd, h⟩ := Option.bind_eq_some_iff.mp h
  have h := Option.some.inj h
  rw [Prod.mk.injEq] at h
  obtain ⟨rfl, rfl⟩ := h
  have b1 : (((l0_0.length : Nat) : Int) != ((l0_1.length + 1 : Nat) : Int)) = false := by rw [z1]; simp
  have b2 : decide ((512 : Int) < (l0_1.length : Int)) = false := decide_eq_false (by omega)
  have ew : wrap64 ((l0_1.length : Int) + 1) = (l0_0.length : Int) := by unfold wrap64; omega
  have HD := am hd; have HR0 := am hr0_0; have HR1 := am hr0_1; have HT := am hT; have HZ1 := am z1; have HZ2 := am z2
  clear hd hr0_0 hr0_1 hT z1 z2 hc0_0 hc0_1
  obtain ⟨bx, hbx⟩ : ∃ o : Obj, o = .cells #[.slice A0_0 l0_0.length c0_0, .slice A0_1 l0_1.length c0_1] 53 (0, 0) := ⟨_, rfl⟩
  obtain ⟨w5, w6, hrun5, hrun6, hwi⟩ := WI.start w bx _ rfl
  have HBX : Aside0 ((w.alloc bx).heap[w.heap.size]? = some (.cells #[.slice A0_0 l0_0.length c0_0, .slice A0_1 l0_1.length c0_1] 53 (0, 0))) := ⟨by rw [← hbx]; exact blk_new _ _⟩
  have HW1 : Aside0 (Below w.heap.size w (w.alloc bx)) := ⟨(Below.refl _ _).alloc (Nat.le_refl _) bx⟩
  have q6 := blk_below HBX.out hwi.2.2.2.1
  have x0 : w6.cell? ⟨w.heap.size, 0, none⟩ = some (.slice A0_0 l0_0.length c0_0) := (blk_cell q6 0).trans rfl
  have x1 : w6.cell? ⟨w.heap.size, 1, none⟩ = some (.slice A0_1 l0_1.length c0_1) := (blk_cell q6 1).trans rfl
  have HWI := am hwi
  clear hwi q6
  have HBE := am hbx
  rw [hbx] at hrun5
  clear hbx
  go_enter Tryd.func22, Tryd.ntmps22
  go_wp2
  go_loopw [6, 7, 27] (fun _ _ v27 wr => ∃ j : Nat, v27 = .int .i64 j ∧ j ≤ l0_0.length ∧ ∃ (v : Value) (d : List S25), Aside0 (WI (w.alloc bx) wr (w.heap.size + 1) (w.heap.size + 1 + 1) v d) ∧ Aside0 (gaps_Spans.l d (l0_0.drop j) (l0_1.drop j) = some dd)) (fun _ _ v27 _ => l0_0.length - (intOf v27).toNat)
  case atStart => exact ⟨0, rfl, Nat.zero_le _, _, [], HWI, HD⟩
  case round =>
   clear HWI HD x0 x1 hrun5 hrun6
   obtain ⟨j, rfl, hj, v, d, HWI, HD⟩ := hrel
   have HBB : Aside0 (Below w.heap.size w wr) := ⟨below_then HW1.out HW1.out.size HWI.out.2.2.2.1⟩
   obtain ⟨x0, x1, x2⟩ := HWI.out.cells HBX.out
   by_cases hlt : j < l0_0.length
   ·have hltb : decide ((j : Int) < (l0_0.length : Int)) = true := decide_eq_true (by omega)
    have HL := am hlt
    obtain ⟨ad, e1, hx0⟩ := Kd.at_string (Kd.C_below HR0.out HBB.out) (j : Int) (by omega) (by omega)
    subst e1
    rw [Int.toNat_natCast] at hx0
    have p1 : ((j : Int) < (l0_0.length : Int)) = True := eq_true (by omega)
    have p2 : (j < l0_0.length) = True := eq_true hlt
    have ew1 : wrap64 ((j : Int) + 1) = ((j + 1 : Nat) : Int) := by have := HZ1.out; have := HZ2.out; unfold wrap64; omega
    obtain ⟨g1, g2, g3, g4, g5⟩ := gaps_Spans.next hlt HD.out
    have HV := points_Valid.calls (rdOf ByteArray.empty l0_0 (j : Int)) true wr (Tabs.below HT.out HBB.out) (by unfold points_Valid.f; rw [if_pos g1, g2])
    have HV := am HV
    have HG3 := am g3; have HG4 := am g4; have HG5 := am g5
    clear hlt hj g1 g2 g3 g4 g5 HD
    generalize rdOf ByteArray.empty l0_0 (j : Int) = s at *
    by_cases hb : j < l0_1.length
    ·have hbb : decide ((j : Int) < (l0_1.length : Int)) = true := decide_eq_true (by omega)
     have p3 : ((j : Int) < (l0_1.length : Int)) = True := eq_true (by omega)
     have p4 : (j < l0_1.length) = True := eq_true hb
     have hbn : decide (j < l0_1.length) = true := decide_eq_true hb
     obtain ⟨HK, HE⟩ := HG4.out hb
     have HK := am HK; have HE := am HE
     obtain ⟨ad1, e1, hx1⟩ := Kd.at_bool HR1.out (j : Int) (by omega) (by omega)
     subst e1
     rw [Int.toNat_natCast] at hx1
     generalize rdOf false l0_1 (j : Int) = b at *
     have HX1 := am hx1
     clear hx1 hb HG5 HG4
     go_wp2_with (first | (go_at_call 41; (with_reducible refine (HV.out).mono ?_); rintro e w1 ⟨rfl, hb⟩; have HWI1 := am (HWI.out.below hb); clear hb) | (have hc := gaps_Spans.put HWI1.out HG3.out; go_at_call 61; (with_reducible refine hc.mono ?_); clear hc; rintro e w2 ⟨rfl, v2, hw2⟩; have HWI2 := am hw2; have hlk := gaps_Spans.look hw2.2.2.2.2.1 b; obtain ⟨y0, y1, y2⟩ := hw2.cells HBX.out; have hx1 := ((below_then HW1.out HW1.out.size hw2.2.2.2.1).cell (World.block_lt_of_cell? w _ HX1.out)).trans HX1.out; clear hw2) | (have hc := gaps_Spans.step HWI2.out HK.out; go_at_call 61; (with_reducible refine hc.mono ?_); clear hc; rintro e w3 ⟨rfl, v3, hw3⟩; have HWI3 := am hw3; clear hw3))
     go_round
     case measure => exact op_sum.less HL.out ew1
     case rel => exact ⟨j + 1, by rw [ew1], HL.out, v3, _, HWI3, HE⟩
    ·have hbb : decide ((j : Int) < (l0_1.length : Int)) = false := decide_eq_false (by omega)
     have hbn : decide (j < l0_1.length) = false := decide_eq_false hb
     have HE := am (HG5.out (by omega))
     clear hb HG5 HG4
     go_wp2_with (first | (go_at_call 41; (with_reducible refine (HV.out).mono ?_); rintro e w1 ⟨rfl, hb⟩; have HWI1 := am (HWI.out.below hb); clear hb) | (have hc := gaps_Spans.put HWI1.out HG3.out; go_at_call 61; (with_reducible refine hc.mono ?_); rintro e w2 ⟨rfl, v2, hw2⟩; have HWI2 := am hw2; obtain ⟨y0, y1, y2⟩ := hw2.cells HBX.out; clear hw2))
     go_round
     case measure => exact op_sum.less HL.out ew1
     case rel => exact ⟨j + 1, by rw [ew1], HL.out, v2, _, HWI2, HE⟩
   ·have hltb : decide ((j : Int) < (l0_0.length : Int)) = false := decide_eq_false (by omega)
    have h := HD.out
    clear HD
    rw [List.drop_of_length_le (by omega), gaps_Spans.l] at h
    obtain rfl := Option.some.inj h
    go_wp2
    go_ret2
    exact ⟨_, rfl, Kd.R_mono (Kd.R_lower HWI.out.2.1 (by simp)) (fun _ _ => trivial), HBB.out⟩
 ·rw [if_neg z] at h; cases h
mutual
def epitometop_TopLeast.j0 : Nat → Bool → ByteArray → List Int → List (List (S25)) → ByteArray → List Int → List (List (S25)) → Option (Bool)
 | 0, _, _, _, _, _, _, _ => none
 | k + 1, x53, x338000, x338001, x338002, x350000, x350001, x350002 => if x53 = true then (some false) else (epitometop_TopLeast.l0 k 0 x338000 x338001 x338002 x350000 x350001 x350002)
def epitometop_TopLeast.l0 : Nat → Int → ByteArray → List Int → List (List (S25)) → ByteArray → List Int → List (List (S25)) → Option (Bool)
 | 0, _, _, _, _, _, _, _ => none
 | k + 1, x11, x338000, x338001, x338002, x350000, x350001, x350002 => if x11 < (x350002.length : Int) then (if 0 ≤ x11 then (if x11 < (x350001.length : Int) then ((seek_Find.f x338001 (rd x350001 x11)).bind fun bt351 => (if 0 ≤ (wrap64 (x11 + 1)) then (if (wrap64 (x11 + 1)) < (x350001.length : Int) then ((seek_Find.f x338001 (rd x350001 (wrap64 (x11 + 1)))).bind fun bt355 => ((op_In.f (rd_L3 x350002 x11)).bind fun t359 => (if t359 > 512 then (epitometop_TopLeast.l0 k (wrap64 (x11 + 1)) x338000 x338001 x338002 x350000 x350001 x350002) else ((gaps_Of.f k (rd_L3 x350002 x11)).bind fun bt361 => ((gaps_Spans.f bt361.1 bt361.2.1).bind fun bt369 => (if bt351.2.2 = 0 then (if bt355.2.2 = 0 then (if bt361.2.2 = 0 then (if bt369.2 = 0 then ((epitomeref04_Same.f k bt369.1 (rd_L3 x350002 x11)).bind fun t374 => (epitometop_TopLeast.j2 k x11 bt351.1 bt355.1 (!t374) x338000 x338001 x338002 x350000 x350001 x350002)) else (epitometop_TopLeast.j2 k x11 bt351.1 bt355.1 true x338000 x338001 x338002 x350000 x350001 x350002)) else (epitometop_TopLeast.j2 k x11 bt351.1 bt355.1 true x338000 x338001 x338002 x350000 x350001 x350002)) else (epitometop_TopLeast.j2 k x11 bt351.1 bt355.1 true x338000 x338001 x338002 x350000 x350001 x350002)) else (epitometop_TopLeast.j2 k x11 bt351.1 bt355.1 true x338000 x338001 x338002 x350000 x350001 x350002))))))) else (none)) else (none))) else (none)) else (none)) else (some true)
def epitometop_TopLeast.j2 : Nat → Int → Int → Int → Bool → ByteArray → List Int → List (List (S25)) → ByteArray → List Int → List (List (S25)) → Option (Bool)
 | 0, _, _, _, _, _, _, _, _, _, _ => none
 | k + 1, x11, x12, x15, x130, x338000, x338001, x338002, x350000, x350001, x350002 => if x130 = true then (some false) else (epitometop_TopLeast.l1 k x11 x15 0 x12 x338000 x338001 x338002 x350000 x350001 x350002)
def epitometop_TopLeast.l1 : Nat → Int → Int → Int → Int → ByteArray → List Int → List (List (S25)) → ByteArray → List Int → List (List (S25)) → Option (Bool)
 | 0, _, _, _, _, _, _, _, _, _, _ => none
 | k + 1, x11, x15, x22, x23, x338000, x338001, x338002, x350000, x350001, x350002 => if x23 < x15 then (if 0 ≤ x23 then (if x23 < (x338002.length : Int) then (epitometop_TopLeast.l1 k x11 x15 (wrap64 (x22 + ((rd_L3 x338002 x23).length : Int))) (wrap64 (x23 + 1)) x338000 x338001 x338002 x350000 x350001 x350002) else (none)) else (none)) else (if 0 ≤ x11 then (if x11 < (x350002.length : Int) then (if ((rd_L3 x350002 x11).length : Int) > x22 then (some false) else (epitometop_TopLeast.l0 k (wrap64 (x11 + 1)) x338000 x338001 x338002 x350000 x350001 x350002)) else (none)) else (none))
end
def epitometop_TopLeast.f (k : Nat) (a0 : ByteArray) (l1 : List (List (S25))) (l2_0 : List Int) (a2_1 : Int) : Option (Bool) := (epitometop_shown.f k).bind fun t329 => ((epitomeref16_Fit.f k a0 l1).bind fun bt330 => ((epitometop_few.f l2_0).bind fun t338 => ((compact_Of.f k bt330.1 bt330.2.1 bt330.2.2 t338 a2_1).bind fun bt341 => (if t329 = true then (if bt341.2.2.2 = 0 then (epitometop_TopLeast.j0 k ((bt341.2.1.length : Int) != (wrap64 ((bt341.2.2.1.length : Int) + 1))) bt330.1 bt330.2.1 bt330.2.2 bt341.1 bt341.2.1 bt341.2.2.1) else (epitometop_TopLeast.j0 k true bt330.1 bt330.2.1 bt330.2.2 bt341.1 bt341.2.1 bt341.2.2.1)) else (epitometop_TopLeast.j0 k true bt330.1 bt330.2.1 bt330.2.2 bt341.1 bt341.2.1 bt341.2.2.1)))))
def epitometop_TopLeast.T3 : Bool × List (List Nat × List Nat) := (true, [([], []), ([], []), ([1], [1]), ([2], [2]), ([], []), ([4], [4]), ([0, 3, 5, 3], [0, 3, 5]), ([6], [6]), ([7], [7]), ([7], [7]), ([], []), ([10, 8, 6, 0, 1, 2, 3, 4, 5, 6, 7, 8, 10], [8, 10]), ([9, 11, 0, 1, 2, 3, 4, 5, 6, 7, 8, 9, 10, 11], [9])])
def epitometop_TopLeast.B3 : List Nat := [0, 0, 2, 6, 0, 16, 63, 127, 255, 255, 0, 1535, 4095]
theorem epitometop_TopLeast.tab3 : rtab .any (opsOf Tryd.f4 3) = epitometop_TopLeast.T3 := by kernel_rfl
theorem epitometop_TopLeast.bits3 : waitsOk epitometop_TopLeast.T3.2 epitometop_TopLeast.B3 = true := by kernel_rfl
def epitometop_TopLeast.T9 : Bool × List (List Nat × List Nat) := (true, [([], []), ([0], [0]), ([], []), ([2], [2]), ([], []), ([3, 4], [3, 4]), ([5], [5]), ([1, 6], [1, 6]), ([7], [7]), ([8], [8]), ([8], [8]), ([8], [8]), ([9, 7, 0, 1, 2, 3, 4, 5, 6, 7, 8, 9], [9]), ([10, 12, 0, 1, 2, 3, 4, 5, 6, 7, 8, 9, 10, 12], [10]), ([11, 13, 0, 1, 2, 3, 4, 5, 6, 7, 8, 9, 10, 11, 12, 13], [11])])
def epitometop_TopLeast.B9 : List Nat := [0, 1, 0, 4, 0, 28, 60, 127, 255, 511, 511, 511, 1023, 6143, 16383]
theorem epitometop_TopLeast.tab9 : rtab .any (opsOf Tryd.f4 9) = epitometop_TopLeast.T9 := by kernel_rfl
theorem epitometop_TopLeast.bits9 : waitsOk epitometop_TopLeast.T9.2 epitometop_TopLeast.B9 = true := by kernel_rfl
def epitometop_TopLeast.T10 : Bool × List (List Nat × List Nat) := (true, [([], []), ([0], [0]), ([], []), ([2], [2]), ([], []), ([4], [4]), ([3, 5], [3, 5]), ([6], [6]), ([1, 7], [1, 7]), ([8], [8]), ([9], [9]), ([9], [9]), ([9], [9]), ([10, 8, 0, 1, 2, 3, 4, 5, 6, 7, 8, 9, 10], [10]), ([11, 13, 0, 1, 2, 3, 4, 5, 6, 7, 8, 9, 10, 11, 13], [11]), ([12, 14, 0, 1, 2, 3, 4, 5, 6, 7, 8, 9, 10, 11, 12, 13, 14], [12])])
def epitometop_TopLeast.B10 : List Nat := [0, 1, 0, 4, 0, 16, 60, 124, 255, 511, 1023, 1023, 1023, 2047, 12287, 32767]
theorem epitometop_TopLeast.tab10 : rtab .any (opsOf Tryd.f4 10) = epitometop_TopLeast.T10 := by kernel_rfl
theorem epitometop_TopLeast.bits10 : waitsOk epitometop_TopLeast.T10.2 epitometop_TopLeast.B10 = true := by kernel_rfl
set_option maxHeartbeats 8000000 in
set_option maxRecDepth 100000 in
theorem epitometop_TopLeast.calls (k : Nat) (a0 : ByteArray) (A1 : Option Addr) (c1 : Nat) (l1 : List (List (S25))) (A2_0 : Option Addr) (c2_0 : Nat) (l2_0 : List Int) (a2_1 : Int) (r : Bool) (w : World) (hr1 : Kd.C (Kd.slice 25 k25) w A1 l1.length l1) (hc1 : l1.length ≤ c1) (hr2_0 : Kd.C (Kd.int .i64) w A2_0 l2_0.length l2_0) (hc2_0 : l2_0.length ≤ c2_0) (hT : Tabs w) (h : epitometop_TopLeast.f k a0 l1 l2_0 a2_1 = some r) (hlaw : r = true) :
  Calls Tryd.prog 4 #[.string a0, .slice A1 l1.length c1, .agg #[.slice A2_0 l2_0.length c2_0, .int .i64 a2_1]] w fun e w' => e = .returned (.bool r) ∧ Below w.heap.size w w' := by
 have HLAW := am hlaw
 clear hlaw
 have HT := am hT
 clear hT
 have hu40 := Tryd.underlying40
 have hu42 := Tryd.underlying42
 have hu53 := Tryd.underlying53
 have HR1 := am hr1
 have HC1 := am hc1
 clear hr1 hc1
 have HR2_0 := am hr2_0
 have HC2_0 := am hc2_0
 clear hr2_0 hc2_0
 have HB := am (Below.refl w.heap.size w)
 have H : ((epitometop_shown.f k).bind fun t329 => ((epitomeref16_Fit.f k a0 l1).bind fun bt330 => ((epitometop_few.f l2_0).bind fun t338 => ((compact_Of.f k bt330.1 bt330.2.1 bt330.2.2 t338 a2_1).bind fun bt341 => (if t329 = true then (if bt341.2.2.2 = 0 then (epitometop_TopLeast.j0 k ((bt341.2.1.length : Int) != (wrap64 ((bt341.2.2.1.length : Int) + 1))) bt330.1 bt330.2.1 bt330.2.2 bt341.1 bt341.2.1 bt341.2.2.1) else (epitometop_TopLeast.j0 k true bt330.1 bt330.2.1 bt330.2.2 bt341.1 bt341.2.1 bt341.2.2.1)) else (epitometop_TopLeast.j0 k true bt330.1 bt330.2.1 bt330.2.2 bt341.1 bt341.2.1 bt341.2.2.1)))))) = some r := h
 clear h
 replace H := Option.bind_eq_some_iff.mp H
 obtain ⟨t329, A40, H⟩ := H
 try dsimp only at H
 have A4 := am A40
 clear A40
 replace H := Option.bind_eq_some_iff.mp H
 obtain ⟨⟨t330, t331, t334⟩, A50, H⟩ := H
 try dsimp only at H
 have A5 := am A50
 clear A50
 replace H := Option.bind_eq_some_iff.mp H
 obtain ⟨t338, A60, H⟩ := H
 try dsimp only at H
 have A6 := am A60
 clear A60
 replace H := Option.bind_eq_some_iff.mp H
 obtain ⟨⟨t341, t342, t345, t348⟩, A70, H⟩ := H
 try dsimp only at H
 have A7 := am A70
 clear A70
 have HTT : Aside0 (t329 = true) := ⟨by
  cases t329 with
  | true => rfl
  | false =>
   exfalso
   rw [if_neg (by decide)] at H
   cases k with
   | zero => simp [epitometop_TopLeast.j0] at H
   | succ k => rw [epitometop_TopLeast.j0, if_pos rfl] at H; exact absurd (Option.some.inj H) (by rw [HLAW.out]; decide)⟩
 have HC8 := am H
 clear H
 go_enter Tryd.func4, Tryd.ntmps4
 try go_wp2_with (first | ((with_reducible refine gate_dst (N := 5) rfl ?_); (try (refine gate_guard (by rfl) ?_; dsimp only)); refine box_event ?hg (N := 5) ?hd (cs := #[.slice A2_0 l2_0.length c2_0, .int .i64 a2_1]) (t := 40) ?hr ?_; (case hd => rfl); (case hg => rfl); (case hr => first | (go_simp; done) | (go_simp; rfl)); intro gb328 hg w9 hbox hb; have n0_ := am (below_step bl hb); have n1_ := am (hbox); have n2_ := am ((gs : w.heap.size ≤ gb328)); have n3_ := am ((gs : w.heap.size ≤ gb328)); clear HB; have HB := n0_; have BK328 := n1_; have GW328 := n2_; have GE328 := n3_; clear n0_ n1_ n2_ n3_; clear hb hbox hg) | ((with_reducible refine gate_callee (f := 8) rfl ?_); refine goesL_ (some 24) rfl rfl Tryd.func8 (by kernel_rfl) rfl #[] rfl ar ?_; (with_reducible refine (epitometop_shown.calls k  t329 _ ?side1 A4.out HTT.out).mono ?_); (case side1 => exact Tabs.below HT.out bl); rintro e w10 ⟨rfl, hb⟩; refine ⟨_, rfl, ?_⟩; have n0_ := am (blk_below (g := gb328) (o := .cells #[.slice A2_0 l2_0.length c2_0, .int .i64 a2_1] 40 (0, 0)) (by refine bk ?_; exact BK328.out) hb); have n1_ := am (below_step bl hb); clear BK328; clear HB; have BK328 := n0_; have HB := n1_; clear n0_ n1_; (try clear hb); (try clear hb2); (try clear hk); (try clear hi)) | ((with_reducible refine gate_callee (f := 16) rfl ?_); refine goesL_ (some 27) rfl rfl Tryd.func16 (by kernel_rfl) rfl #[.string a0, .slice A1 l1.length c1] rfl ar ?_; (with_reducible refine (epitomeref16_Fit.calls k a0 _ _ l1 t330 t331 t334 _ ?side1 ?side2 A5.out).mono ?_); (case side1 => repeat (first | exact (Kd.C_below HR1.out HB.out) | (with_reducible refine Kd.C_alloc ?_ _) | (with_reducible refine Kd.C_drewN ?_ _) | (with_reducible refine Kd.C_drew ?_))); (case side2 => exact HC1.out); rintro e w11 ⟨v332, v335, rfl, ho0, ho1, hb⟩; refine ⟨_, rfl, ?_⟩; have n0_ := am (Kd.R_lower ho0 (below_size bl)); have n1_ := am (Kd.S_lower ho1 (below_size bl)); have n2_ := am (blk_below (g := gb328) (o := .cells #[.slice A2_0 l2_0.length c2_0, .int .i64 a2_1] 40 (0, 0)) (by refine bk ?_; exact BK328.out) hb); have n3_ := am (below_step bl hb); clear BK328; clear HB; have HO333 := n0_; have HO336 := n1_; have BK328 := n2_; have HB := n3_; clear n0_ n1_ n2_ n3_; (try clear hb); (try clear hb2); (try clear hk); (try clear hi); (try clear ho0); (try clear ho1)) | ((with_reducible refine gate_dst (N := 8) rfl ?_); (try (refine gate_guard (by rfl) ?_; dsimp only)); refine box_event ?hg (N := 8) ?hd (cs := #[.string (⟨#[]⟩ : ByteArray), .slice none 0 0, .slice none 0 0]) (t := 42) ?hr ?_; (case hd => rfl); (case hg => rfl); (case hr => first | (go_simp; done) | (go_simp; rfl)); intro gb337 hg w12 hbox hb; have n0_ := am (Kd.R_below (by refine kR ?_; exact HO333.out) hb); have n1_ := am (Kd.S_below (by refine kS ?_; exact HO336.out) hb); have n2_ := am (blk_below (g := gb328) (o := .cells #[.slice A2_0 l2_0.length c2_0, .int .i64 a2_1] 40 (0, 0)) (by refine bk ?_; exact BK328.out) hb); have n3_ := am (below_step bl hb); have n4_ := am (hbox); have n5_ := am ((gs : w.heap.size ≤ gb337)); have n6_ := am ((gs : w.heap.size ≤ gb337)); have n7_ := am ((by rw [hg]; exact Nat.ne_of_lt (blk_lt (g := gb328) (o := .cells #[.slice A2_0 l2_0.length c2_0, .int .i64 a2_1] 40 (0, 0)) (by refine bk ?_; exact BK328.out)) : gb328 ≠ gb337)); have n8_ := am ((by rw [hg]; exact Nat.ne_of_gt (blk_lt (g := gb328) (o := .cells #[.slice A2_0 l2_0.length c2_0, .int .i64 a2_1] 40 (0, 0)) (by refine bk ?_; exact BK328.out)) : gb337 ≠ gb328)); clear HO333; clear HO336; clear BK328; clear HB; have HO333 := n0_; have HO336 := n1_; have BK328 := n2_; have HB := n3_; have BK337 := n4_; have GW337 := n5_; have GE337 := n6_; have NB328_337 := n7_; have NB337_328 := n8_; clear n0_ n1_ n2_ n3_ n4_ n5_ n6_ n7_ n8_; clear hb hbox hg; have hnb13 := NB337_328.out; have hnc13 := NB328_337.out; have hcz14_0 : w12.cell? ⟨gb337, 0, none⟩ = some (.string (⟨#[]⟩ : ByteArray)) := (blk_cell BK337.out 0).trans rfl; have hcz14_1 : w12.cell? ⟨gb337, 1, none⟩ = some (.slice none 0 0) := (blk_cell BK337.out 1).trans rfl; have hcz14_2 : w12.cell? ⟨gb337, 2, none⟩ = some (.slice none 0 0) := (blk_cell BK337.out 2).trans rfl; have hfz14_0 := blk_frozen BK337.out 0; have hfz14_1 := blk_frozen BK337.out 1; have hfz14_2 := blk_frozen BK337.out 2; obtain ⟨Ao15, co15, eo15⟩ := Kd.R_slice HO333.out; subst eo15; obtain ⟨Ao16, co16, eo16⟩ := Kd.S_slice HO336.out; subst eo16))
 have n0_ : Aside0 (Kd.R (Kd.int .i64) 3 (((w12.setCell ⟨gb337, 0, none⟩ (.string t330)).setCell ⟨gb337, 1, none⟩ (.slice Ao15 t331.length co15)).setCell ⟨gb337, 2, none⟩ (.slice Ao16 t334.length co16)) w.heap.size (fun _ => True) (.slice Ao15 t331.length co15) t331) := ⟨by refine kR ?_; exact Kd.R_mono (Kd.R_far (p := ⟨gb337, 2, none⟩) (Kd.R_far (p := ⟨gb337, 1, none⟩) (Kd.R_far (p := ⟨gb337, 0, none⟩) (Kd.R_types HO333.out BK337.out (by decide)) (fun _ hk => hk.2) (.string t330)) (fun _ hk => hk.2) (.slice Ao15 t331.length co15)) (fun _ hk => hk.2) (.slice Ao16 t334.length co16)) (fun _ hk => trivial)⟩
 have n1_ : Aside0 (Kd.S (Kd.slice 25 k25) 27 (((w12.setCell ⟨gb337, 0, none⟩ (.string t330)).setCell ⟨gb337, 1, none⟩ (.slice Ao15 t331.length co15)).setCell ⟨gb337, 2, none⟩ (.slice Ao16 t334.length co16)) w.heap.size (fun _ => True) (.slice Ao16 t334.length co16) t334) := ⟨by refine kS ?_; exact Kd.S_mono (Kd.S_far (p := ⟨gb337, 2, none⟩) (Kd.S_far (p := ⟨gb337, 1, none⟩) (Kd.S_far (p := ⟨gb337, 0, none⟩) (Kd.S_types HO336.out BK337.out (by decide)) (fun _ hk => hk.2) (.string t330)) (fun _ hk => hk.2) (.slice Ao15 t331.length co15)) (fun _ hk => hk.2) (.slice Ao16 t334.length co16)) (fun _ hk => trivial)⟩
 have n2_ : Aside0 ((((w12.setCell ⟨gb337, 0, none⟩ (.string t330)).setCell ⟨gb337, 1, none⟩ (.slice Ao15 t331.length co15)).setCell ⟨gb337, 2, none⟩ (.slice Ao16 t334.length co16)).heap[gb328]? = some (.cells #[.slice A2_0 l2_0.length c2_0, .int .i64 a2_1] 40 (0, 0))) := ⟨by refine bk ?_; refine blk_far ?_ NB328_337.out _; refine bk ?_; refine blk_far ?_ NB328_337.out _; refine bk ?_; refine blk_far ?_ NB328_337.out _; refine bk ?_; exact BK328.out⟩
 have n3_ : Aside0 ((((w12.setCell ⟨gb337, 0, none⟩ (.string t330)).setCell ⟨gb337, 1, none⟩ (.slice Ao15 t331.length co15)).setCell ⟨gb337, 2, none⟩ (.slice Ao16 t334.length co16)).heap[gb337]? = some (.cells #[.string t330, .slice Ao15 t331.length co15, .slice Ao16 t334.length co16] 42 (0, 0))) := ⟨by refine bk ?_; refine blk_put (cs := #[.string t330, .slice Ao15 t331.length co15, .slice none 0 0]) ?_ 2 _ rfl; refine bk ?_; refine blk_put (cs := #[.string t330, .slice none 0 0, .slice none 0 0]) ?_ 1 _ rfl; refine bk ?_; refine blk_put (cs := #[.string (⟨#[]⟩ : ByteArray), .slice none 0 0, .slice none 0 0]) ?_ 0 _ rfl; refine bk ?_; exact BK337.out⟩
 have n4_ : Aside0 (Below w.heap.size w (((w12.setCell ⟨gb337, 0, none⟩ (.string t330)).setCell ⟨gb337, 1, none⟩ (.slice Ao15 t331.length co15)).setCell ⟨gb337, 2, none⟩ (.slice Ao16 t334.length co16))) := ⟨bl⟩
 (try clear HO333)
 (try clear HO336)
 (try clear BK328)
 (try clear BK337)
 (try clear HB)
 generalize (((w12.setCell ⟨gb337, 0, none⟩ (.string t330)).setCell ⟨gb337, 1, none⟩ (.slice Ao15 t331.length co15)).setCell ⟨gb337, 2, none⟩ (.slice Ao16 t334.length co16)) = w17 at n0_ n1_ n2_ n3_ n4_ ⊢
 have HO333 := n0_
 have HO336 := n1_
 have BK328 := n2_
 have BK337 := n3_
 have HB := n4_
 clear n0_ n1_ n2_ n3_ n4_
 have n0_ := am (Kd.R_drew HO333.out)
 have n1_ := am (Kd.S_drew HO336.out)
 have n2_ := am (blk_drew BK328.out)
 have n3_ := am (blk_drew BK337.out)
 have n4_ := am (below_drew1 HB.out)
 clear HO333
 clear HO336
 clear BK328
 clear BK337
 clear HB
 have HO333 := n0_
 have HO336 := n1_
 have BK328 := n2_
 have BK337 := n3_
 have HB := n4_
 clear n0_ n1_ n2_ n3_ n4_
 refine start_ (n := 13) (S := fun w' => w'.cell? ⟨gb337, 0, none⟩ = some (.string t330) ∧ w'.cell? ⟨gb337, 1, none⟩ = some (.slice Ao15 t331.length co15) ∧ w'.cell? ⟨gb337, 2, none⟩ = some (.slice Ao16 t334.length co16) ∧ w'.cell? ⟨gb328, 0, none⟩ = some (.slice A2_0 l2_0.length c2_0) ∧ w'.cell? ⟨gb328, 1, none⟩ = some (.int .i64 a2_1)) (ds := []) #[false, false, false, false, false, false, false, false, false, false, false, false, false] (by kernel_rfl) rfl rfl ⟨(blk_cell BK337.out 0).trans rfl, (blk_cell BK337.out 1).trans rfl, (blk_cell BK337.out 2).trans rfl, (blk_cell BK328.out 0).trans rfl, (blk_cell BK328.out 1).trans rfl⟩ (fun hHeld => ?_); refine with_tabW epitometop_TopLeast.tab3 epitometop_TopLeast.bits3 (fun HT_ HW_ => ?_)
 generalize w17.drew = w18 at HO333 HO336 BK328 BK337 HB hHeld ⊢
 refine pure_ (i := 1) (N := some 30) #[false, true, false, false, false, false, false, false, false, false, false, false, false] rfl rfl (aT HT_.out) (fun _ _ _ h => h) (Or.inl ⟨rfl, rn⟩) ap ?_
 refine pure_ (i := 4) (N := some 33) #[false, true, false, false, true, false, false, false, false, false, false, false, false] rfl rfl (aT HT_.out) (fun _ _ _ h => h) (Or.inl ⟨rfl, rn⟩) ap ?_
 refine take_ (i := 0) (N := some 29) (v := ?_) (a' := ?_) #[true, true, false, false, true, false, false, false, false, false, false, false, false] rfl rfl (take_ofW HT_.out HW_.out (by kernel_rfl)) (fun _ _ _ h => h) (Or.inl ⟨by rfl, ?_⟩) hHeld ?_ ?_
 rotate_left
 ·rintro w' ⟨s0, s1, s2, s3, s4⟩
  go_simp
  with_reducible rfl
 rotate_left
 ·exact ap
 refine take_ (i := 2) (N := some 31) (v := ?_) (a' := ?_) #[true, true, true, false, true, false, false, false, false, false, false, false, false] rfl rfl (take_ofW HT_.out HW_.out (by kernel_rfl)) (fun _ _ _ h => h) (Or.inl ⟨by rfl, ?_⟩) hHeld ?_ ?_
 rotate_left
 ·rintro w' ⟨s0, s1, s2, s3, s4⟩
  go_simp
  with_reducible rfl
 rotate_left
 ·exact ap
 refine take_ (i := 5) (N := some 34) (v := ?_) (a' := ?_) #[true, true, true, false, true, true, false, false, false, false, false, false, false] rfl rfl (take_ofW HT_.out HW_.out (by kernel_rfl)) (fun _ _ _ h => h) (Or.inl ⟨by rfl, ?_⟩) hHeld ?_ ?_
 rotate_left
 ·rintro w' ⟨s0, s1, s2, s3, s4⟩
  go_simp
  with_reducible rfl
 rotate_left
 ·exact ap
 refine join_ (σ := Value × Value × Value × Nat) 2 #[true, true, true, true, true, true, true, true, true, true, true, false, false] (fun s_ => [(32, s_.1), (35, .tuple #[.agg #[.string t341, s_.2.1, s_.2.2.1], .int .i64 t348]), (9, .pointer (some ⟨s_.2.2.2, 0, none⟩)), (28, .tuple #[.agg #[.string t341, s_.2.1, s_.2.2.1], .int .i64 t348]), (36, .agg #[.string t341, s_.2.1, s_.2.2.1]), (37, .int .i64 t348)]) (fun s_ w' => (w'.cell? ⟨gb337, 0, none⟩ = some (.string t330) ∧ w'.cell? ⟨gb337, 1, none⟩ = some (.slice Ao15 t331.length co15) ∧ w'.cell? ⟨gb337, 2, none⟩ = some (.slice Ao16 t334.length co16) ∧ w'.cell? ⟨gb328, 0, none⟩ = some (.slice A2_0 l2_0.length c2_0) ∧ w'.cell? ⟨gb328, 1, none⟩ = some (.int .i64 a2_1)) ∧ (Kd.R (Kd.int .i64) 3 w' w.heap.size (fun k_ => some k_ ≠ (s_.2.1 : Value).ownBlock) (.slice Ao15 t331.length co15) t331) ∧ (Kd.S (Kd.slice 25 k25) 27 w' w.heap.size (fun k_ => some k_ ≠ (s_.2.2.1 : Value).ownBlock) (.slice Ao16 t334.length co16) t334) ∧ (Kd.V (Kd.int .i64) 3 w' w.heap.size (fun k_ => some k_ ≠ (.slice Ao15 t331.length co15 : Value).ownBlock ∧ some k_ ≠ (.slice Ao16 t334.length co16 : Value).ownBlock ∧ some k_ ≠ (s_.2.1 : Value).ownBlock ∧ some k_ ≠ (s_.2.2.1 : Value).ownBlock ∧ k_ ≠ gb328 ∧ k_ ≠ gb337 ∧ k_ ≠ s_.2.2.2) s_.1 t338) ∧ (Kd.R (Kd.int .i64) 3 w' w.heap.size (fun k_ => some k_ ≠ (.slice Ao15 t331.length co15 : Value).ownBlock) s_.2.1 t342) ∧ (Kd.S (Kd.slice 25 k25) 27 w' w.heap.size (fun k_ => some k_ ≠ (.slice Ao16 t334.length co16 : Value).ownBlock) s_.2.2.1 t345) ∧ (w'.heap[gb328]? = some (.cells #[.slice A2_0 l2_0.length c2_0, .int .i64 a2_1] 40 (0, 0))) ∧ (w'.heap[gb337]? = some (.cells #[.string t330, .slice Ao15 t331.length co15, .slice Ao16 t334.length co16] 42 (0, 0))) ∧ (w'.heap[s_.2.2.2]? = some (.cells #[.string (⟨#[]⟩ : ByteArray), .slice none 0 0, .slice none 0 0] 42 (0, 0))) ∧ (w.heap.size ≤ s_.2.2.2) ∧ (w.heap.size ≤ s_.2.2.2) ∧ (gb328 ≠ s_.2.2.2) ∧ (s_.2.2.2 ≠ gb328) ∧ (gb337 ≠ s_.2.2.2) ∧ (s_.2.2.2 ≠ gb337) ∧ (Below w.heap.size w w')) ?_ ?_
 rotate_left
 ·intro hCont
  refine two_ (i := 3) (j := 10) (Ni := some 32) (Nj := some 9) #[true, true, true, true, true, true, false, false, false, false, false, false, false] #[true, true, true, false, true, true, false, false, false, false, true, false, false] rfl rfl rfl rfl (two_of HT_.out (by kernel_rfl)) (by decide) (by decide) (fun K hK => ?_) (fun K hK => ?_)
  ·skip
   refine goes_ Tryd.func18 (by kernel_rfl) rfl #[.slice A2_0 l2_0.length c2_0] (by rfl) rfl rfl ar ?_
   with_reducible refine (epitometop_few.calls (fun k_ => k_ < w.heap.size) _ _ l2_0 t338 _ ?side1 A6.out).mono ?_
   (case side1 => exact Kd.V_mk HC2_0.out (Kd.F_below (Kd.C_F (Kd.heap_int .i64) HR2_0.out) bl))
   rintro e w19 ⟨v339, rfl, ho0, hb⟩
   refine ⟨_, rfl, ?_⟩
   have n0_ := am (Kd.R_below (by refine kR ?_; exact HO333.out) hb)
   have n1_ := am (Kd.S_below (by refine kS ?_; exact HO336.out) hb)
   have n2_ := am (Kd.V_lower (Kd.V_mono (ok' := fun k_ => some k_ ≠ (.slice Ao15 t331.length co15 : Value).ownBlock ∧ some k_ ≠ (.slice Ao16 t334.length co16 : Value).ownBlock ∧ k_ ≠ gb328 ∧ k_ ≠ gb337) ho0 (fun k_ hk_ => ⟨Or.elim hk_ (fun hs_ => fun e_ => Nat.not_le.2 hs_ (Kd.R_base HO333.out k_ e_.symm)) (fun hn_ => (Kd.fresh' (Kd.R_lt (by refine kR ?_; exact HO333.out)) k_ hn_)), Or.elim hk_ (fun hs_ => fun e_ => Nat.not_le.2 hs_ (Kd.S_base HO336.out k_ e_.symm)) (fun hn_ => (Kd.fresh' (Kd.S_lt (by refine kS ?_; exact HO336.out)) k_ hn_)), Or.elim hk_ (fun hs_ => fun e_ => Nat.not_le.2 hs_ (by rw [e_]; exact GW328.out)) (fun hn_ => (Kd.freshB (g := gb328) (o := .cells #[.slice A2_0 l2_0.length c2_0, .int .i64 a2_1] 40 (0, 0)) (by refine bk ?_; exact BK328.out) k_ hn_)), Or.elim hk_ (fun hs_ => fun e_ => Nat.not_le.2 hs_ (by rw [e_]; exact GW337.out)) (fun hn_ => (Kd.freshB (g := gb337) (o := .cells #[.string t330, .slice Ao15 t331.length co15, .slice Ao16 t334.length co16] 42 (0, 0)) (by refine bk ?_; exact BK337.out) k_ hn_))⟩)) (below_size bl))
   have n3_ := am (blk_below (g := gb328) (o := .cells #[.slice A2_0 l2_0.length c2_0, .int .i64 a2_1] 40 (0, 0)) (by refine bk ?_; exact BK328.out) hb)
   have n4_ := am (blk_below (g := gb337) (o := .cells #[.string t330, .slice Ao15 t331.length co15, .slice Ao16 t334.length co16] 42 (0, 0)) (by refine bk ?_; exact BK337.out) hb)
   have n5_ := am (below_step bl hb)
   clear HO333
   clear HO336
   clear BK328
   clear BK337
   clear HB
   have HO333 := n0_
   have HO336 := n1_
   have HO340 := n2_
   have BK328 := n3_
   have BK337 := n4_
   have HB := n5_
   clear n0_ n1_ n2_ n3_ n4_ n5_
   (try clear hb)
   (try clear hb2)
   (try clear hk)
   (try clear hi)
   (try clear ho0)
   obtain ⟨Ao20, co20, eo20⟩ := Kd.V_slice HO340.out
   (first | subst eo20 | (injection eo20 with f1_ f2_ f3_; have f4_ := f1_.symm; have f5_ := f3_.symm; clear f1_ f2_ f3_; subst f4_; subst f5_))
   refine hK.out _ _ ⟨(blk_cell BK337.out 0).trans rfl, (blk_cell BK337.out 1).trans rfl, (blk_cell BK337.out 2).trans rfl, (blk_cell BK328.out 0).trans rfl, (blk_cell BK328.out 1).trans rfl⟩ (fun hHeld => ?_)
   clear hK K
   refine norm_ (a' := ?_) ?_ ?_
   rotate_left
   ·show Act.put _ (some 32) _ = _
    simp only [Act.put, List.setIfInBounds_toArray, List.set_cons_zero, List.set_cons_succ, i64_w, i32_w]
    rfl
   refine two_ (i := 6) (j := 10) (Ni := some 35) (Nj := some 9) #[true, true, true, true, true, true, true, false, false, false, false, false, false] #[true, true, true, true, true, true, false, false, false, false, true, false, false] rfl rfl rfl rfl (two_of HT_.out (by kernel_rfl)) (by decide) (by decide) (fun K hK => ?_) (fun K hK => ?_)
   ·skip
    refine goes_ Tryd.func17 (by kernel_rfl) rfl #[.agg #[.string t330, .slice Ao15 t331.length co15, .slice Ao16 t334.length co16], .slice Ao20 t338.length co20, .int .i64 a2_1] (by rfl) rfl rfl ar ?_
    with_reducible refine (compact_Of.calls k t330 _ _ t331 _ _ t334 _ _ t338 a2_1 t341 t342 t345 t348 _ ?side1 ?side2 ?side3 ?side4 ?side5 ?side6 ?side7 A7.out).mono ?_
    (case side1 => repeat (first | exact (Kd.R_reads' HO333.out).2.2 | (with_reducible refine Kd.C_alloc ?_ _) | (with_reducible refine Kd.C_drewN ?_ _) | (with_reducible refine Kd.C_drew ?_)))
    (case side2 => exact (Kd.R_reads' HO333.out).2.1)
    (case side3 => repeat (first | exact (Kd.S_reads' HO336.out).2.2 | (with_reducible refine Kd.C_alloc ?_ _) | (with_reducible refine Kd.C_drewN ?_ _) | (with_reducible refine Kd.C_drew ?_)))
    (case side4 => exact (Kd.S_reads' HO336.out).2.1)
    (case side5 => repeat (first | exact (Kd.V_reads' HO340.out).2.2 | (with_reducible refine Kd.C_alloc ?_ _) | (with_reducible refine Kd.C_drewN ?_ _) | (with_reducible refine Kd.C_drew ?_)))
    (case side6 => exact (Kd.V_reads' HO340.out).2.1)
    (case side7 => exact Tabs.below HT.out bl)
    rintro e w21 ⟨v343, v346, rfl, ho0, ho1, hb⟩
    refine ⟨_, rfl, ?_⟩
    have n0_ := am (Kd.R_elder' (by refine kR ?_; exact HO333.out) (Kd.R_base ho0) hb)
    have n1_ := am (Kd.S_elder' (by refine kS ?_; exact HO336.out) (Kd.S_base ho1) hb)
    have n2_ := am (Kd.V_mono (Kd.V_told (Kd.V_told (Kd.V_old (by (with_reducible repeat (first | apply Kd.V_alloc | apply Kd.V_drewN | apply Kd.V_drew)); exact HO340.out) hb) (Kd.R_base ho0)) (Kd.S_base ho1)) (fun _ h_ => h_.1))
    have n3_ := am (Kd.R_lower (Kd.R_new' ho0 (Kd.R_lt (by refine kR ?_; exact HO333.out))) (below_size bl))
    have n4_ := am (Kd.S_lower (Kd.S_new' ho1 (Kd.S_lt (by refine kS ?_; exact HO336.out))) (below_size bl))
    have n5_ := am (blk_below (g := gb328) (o := .cells #[.slice A2_0 l2_0.length c2_0, .int .i64 a2_1] 40 (0, 0)) (by refine bk ?_; exact BK328.out) hb)
    have n6_ := am (blk_below (g := gb337) (o := .cells #[.string t330, .slice Ao15 t331.length co15, .slice Ao16 t334.length co16] 42 (0, 0)) (by refine bk ?_; exact BK337.out) hb)
    have n7_ := am (below_step bl hb)
    clear HO333
    clear HO336
    clear HO340
    clear BK328
    clear BK337
    clear HB
    have HO333 := n0_
    have HO336 := n1_
    have HO340 := n2_
    have HO344 := n3_
    have HO347 := n4_
    have BK328 := n5_
    have BK337 := n6_
    have HB := n7_
    clear n0_ n1_ n2_ n3_ n4_ n5_ n6_ n7_
    (try clear hb)
    (try clear hb2)
    (try clear hk)
    (try clear hi)
    (try clear ho0)
    (try clear ho1)
    refine hK.out _ _ ⟨(blk_cell BK337.out 0).trans rfl, (blk_cell BK337.out 1).trans rfl, (blk_cell BK337.out 2).trans rfl, (blk_cell BK328.out 0).trans rfl, (blk_cell BK328.out 1).trans rfl⟩ (fun hHeld => ?_)
    clear hK K
    refine norm_ (a' := ?_) ?_ ?_
    rotate_left
    ·show Act.put _ (some 35) _ = _
     simp only [Act.put, List.setIfInBounds_toArray, List.set_cons_zero, List.set_cons_succ, i64_w, i32_w]
     rfl
    refine pure_ (i := 7) (N := some 28) #[true, true, true, true, true, true, true, true, false, false, false, false, false] rfl rfl (aT HT_.out) (fun _ _ _ h => h) (Or.inl ⟨rfl, rn⟩) ap ?_
    refine pure_ (i := 8) (N := some 36) #[true, true, true, true, true, true, true, true, true, false, false, false, false] rfl rfl (aT HT_.out) (fun _ _ _ h => h) (Or.inl ⟨rfl, rn⟩) ap ?_
    refine pure_ (i := 9) (N := some 37) #[true, true, true, true, true, true, true, true, true, true, false, false, false] rfl rfl (aT HT_.out) (fun _ _ _ h => h) (Or.inl ⟨rfl, rn⟩) ap ?_
    refine one_ (i := 10) (N := some 9) #[true, true, true, true, true, true, true, true, true, true, true, false, false] rfl rfl (one_of HT_.out (by kernel_rfl)) (by decide) (fun K hK => ?_)
    refine box_step ?hg (N := 9) ?hd (cs := #[.string (⟨#[]⟩ : ByteArray), .slice none 0 0, .slice none 0 0]) (t := 42) ?hr ?_; (case hd => rfl); (case hg => rfl); (case hr => first | (go_simp; done) | (go_simp; rfl))
    intro gb349 hg w22 hbox hb
    have n0_ := am (Kd.R_below (by refine kR ?_; exact HO333.out) hb)
    have n1_ := am (Kd.S_below (by refine kS ?_; exact HO336.out) hb)
    have n2_ := am (Kd.V_below (Kd.V_elderB (by (with_reducible repeat (first | apply Kd.V_alloc | apply Kd.V_drewN | apply Kd.V_drew)); exact HO340.out) gb349 (Nat.le_of_eq hg.symm)) hb)
    have n3_ := am (Kd.R_below (by refine kR ?_; exact HO344.out) hb)
    have n4_ := am (Kd.S_below (by refine kS ?_; exact HO347.out) hb)
    have n5_ := am (blk_below (g := gb328) (o := .cells #[.slice A2_0 l2_0.length c2_0, .int .i64 a2_1] 40 (0, 0)) (by refine bk ?_; exact BK328.out) hb)
    have n6_ := am (blk_below (g := gb337) (o := .cells #[.string t330, .slice Ao15 t331.length co15, .slice Ao16 t334.length co16] 42 (0, 0)) (by refine bk ?_; exact BK337.out) hb)
    have n7_ := am (below_step bl hb)
    have n8_ := am (hbox)
    have n9_ := am ((gs : w.heap.size ≤ gb349))
    have n10_ := am ((gs : w.heap.size ≤ gb349))
    have n11_ := am ((by rw [hg]; exact Nat.ne_of_lt (blk_lt (g := gb328) (o := .cells #[.slice A2_0 l2_0.length c2_0, .int .i64 a2_1] 40 (0, 0)) (by refine bk ?_; exact BK328.out)) : gb328 ≠ gb349))
    have n12_ := am ((by rw [hg]; exact Nat.ne_of_gt (blk_lt (g := gb328) (o := .cells #[.slice A2_0 l2_0.length c2_0, .int .i64 a2_1] 40 (0, 0)) (by refine bk ?_; exact BK328.out)) : gb349 ≠ gb328))
    have n13_ := am ((by rw [hg]; exact Nat.ne_of_lt (blk_lt (g := gb337) (o := .cells #[.string t330, .slice Ao15 t331.length co15, .slice Ao16 t334.length co16] 42 (0, 0)) (by refine bk ?_; exact BK337.out)) : gb337 ≠ gb349))
    have n14_ := am ((by rw [hg]; exact Nat.ne_of_gt (blk_lt (g := gb337) (o := .cells #[.string t330, .slice Ao15 t331.length co15, .slice Ao16 t334.length co16] 42 (0, 0)) (by refine bk ?_; exact BK337.out)) : gb349 ≠ gb337))
    clear HO333
    clear HO336
    clear HO340
    clear HO344
    clear HO347
    clear BK328
    clear BK337
    clear HB
    have HO333 := n0_
    have HO336 := n1_
    have HO340 := n2_
    have HO344 := n3_
    have HO347 := n4_
    have BK328 := n5_
    have BK337 := n6_
    have HB := n7_
    have BK349 := n8_
    have GW349 := n9_
    have GE349 := n10_
    have NB328_349 := n11_
    have NB349_328 := n12_
    have NB337_349 := n13_
    have NB349_337 := n14_
    clear n0_ n1_ n2_ n3_ n4_ n5_ n6_ n7_ n8_ n9_ n10_ n11_ n12_ n13_ n14_
    clear hb hbox hg
    refine hK.out _ _ ⟨(blk_cell BK337.out 0).trans rfl, (blk_cell BK337.out 1).trans rfl, (blk_cell BK337.out 2).trans rfl, (blk_cell BK328.out 0).trans rfl, (blk_cell BK328.out 1).trans rfl⟩ (fun hHeld => ?_)
    clear hK K
    refine norm_ (a' := ?_) ?_ ?_
    rotate_left
    ·show Act.put _ (some 9) _ = _
     simp only [Act.put, List.setIfInBounds_toArray, List.set_cons_zero, List.set_cons_succ, i64_w, i32_w]
     rfl
    exact norm_ (by simp only [putAll, Act.put, List.setIfInBounds_toArray, List.set_cons_zero, List.set_cons_succ]) (hCont (.slice Ao20 t338.length co20, v343, v346, gb349) _ ⟨hHeld, (by refine kR ?_; exact Kd.R_mono HO333.out (fun _ hk => hk.2)), (by refine kS ?_; exact Kd.S_mono HO336.out (fun _ hk => hk.2)), (by (with_reducible repeat (first | apply Kd.V_alloc | apply Kd.V_drewN | apply Kd.V_drew)); exact Kd.V_mono HO340.out (fun _ hk => ⟨hk.1.1.1.1, ⟨hk.1.1.1.2.1, ⟨hk.1.1.2, ⟨hk.1.2, ⟨hk.1.1.1.2.2.1, ⟨hk.1.1.1.2.2.2, hk.2⟩⟩⟩⟩⟩⟩)), (by refine kR ?_; exact Kd.R_mono HO344.out (fun _ hk => hk.2)), (by refine kS ?_; exact Kd.S_mono HO347.out (fun _ hk => hk.2)), (by refine bk ?_; exact BK328.out), (by refine bk ?_; exact BK337.out), (by refine bk ?_; exact BK349.out), GW349.out, GE349.out, NB328_349.out, NB349_328.out, NB337_349.out, NB349_337.out, bl⟩)
   ·skip
    refine box_step ?hg (N := 9) ?hd (cs := #[.string (⟨#[]⟩ : ByteArray), .slice none 0 0, .slice none 0 0]) (t := 42) ?hr ?_; (case hd => rfl); (case hg => rfl); (case hr => first | (go_simp; done) | (go_simp; rfl))
    intro gb349 hg w20 hbox hb
    have n0_ := am (Kd.R_below (by refine kR ?_; exact HO333.out) hb)
    have n1_ := am (Kd.S_below (by refine kS ?_; exact HO336.out) hb)
    have n2_ := am (Kd.V_below (Kd.V_elderB (by (with_reducible repeat (first | apply Kd.V_alloc | apply Kd.V_drewN | apply Kd.V_drew)); exact HO340.out) gb349 (Nat.le_of_eq hg.symm)) hb)
    have n3_ := am (blk_below (g := gb328) (o := .cells #[.slice A2_0 l2_0.length c2_0, .int .i64 a2_1] 40 (0, 0)) (by refine bk ?_; exact BK328.out) hb)
    have n4_ := am (blk_below (g := gb337) (o := .cells #[.string t330, .slice Ao15 t331.length co15, .slice Ao16 t334.length co16] 42 (0, 0)) (by refine bk ?_; exact BK337.out) hb)
    have n5_ := am (below_step bl hb)
    have n6_ := am (hbox)
    have n7_ := am ((gs : w.heap.size ≤ gb349))
    have n8_ := am ((gs : w.heap.size ≤ gb349))
    have n9_ := am ((by rw [hg]; exact Nat.ne_of_lt (blk_lt (g := gb328) (o := .cells #[.slice A2_0 l2_0.length c2_0, .int .i64 a2_1] 40 (0, 0)) (by refine bk ?_; exact BK328.out)) : gb328 ≠ gb349))
    have n10_ := am ((by rw [hg]; exact Nat.ne_of_gt (blk_lt (g := gb328) (o := .cells #[.slice A2_0 l2_0.length c2_0, .int .i64 a2_1] 40 (0, 0)) (by refine bk ?_; exact BK328.out)) : gb349 ≠ gb328))
    have n11_ := am ((by rw [hg]; exact Nat.ne_of_lt (blk_lt (g := gb337) (o := .cells #[.string t330, .slice Ao15 t331.length co15, .slice Ao16 t334.length co16] 42 (0, 0)) (by refine bk ?_; exact BK337.out)) : gb337 ≠ gb349))
    have n12_ := am ((by rw [hg]; exact Nat.ne_of_gt (blk_lt (g := gb337) (o := .cells #[.string t330, .slice Ao15 t331.length co15, .slice Ao16 t334.length co16] 42 (0, 0)) (by refine bk ?_; exact BK337.out)) : gb349 ≠ gb337))
    clear HO333
    clear HO336
    clear HO340
    clear BK328
    clear BK337
    clear HB
    have HO333 := n0_
    have HO336 := n1_
    have HO340 := n2_
    have BK328 := n3_
    have BK337 := n4_
    have HB := n5_
    have BK349 := n6_
    have GW349 := n7_
    have GE349 := n8_
    have NB328_349 := n9_
    have NB349_328 := n10_
    have NB337_349 := n11_
    have NB349_337 := n12_
    clear n0_ n1_ n2_ n3_ n4_ n5_ n6_ n7_ n8_ n9_ n10_ n11_ n12_
    clear hb hbox hg
    obtain ⟨Ao21, co21, eo21⟩ := Kd.V_slice HO340.out
    (first | subst eo21 | (injection eo21 with f1_ f2_ f3_; have f4_ := f1_.symm; have f5_ := f3_.symm; clear f1_ f2_ f3_; subst f4_; subst f5_))
    refine hK.out _ _ ⟨(blk_cell BK337.out 0).trans rfl, (blk_cell BK337.out 1).trans rfl, (blk_cell BK337.out 2).trans rfl, (blk_cell BK328.out 0).trans rfl, (blk_cell BK328.out 1).trans rfl⟩ (fun hHeld => ?_)
    clear hK K
    refine norm_ (a' := ?_) ?_ ?_
    rotate_left
    ·show Act.put _ (some 9) _ = _
     simp only [Act.put, List.setIfInBounds_toArray, List.set_cons_zero, List.set_cons_succ, i64_w, i32_w]
     rfl
    refine one_ (i := 6) (N := some 35) #[true, true, true, true, true, true, true, false, false, false, true, false, false] rfl rfl (one_of HT_.out (by kernel_rfl)) (by decide) (fun K hK => ?_)
    refine goes_ Tryd.func17 (by kernel_rfl) rfl #[.agg #[.string t330, .slice Ao15 t331.length co15, .slice Ao16 t334.length co16], .slice Ao21 t338.length co21, .int .i64 a2_1] (by rfl) rfl rfl ar ?_
    with_reducible refine (compact_Of.calls k t330 _ _ t331 _ _ t334 _ _ t338 a2_1 t341 t342 t345 t348 _ ?side1 ?side2 ?side3 ?side4 ?side5 ?side6 ?side7 A7.out).mono ?_
    (case side1 => repeat (first | exact (Kd.R_reads' HO333.out).2.2 | (with_reducible refine Kd.C_alloc ?_ _) | (with_reducible refine Kd.C_drewN ?_ _) | (with_reducible refine Kd.C_drew ?_)))
    (case side2 => exact (Kd.R_reads' HO333.out).2.1)
    (case side3 => repeat (first | exact (Kd.S_reads' HO336.out).2.2 | (with_reducible refine Kd.C_alloc ?_ _) | (with_reducible refine Kd.C_drewN ?_ _) | (with_reducible refine Kd.C_drew ?_)))
    (case side4 => exact (Kd.S_reads' HO336.out).2.1)
    (case side5 => repeat (first | exact (Kd.V_reads' HO340.out).2.2 | (with_reducible refine Kd.C_alloc ?_ _) | (with_reducible refine Kd.C_drewN ?_ _) | (with_reducible refine Kd.C_drew ?_)))
    (case side6 => exact (Kd.V_reads' HO340.out).2.1)
    (case side7 => exact Tabs.below HT.out bl)
    rintro e w22 ⟨v343, v346, rfl, ho0, ho1, hb⟩
    refine ⟨_, rfl, ?_⟩
    have n0_ := am (Kd.R_elder' (by refine kR ?_; exact HO333.out) (Kd.R_base ho0) hb)
    have n1_ := am (Kd.S_elder' (by refine kS ?_; exact HO336.out) (Kd.S_base ho1) hb)
    have n2_ := am (Kd.V_mono (Kd.V_told (Kd.V_told (Kd.V_old (by (with_reducible repeat (first | apply Kd.V_alloc | apply Kd.V_drewN | apply Kd.V_drew)); exact HO340.out) hb) (Kd.R_base ho0)) (Kd.S_base ho1)) (fun _ h_ => h_.1))
    have n3_ := am (Kd.R_lower (Kd.R_new' ho0 (Kd.R_lt (by refine kR ?_; exact HO333.out))) (below_size bl))
    have n4_ := am (Kd.S_lower (Kd.S_new' ho1 (Kd.S_lt (by refine kS ?_; exact HO336.out))) (below_size bl))
    have n5_ := am (blk_below (g := gb328) (o := .cells #[.slice A2_0 l2_0.length c2_0, .int .i64 a2_1] 40 (0, 0)) (by refine bk ?_; exact BK328.out) hb)
    have n6_ := am (blk_below (g := gb337) (o := .cells #[.string t330, .slice Ao15 t331.length co15, .slice Ao16 t334.length co16] 42 (0, 0)) (by refine bk ?_; exact BK337.out) hb)
    have n7_ := am (blk_below (g := gb349) (o := .cells #[.string (⟨#[]⟩ : ByteArray), .slice none 0 0, .slice none 0 0] 42 (0, 0)) (by refine bk ?_; exact BK349.out) hb)
    have n8_ := am (below_step bl hb)
    clear HO333
    clear HO336
    clear HO340
    clear BK328
    clear BK337
    clear BK349
    clear HB
    have HO333 := n0_
    have HO336 := n1_
    have HO340 := n2_
    have HO344 := n3_
    have HO347 := n4_
    have BK328 := n5_
    have BK337 := n6_
    have BK349 := n7_
    have HB := n8_
    clear n0_ n1_ n2_ n3_ n4_ n5_ n6_ n7_ n8_
    (try clear hb)
    (try clear hb2)
    (try clear hk)
    (try clear hi)
    (try clear ho0)
    (try clear ho1)
    refine hK.out _ _ ⟨(blk_cell BK337.out 0).trans rfl, (blk_cell BK337.out 1).trans rfl, (blk_cell BK337.out 2).trans rfl, (blk_cell BK328.out 0).trans rfl, (blk_cell BK328.out 1).trans rfl⟩ (fun hHeld => ?_)
    clear hK K
    refine norm_ (a' := ?_) ?_ ?_
    rotate_left
    ·show Act.put _ (some 35) _ = _
     simp only [Act.put, List.setIfInBounds_toArray, List.set_cons_zero, List.set_cons_succ, i64_w, i32_w]
     rfl
    refine pure_ (i := 7) (N := some 28) #[true, true, true, true, true, true, true, true, false, false, true, false, false] rfl rfl (aT HT_.out) (fun _ _ _ h => h) (Or.inl ⟨rfl, rn⟩) ap ?_
    refine pure_ (i := 8) (N := some 36) #[true, true, true, true, true, true, true, true, true, false, true, false, false] rfl rfl (aT HT_.out) (fun _ _ _ h => h) (Or.inl ⟨rfl, rn⟩) ap ?_
    refine pure_ (i := 9) (N := some 37) #[true, true, true, true, true, true, true, true, true, true, true, false, false] rfl rfl (aT HT_.out) (fun _ _ _ h => h) (Or.inl ⟨rfl, rn⟩) ap ?_
    exact norm_ (by simp only [putAll, Act.put, List.setIfInBounds_toArray, List.set_cons_zero, List.set_cons_succ]) (hCont (.slice Ao21 t338.length co21, v343, v346, gb349) _ ⟨hHeld, (by refine kR ?_; exact Kd.R_mono HO333.out (fun _ hk => hk.2)), (by refine kS ?_; exact Kd.S_mono HO336.out (fun _ hk => hk.2)), (by (with_reducible repeat (first | apply Kd.V_alloc | apply Kd.V_drewN | apply Kd.V_drew)); exact Kd.V_mono HO340.out (fun _ hk => ⟨hk.1.1.1.1, ⟨hk.1.1.1.2.1, ⟨hk.1.2, ⟨hk.2, ⟨hk.1.1.1.2.2.1, ⟨hk.1.1.1.2.2.2, hk.1.1.2⟩⟩⟩⟩⟩⟩)), (by refine kR ?_; exact Kd.R_mono HO344.out (fun _ hk => hk.2)), (by refine kS ?_; exact Kd.S_mono HO347.out (fun _ hk => hk.2)), (by refine bk ?_; exact BK328.out), (by refine bk ?_; exact BK337.out), (by refine bk ?_; exact BK349.out), GW349.out, GE349.out, NB328_349.out, NB349_328.out, NB337_349.out, NB349_337.out, bl⟩)
  ·skip
   refine box_step ?hg (N := 9) ?hd (cs := #[.string (⟨#[]⟩ : ByteArray), .slice none 0 0, .slice none 0 0]) (t := 42) ?hr ?_; (case hd => rfl); (case hg => rfl); (case hr => first | (go_simp; done) | (go_simp; rfl))
   intro gb349 hg w19 hbox hb
   have n0_ := am (Kd.R_below (by refine kR ?_; exact HO333.out) hb)
   have n1_ := am (Kd.S_below (by refine kS ?_; exact HO336.out) hb)
   have n2_ := am (blk_below (g := gb328) (o := .cells #[.slice A2_0 l2_0.length c2_0, .int .i64 a2_1] 40 (0, 0)) (by refine bk ?_; exact BK328.out) hb)
   have n3_ := am (blk_below (g := gb337) (o := .cells #[.string t330, .slice Ao15 t331.length co15, .slice Ao16 t334.length co16] 42 (0, 0)) (by refine bk ?_; exact BK337.out) hb)
   have n4_ := am (below_step bl hb)
   have n5_ := am (hbox)
   have n6_ := am ((gs : w.heap.size ≤ gb349))
   have n7_ := am ((gs : w.heap.size ≤ gb349))
   have n8_ := am ((by rw [hg]; exact Nat.ne_of_lt (blk_lt (g := gb328) (o := .cells #[.slice A2_0 l2_0.length c2_0, .int .i64 a2_1] 40 (0, 0)) (by refine bk ?_; exact BK328.out)) : gb328 ≠ gb349))
   have n9_ := am ((by rw [hg]; exact Nat.ne_of_gt (blk_lt (g := gb328) (o := .cells #[.slice A2_0 l2_0.length c2_0, .int .i64 a2_1] 40 (0, 0)) (by refine bk ?_; exact BK328.out)) : gb349 ≠ gb328))
   have n10_ := am ((by rw [hg]; exact Nat.ne_of_lt (blk_lt (g := gb337) (o := .cells #[.string t330, .slice Ao15 t331.length co15, .slice Ao16 t334.length co16] 42 (0, 0)) (by refine bk ?_; exact BK337.out)) : gb337 ≠ gb349))
   have n11_ := am ((by rw [hg]; exact Nat.ne_of_gt (blk_lt (g := gb337) (o := .cells #[.string t330, .slice Ao15 t331.length co15, .slice Ao16 t334.length co16] 42 (0, 0)) (by refine bk ?_; exact BK337.out)) : gb349 ≠ gb337))
   clear HO333
   clear HO336
   clear BK328
   clear BK337
   clear HB
   have HO333 := n0_
   have HO336 := n1_
   have BK328 := n2_
   have BK337 := n3_
   have HB := n4_
   have BK349 := n5_
   have GW349 := n6_
   have GE349 := n7_
   have NB328_349 := n8_
   have NB349_328 := n9_
   have NB337_349 := n10_
   have NB349_337 := n11_
   clear n0_ n1_ n2_ n3_ n4_ n5_ n6_ n7_ n8_ n9_ n10_ n11_
   clear hb hbox hg
   refine hK.out _ _ ⟨(blk_cell BK337.out 0).trans rfl, (blk_cell BK337.out 1).trans rfl, (blk_cell BK337.out 2).trans rfl, (blk_cell BK328.out 0).trans rfl, (blk_cell BK328.out 1).trans rfl⟩ (fun hHeld => ?_)
   clear hK K
   refine norm_ (a' := ?_) ?_ ?_
   rotate_left
   ·show Act.put _ (some 9) _ = _
    simp only [Act.put, List.setIfInBounds_toArray, List.set_cons_zero, List.set_cons_succ, i64_w, i32_w]
    rfl
   refine one_ (i := 3) (N := some 32) #[true, true, true, true, true, true, false, false, false, false, true, false, false] rfl rfl (one_of HT_.out (by kernel_rfl)) (by decide) (fun K hK => ?_)
   refine goes_ Tryd.func18 (by kernel_rfl) rfl #[.slice A2_0 l2_0.length c2_0] (by rfl) rfl rfl ar ?_
   with_reducible refine (epitometop_few.calls (fun k_ => k_ < w.heap.size) _ _ l2_0 t338 _ ?side1 A6.out).mono ?_
   (case side1 => exact Kd.V_mk HC2_0.out (Kd.F_below (Kd.C_F (Kd.heap_int .i64) HR2_0.out) bl))
   rintro e w20 ⟨v339, rfl, ho0, hb⟩
   refine ⟨_, rfl, ?_⟩
   have n0_ := am (Kd.R_below (by refine kR ?_; exact HO333.out) hb)
   have n1_ := am (Kd.S_below (by refine kS ?_; exact HO336.out) hb)
   have n2_ := am (Kd.V_lower (Kd.V_mono (ok' := fun k_ => some k_ ≠ (.slice Ao15 t331.length co15 : Value).ownBlock ∧ some k_ ≠ (.slice Ao16 t334.length co16 : Value).ownBlock ∧ k_ ≠ gb328 ∧ k_ ≠ gb337 ∧ k_ ≠ gb349) ho0 (fun k_ hk_ => ⟨Or.elim hk_ (fun hs_ => fun e_ => Nat.not_le.2 hs_ (Kd.R_base HO333.out k_ e_.symm)) (fun hn_ => (Kd.fresh' (Kd.R_lt (by refine kR ?_; exact HO333.out)) k_ hn_)), Or.elim hk_ (fun hs_ => fun e_ => Nat.not_le.2 hs_ (Kd.S_base HO336.out k_ e_.symm)) (fun hn_ => (Kd.fresh' (Kd.S_lt (by refine kS ?_; exact HO336.out)) k_ hn_)), Or.elim hk_ (fun hs_ => fun e_ => Nat.not_le.2 hs_ (by rw [e_]; exact GW328.out)) (fun hn_ => (Kd.freshB (g := gb328) (o := .cells #[.slice A2_0 l2_0.length c2_0, .int .i64 a2_1] 40 (0, 0)) (by refine bk ?_; exact BK328.out) k_ hn_)), Or.elim hk_ (fun hs_ => fun e_ => Nat.not_le.2 hs_ (by rw [e_]; exact GW337.out)) (fun hn_ => (Kd.freshB (g := gb337) (o := .cells #[.string t330, .slice Ao15 t331.length co15, .slice Ao16 t334.length co16] 42 (0, 0)) (by refine bk ?_; exact BK337.out) k_ hn_)), Or.elim hk_ (fun hs_ => fun e_ => Nat.not_le.2 hs_ (by rw [e_]; exact GW349.out)) (fun hn_ => (Kd.freshB (g := gb349) (o := .cells #[.string (⟨#[]⟩ : ByteArray), .slice none 0 0, .slice none 0 0] 42 (0, 0)) (by refine bk ?_; exact BK349.out) k_ hn_))⟩)) (below_size bl))
   have n3_ := am (blk_below (g := gb328) (o := .cells #[.slice A2_0 l2_0.length c2_0, .int .i64 a2_1] 40 (0, 0)) (by refine bk ?_; exact BK328.out) hb)
   have n4_ := am (blk_below (g := gb337) (o := .cells #[.string t330, .slice Ao15 t331.length co15, .slice Ao16 t334.length co16] 42 (0, 0)) (by refine bk ?_; exact BK337.out) hb)
   have n5_ := am (blk_below (g := gb349) (o := .cells #[.string (⟨#[]⟩ : ByteArray), .slice none 0 0, .slice none 0 0] 42 (0, 0)) (by refine bk ?_; exact BK349.out) hb)
   have n6_ := am (below_step bl hb)
   clear HO333
   clear HO336
   clear BK328
   clear BK337
   clear BK349
   clear HB
   have HO333 := n0_
   have HO336 := n1_
   have HO340 := n2_
   have BK328 := n3_
   have BK337 := n4_
   have BK349 := n5_
   have HB := n6_
   clear n0_ n1_ n2_ n3_ n4_ n5_ n6_
   (try clear hb)
   (try clear hb2)
   (try clear hk)
   (try clear hi)
   (try clear ho0)
   obtain ⟨Ao21, co21, eo21⟩ := Kd.V_slice HO340.out
   (first | subst eo21 | (injection eo21 with f1_ f2_ f3_; have f4_ := f1_.symm; have f5_ := f3_.symm; clear f1_ f2_ f3_; subst f4_; subst f5_))
   refine hK.out _ _ ⟨(blk_cell BK337.out 0).trans rfl, (blk_cell BK337.out 1).trans rfl, (blk_cell BK337.out 2).trans rfl, (blk_cell BK328.out 0).trans rfl, (blk_cell BK328.out 1).trans rfl⟩ (fun hHeld => ?_)
   clear hK K
   refine norm_ (a' := ?_) ?_ ?_
   rotate_left
   ·show Act.put _ (some 32) _ = _
    simp only [Act.put, List.setIfInBounds_toArray, List.set_cons_zero, List.set_cons_succ, i64_w, i32_w]
    rfl
   refine one_ (i := 6) (N := some 35) #[true, true, true, true, true, true, true, false, false, false, true, false, false] rfl rfl (one_of HT_.out (by kernel_rfl)) (by decide) (fun K hK => ?_)
   refine goes_ Tryd.func17 (by kernel_rfl) rfl #[.agg #[.string t330, .slice Ao15 t331.length co15, .slice Ao16 t334.length co16], .slice Ao21 t338.length co21, .int .i64 a2_1] (by rfl) rfl rfl ar ?_
   with_reducible refine (compact_Of.calls k t330 _ _ t331 _ _ t334 _ _ t338 a2_1 t341 t342 t345 t348 _ ?side1 ?side2 ?side3 ?side4 ?side5 ?side6 ?side7 A7.out).mono ?_
   (case side1 => repeat (first | exact (Kd.R_reads' HO333.out).2.2 | (with_reducible refine Kd.C_alloc ?_ _) | (with_reducible refine Kd.C_drewN ?_ _) | (with_reducible refine Kd.C_drew ?_)))
   (case side2 => exact (Kd.R_reads' HO333.out).2.1)
   (case side3 => repeat (first | exact (Kd.S_reads' HO336.out).2.2 | (with_reducible refine Kd.C_alloc ?_ _) | (with_reducible refine Kd.C_drewN ?_ _) | (with_reducible refine Kd.C_drew ?_)))
   (case side4 => exact (Kd.S_reads' HO336.out).2.1)
   (case side5 => repeat (first | exact (Kd.V_reads' HO340.out).2.2 | (with_reducible refine Kd.C_alloc ?_ _) | (with_reducible refine Kd.C_drewN ?_ _) | (with_reducible refine Kd.C_drew ?_)))
   (case side6 => exact (Kd.V_reads' HO340.out).2.1)
   (case side7 => exact Tabs.below HT.out bl)
   rintro e w22 ⟨v343, v346, rfl, ho0, ho1, hb⟩
   refine ⟨_, rfl, ?_⟩
   have n0_ := am (Kd.R_elder' (by refine kR ?_; exact HO333.out) (Kd.R_base ho0) hb)
   have n1_ := am (Kd.S_elder' (by refine kS ?_; exact HO336.out) (Kd.S_base ho1) hb)
   have n2_ := am (Kd.V_mono (Kd.V_told (Kd.V_told (Kd.V_old (by (with_reducible repeat (first | apply Kd.V_alloc | apply Kd.V_drewN | apply Kd.V_drew)); exact HO340.out) hb) (Kd.R_base ho0)) (Kd.S_base ho1)) (fun _ h_ => h_.1))
   have n3_ := am (Kd.R_lower (Kd.R_new' ho0 (Kd.R_lt (by refine kR ?_; exact HO333.out))) (below_size bl))
   have n4_ := am (Kd.S_lower (Kd.S_new' ho1 (Kd.S_lt (by refine kS ?_; exact HO336.out))) (below_size bl))
   have n5_ := am (blk_below (g := gb328) (o := .cells #[.slice A2_0 l2_0.length c2_0, .int .i64 a2_1] 40 (0, 0)) (by refine bk ?_; exact BK328.out) hb)
   have n6_ := am (blk_below (g := gb337) (o := .cells #[.string t330, .slice Ao15 t331.length co15, .slice Ao16 t334.length co16] 42 (0, 0)) (by refine bk ?_; exact BK337.out) hb)
   have n7_ := am (blk_below (g := gb349) (o := .cells #[.string (⟨#[]⟩ : ByteArray), .slice none 0 0, .slice none 0 0] 42 (0, 0)) (by refine bk ?_; exact BK349.out) hb)
   have n8_ := am (below_step bl hb)
   clear HO333
   clear HO336
   clear HO340
   clear BK328
   clear BK337
   clear BK349
   clear HB
   have HO333 := n0_
   have HO336 := n1_
   have HO340 := n2_
   have HO344 := n3_
   have HO347 := n4_
   have BK328 := n5_
   have BK337 := n6_
   have BK349 := n7_
   have HB := n8_
   clear n0_ n1_ n2_ n3_ n4_ n5_ n6_ n7_ n8_
   (try clear hb)
   (try clear hb2)
   (try clear hk)
   (try clear hi)
   (try clear ho0)
   (try clear ho1)
   refine hK.out _ _ ⟨(blk_cell BK337.out 0).trans rfl, (blk_cell BK337.out 1).trans rfl, (blk_cell BK337.out 2).trans rfl, (blk_cell BK328.out 0).trans rfl, (blk_cell BK328.out 1).trans rfl⟩ (fun hHeld => ?_)
   clear hK K
   refine norm_ (a' := ?_) ?_ ?_
   rotate_left
   ·show Act.put _ (some 35) _ = _
    simp only [Act.put, List.setIfInBounds_toArray, List.set_cons_zero, List.set_cons_succ, i64_w, i32_w]
    rfl
   refine pure_ (i := 7) (N := some 28) #[true, true, true, true, true, true, true, true, false, false, true, false, false] rfl rfl (aT HT_.out) (fun _ _ _ h => h) (Or.inl ⟨rfl, rn⟩) ap ?_
   refine pure_ (i := 8) (N := some 36) #[true, true, true, true, true, true, true, true, true, false, true, false, false] rfl rfl (aT HT_.out) (fun _ _ _ h => h) (Or.inl ⟨rfl, rn⟩) ap ?_
   refine pure_ (i := 9) (N := some 37) #[true, true, true, true, true, true, true, true, true, true, true, false, false] rfl rfl (aT HT_.out) (fun _ _ _ h => h) (Or.inl ⟨rfl, rn⟩) ap ?_
   exact norm_ (by simp only [putAll, Act.put, List.setIfInBounds_toArray, List.set_cons_zero, List.set_cons_succ]) (hCont (.slice Ao21 t338.length co21, v343, v346, gb349) _ ⟨hHeld, (by refine kR ?_; exact Kd.R_mono HO333.out (fun _ hk => hk.2)), (by refine kS ?_; exact Kd.S_mono HO336.out (fun _ hk => hk.2)), (by (with_reducible repeat (first | apply Kd.V_alloc | apply Kd.V_drewN | apply Kd.V_drew)); exact Kd.V_mono HO340.out (fun _ hk => ⟨hk.1.1.1, ⟨hk.1.1.2.1, ⟨hk.1.2, ⟨hk.2, ⟨hk.1.1.2.2.1, ⟨hk.1.1.2.2.2.1, hk.1.1.2.2.2.2⟩⟩⟩⟩⟩⟩)), (by refine kR ?_; exact Kd.R_mono HO344.out (fun _ hk => hk.2)), (by refine kS ?_; exact Kd.S_mono HO347.out (fun _ hk => hk.2)), (by refine bk ?_; exact BK328.out), (by refine bk ?_; exact BK337.out), (by refine bk ?_; exact BK349.out), GW349.out, GE349.out, NB328_349.out, NB349_328.out, NB337_349.out, NB349_337.out, bl⟩)
 rintro ⟨v339, v343, v346, gb349⟩ w23 ⟨hS_, h0_, h1_, h2_, h3_, h4_, h5_, h6_, h7_, h8_, h9_, h10_, h11_, h12_, h13_, h14_⟩
 have n0_ : Aside0 (Kd.R (Kd.int .i64) 3 w23 w.heap.size (fun k_ => some k_ ≠ (v343 : Value).ownBlock) (.slice Ao15 t331.length co15) t331) := ⟨h0_⟩
 have n1_ : Aside0 (Kd.S (Kd.slice 25 k25) 27 w23 w.heap.size (fun k_ => some k_ ≠ (v346 : Value).ownBlock) (.slice Ao16 t334.length co16) t334) := ⟨h1_⟩
 have n2_ : Aside0 (Kd.V (Kd.int .i64) 3 w23 w.heap.size (fun k_ => some k_ ≠ (.slice Ao15 t331.length co15 : Value).ownBlock ∧ some k_ ≠ (.slice Ao16 t334.length co16 : Value).ownBlock ∧ some k_ ≠ (v343 : Value).ownBlock ∧ some k_ ≠ (v346 : Value).ownBlock ∧ k_ ≠ gb328 ∧ k_ ≠ gb337 ∧ k_ ≠ gb349) v339 t338) := ⟨h2_⟩
 have n3_ : Aside0 (Kd.R (Kd.int .i64) 3 w23 w.heap.size (fun k_ => some k_ ≠ (.slice Ao15 t331.length co15 : Value).ownBlock) v343 t342) := ⟨h3_⟩
 have n4_ : Aside0 (Kd.S (Kd.slice 25 k25) 27 w23 w.heap.size (fun k_ => some k_ ≠ (.slice Ao16 t334.length co16 : Value).ownBlock) v346 t345) := ⟨h4_⟩
 have n5_ : Aside0 (w23.heap[gb328]? = some (.cells #[.slice A2_0 l2_0.length c2_0, .int .i64 a2_1] 40 (0, 0))) := ⟨h5_⟩
 have n6_ : Aside0 (w23.heap[gb337]? = some (.cells #[.string t330, .slice Ao15 t331.length co15, .slice Ao16 t334.length co16] 42 (0, 0))) := ⟨h6_⟩
 have n7_ : Aside0 (w23.heap[gb349]? = some (.cells #[.string (⟨#[]⟩ : ByteArray), .slice none 0 0, .slice none 0 0] 42 (0, 0))) := ⟨h7_⟩
 have n8_ : Aside0 (w.heap.size ≤ gb349) := ⟨h8_⟩
 have n9_ : Aside0 (w.heap.size ≤ gb349) := ⟨h9_⟩
 have n10_ : Aside0 (gb328 ≠ gb349) := ⟨h10_⟩
 have n11_ : Aside0 (gb349 ≠ gb328) := ⟨h11_⟩
 have n12_ : Aside0 (gb337 ≠ gb349) := ⟨h12_⟩
 have n13_ : Aside0 (gb349 ≠ gb337) := ⟨h13_⟩
 have n14_ : Aside0 (Below w.heap.size w w23) := ⟨h14_⟩
 clear HO333
 clear HO336
 clear BK328
 clear BK337
 clear HB
 clear h0_ h1_ h2_ h3_ h4_ h5_ h6_ h7_ h8_ h9_ h10_ h11_ h12_ h13_ h14_
 have HO333 := n0_
 have HO336 := n1_
 have HO340 := n2_
 have HO344 := n3_
 have HO347 := n4_
 have BK328 := n5_
 have BK337 := n6_
 have BK349 := n7_
 have GW349 := n8_
 have GE349 := n9_
 have NB328_349 := n10_
 have NB349_328 := n11_
 have NB337_349 := n12_
 have NB349_337 := n13_
 have HB := n14_
 clear n0_ n1_ n2_ n3_ n4_ n5_ n6_ n7_ n8_ n9_ n10_ n11_ n12_ n13_ n14_
 have hHeld : w23.cell? ⟨gb337, 0, none⟩ = some (.string t330) ∧ w23.cell? ⟨gb337, 1, none⟩ = some (.slice Ao15 t331.length co15) ∧ w23.cell? ⟨gb337, 2, none⟩ = some (.slice Ao16 t334.length co16) ∧ w23.cell? ⟨gb328, 0, none⟩ = some (.slice A2_0 l2_0.length c2_0) ∧ w23.cell? ⟨gb328, 1, none⟩ = some (.int .i64 a2_1) := hS_
 obtain ⟨Ao25, co25, eo25⟩ := Kd.R_slice HO344.out
 (first | subst eo25 | (injection eo25 with f1_ f2_ f3_; have f4_ := f1_.symm; have f5_ := f3_.symm; clear f1_ f2_ f3_; subst f4_; subst f5_))
 obtain ⟨Ao27, co27, eo27⟩ := Kd.S_slice HO347.out
 (first | subst eo27 | (injection eo27 with f1_ f2_ f3_; have f4_ := f1_.symm; have f5_ := f3_.symm; clear f1_ f2_ f3_; subst f4_; subst f5_))
 refine norm_ (a' := ?_) ?_ ?_
 rotate_left
 ·simp only [putAll, Act.put, List.setIfInBounds_toArray, List.set_cons_zero, List.set_cons_succ]
  rfl
 refine one_ (i := 11) (N := none) #[true, true, true, true, true, true, true, true, true, true, true, true, false] rfl rfl (one_of HT_.out (by kernel_rfl)) (by decide) (fun K hK => ?_)
 have hs24 : w23.cell? ⟨gb349, 0, none⟩ = some (.string (⟨#[]⟩ : ByteArray)) := (blk_cell BK349.out 0).trans rfl
 have hfs24 := blk_frozen BK349.out 0
 have hns24_0 := NB328_349.out
 have hns24_1 := NB337_349.out
 have hms24_0 := NB349_328.out
 have hms24_1 := NB349_337.out
 have hs26 : w23.cell? ⟨gb349, 1, none⟩ = some (.slice none 0 0) := (blk_cell BK349.out 1).trans rfl
 have hfs26 := blk_frozen BK349.out 1
 have hns26_0 := NB328_349.out
 have hns26_1 := NB337_349.out
 have hms26_0 := NB349_328.out
 have hms26_1 := NB349_337.out
 have hs28 : w23.cell? ⟨gb349, 2, none⟩ = some (.slice none 0 0) := (blk_cell BK349.out 2).trans rfl
 have hfs28 := blk_frozen BK349.out 2
 have hns28_0 := NB328_349.out
 have hns28_1 := NB337_349.out
 have hms28_0 := NB349_328.out
 have hms28_1 := NB349_337.out
 refine skip_ (w1 := ?_) (by rfl) rfl ?_ ?_
 rotate_left
 ·go_simp
  rfl
 refine hK.out _ _ ⟨((cell_far (p := ⟨gb349, _, none⟩) NB337_349.out _).trans (((cell_far (p := ⟨gb349, _, none⟩) NB337_349.out _).trans (((cell_far (p := ⟨gb349, _, none⟩) NB337_349.out _).trans (hHeld.1)))))), ((cell_far (p := ⟨gb349, _, none⟩) NB337_349.out _).trans (((cell_far (p := ⟨gb349, _, none⟩) NB337_349.out _).trans (((cell_far (p := ⟨gb349, _, none⟩) NB337_349.out _).trans (hHeld.2.1)))))), ((cell_far (p := ⟨gb349, _, none⟩) NB337_349.out _).trans (((cell_far (p := ⟨gb349, _, none⟩) NB337_349.out _).trans (((cell_far (p := ⟨gb349, _, none⟩) NB337_349.out _).trans (hHeld.2.2.1)))))), ((cell_far (p := ⟨gb349, _, none⟩) NB328_349.out _).trans (((cell_far (p := ⟨gb349, _, none⟩) NB328_349.out _).trans (((cell_far (p := ⟨gb349, _, none⟩) NB328_349.out _).trans (hHeld.2.2.2.1)))))), ((cell_far (p := ⟨gb349, _, none⟩) NB328_349.out _).trans (((cell_far (p := ⟨gb349, _, none⟩) NB328_349.out _).trans (((cell_far (p := ⟨gb349, _, none⟩) NB328_349.out _).trans (hHeld.2.2.2.2))))))⟩ (fun hHeld => ?_)
 clear hK K
 refine pure_ (i := 12) (N := some 10) #[true, true, true, true, true, true, true, true, true, true, true, true, true] rfl rfl (aT HT_.out) (fun _ _ _ h => h) (Or.inl ⟨rfl, rn⟩) ap ?_
 refine done_ (done_of HT_.out (by kernel_rfl)) ?_
 go_upto_region 4 with (fail)
 go_cut [53] (fun v53 wc => ∃ (kq : Nat) (x53_7 : Bool), v53 = .bool x53_7 ∧ Aside0 (epitometop_TopLeast.j0 kq x53_7 t330 t331 t334 t341 t342 t345 = some r) ∧ Aside0 (kq ≤ k) ∧ Aside0 (Kd.R (Kd.int .i64) 3 wc w.heap.size (fun k_ => some k_ ≠ ((.slice Ao25 t342.length co25) : Value).ownBlock) (.slice Ao15 t331.length co15) t331) ∧ Aside0 (Kd.S (Kd.slice 25 k25) 27 wc w.heap.size (fun k_ => some k_ ≠ ((.slice Ao27 t345.length co27) : Value).ownBlock) (.slice Ao16 t334.length co16) t334) ∧ Aside0 (Kd.R (Kd.int .i64) 3 wc w.heap.size (fun k_ => some k_ ≠ ((.slice Ao15 t331.length co15) : Value).ownBlock) (.slice Ao25 t342.length co25) t342) ∧ Aside0 (Kd.S (Kd.slice 25 k25) 27 wc w.heap.size (fun k_ => some k_ ≠ ((.slice Ao16 t334.length co16) : Value).ownBlock) (.slice Ao27 t345.length co27) t345) ∧ Aside0 (wc.heap[gb328]? = some (.cells #[(.slice A2_0 l2_0.length c2_0), .int .i64 a2_1] 40 (0, 0))) ∧ Aside0 (wc.heap[gb337]? = some (.cells #[.string t330, (.slice Ao15 t331.length co15), (.slice Ao16 t334.length co16)] 42 (0, 0))) ∧ Aside0 (wc.heap[gb349]? = some (.cells #[.string t341, (.slice Ao25 t342.length co25), (.slice Ao27 t345.length co27)] 42 (0, 0))) ∧ Aside0 (Below w.heap.size w wc))
 case first =>
  have H := HC8.out
  clear HC8
  by_cases c29 : t329 = true
  ·subst c29
   have H1 : (if t348 = 0 then (epitometop_TopLeast.j0 k ((t342.length : Int) != (wrap64 ((t345.length : Int) + 1))) t330 t331 t334 t341 t342 t345) else (epitometop_TopLeast.j0 k true t330 t331 t334 t341 t342 t345)) = some r := by rw [if_pos rfl] at H; exact H
   clear H
   have H := H1
   clear H1
   by_cases c30 : t348 = 0
   ·rw [if_pos c30] at H
    have c30b0 : (t348 == 0) = true := beq_iff_eq.mpr c30
    have c30b1 : (t348 != 0) = false := bne_eq_false_iff_eq.mpr c30
    clear c30
    (first | rw [c30b0] | (simp only [i64_w, i32_w]; rw [c30b0]) | skip)
    have H' := am H
    clear H
    have hnb31 := NB349_328.out
    have hnc31 := NB328_349.out
    have hnb32 := NB349_337.out
    have hnc32 := NB337_349.out
    have hcz33_0 : w23.cell? ⟨gb349, 0, none⟩ = some (.string (⟨#[]⟩ : ByteArray)) := (blk_cell BK349.out 0).trans rfl
    have hcz33_1 : w23.cell? ⟨gb349, 1, none⟩ = some (.slice none 0 0) := (blk_cell BK349.out 1).trans rfl
    have hcz33_2 : w23.cell? ⟨gb349, 2, none⟩ = some (.slice none 0 0) := (blk_cell BK349.out 2).trans rfl
    have hfz33_0 := blk_frozen BK349.out 0
    have hfz33_1 := blk_frozen BK349.out 1
    have hfz33_2 := blk_frozen BK349.out 2
    go_wp2
    go_meet
    case rel => exact ⟨_, (((t342.length : Int) != (wrap64 ((t345.length : Int) + 1)))), pj, H', ⟨by first | omega | exact Nat.le_refl _⟩, ⟨by refine kR ?_; exact Kd.R_mono (Kd.R_far (p := ⟨gb349, 2, none⟩) (Kd.R_far (p := ⟨gb349, 1, none⟩) (Kd.R_far (p := ⟨gb349, 0, none⟩) (Kd.R_types HO333.out BK349.out (by decide)) (fun _ hk => hk.2) (.string t341)) (fun _ hk => hk.2) (.slice Ao25 t342.length co25)) (fun _ hk => hk.2) (.slice Ao27 t345.length co27)) (fun _ hk => hk.1)⟩, ⟨by refine kS ?_; exact Kd.S_mono (Kd.S_far (p := ⟨gb349, 2, none⟩) (Kd.S_far (p := ⟨gb349, 1, none⟩) (Kd.S_far (p := ⟨gb349, 0, none⟩) (Kd.S_types HO336.out BK349.out (by decide)) (fun _ hk => hk.2) (.string t341)) (fun _ hk => hk.2) (.slice Ao25 t342.length co25)) (fun _ hk => hk.2) (.slice Ao27 t345.length co27)) (fun _ hk => hk.1)⟩, ⟨by refine kR ?_; exact Kd.R_mono (Kd.R_far (p := ⟨gb349, 2, none⟩) (Kd.R_far (p := ⟨gb349, 1, none⟩) (Kd.R_far (p := ⟨gb349, 0, none⟩) (Kd.R_types HO344.out BK349.out (by decide)) (fun _ hk => hk.2) (.string t341)) (fun _ hk => hk.2) (.slice Ao25 t342.length co25)) (fun _ hk => hk.2) (.slice Ao27 t345.length co27)) (fun _ hk => hk.1)⟩, ⟨by refine kS ?_; exact Kd.S_mono (Kd.S_far (p := ⟨gb349, 2, none⟩) (Kd.S_far (p := ⟨gb349, 1, none⟩) (Kd.S_far (p := ⟨gb349, 0, none⟩) (Kd.S_types HO347.out BK349.out (by decide)) (fun _ hk => hk.2) (.string t341)) (fun _ hk => hk.2) (.slice Ao25 t342.length co25)) (fun _ hk => hk.2) (.slice Ao27 t345.length co27)) (fun _ hk => hk.1)⟩, ⟨by refine bk ?_; refine blk_far ?_ NB328_349.out _; refine bk ?_; refine blk_far ?_ NB328_349.out _; refine bk ?_; refine blk_far ?_ NB328_349.out _; refine bk ?_; exact BK328.out⟩, ⟨by refine bk ?_; refine blk_far ?_ NB337_349.out _; refine bk ?_; refine blk_far ?_ NB337_349.out _; refine bk ?_; refine blk_far ?_ NB337_349.out _; refine bk ?_; exact BK337.out⟩, ⟨by refine bk ?_; refine blk_put (cs := #[.string t341, .slice Ao25 t342.length co25, .slice none 0 0]) ?_ 2 _ rfl; refine bk ?_; refine blk_put (cs := #[.string t341, .slice none 0 0, .slice none 0 0]) ?_ 1 _ rfl; refine bk ?_; refine blk_put (cs := #[.string (⟨#[]⟩ : ByteArray), .slice none 0 0, .slice none 0 0]) ?_ 0 _ rfl; refine bk ?_; exact BK349.out⟩, ⟨bl⟩⟩
   ·rw [if_neg c30] at H
    have c30b0 : (t348 == 0) = false := beq_eq_false_iff_ne.mpr c30
    have c30b1 : (t348 != 0) = true := bne_iff_ne.mpr c30
    (first | rw [c30b0] | (simp only [i64_w, i32_w]; rw [c30b0]) | skip)
    have H' := am H
    clear H
    go_wp2
    go_meet
    case rel => exact ⟨_, (true), pj, H', ⟨by first | omega | exact Nat.le_refl _⟩, ⟨by refine kR ?_; exact Kd.R_mono (Kd.R_far (p := ⟨gb349, 2, none⟩) (Kd.R_far (p := ⟨gb349, 1, none⟩) (Kd.R_far (p := ⟨gb349, 0, none⟩) (Kd.R_types HO333.out BK349.out (by decide)) (fun _ hk => hk.2) (.string t341)) (fun _ hk => hk.2) (.slice Ao25 t342.length co25)) (fun _ hk => hk.2) (.slice Ao27 t345.length co27)) (fun _ hk => hk.1)⟩, ⟨by refine kS ?_; exact Kd.S_mono (Kd.S_far (p := ⟨gb349, 2, none⟩) (Kd.S_far (p := ⟨gb349, 1, none⟩) (Kd.S_far (p := ⟨gb349, 0, none⟩) (Kd.S_types HO336.out BK349.out (by decide)) (fun _ hk => hk.2) (.string t341)) (fun _ hk => hk.2) (.slice Ao25 t342.length co25)) (fun _ hk => hk.2) (.slice Ao27 t345.length co27)) (fun _ hk => hk.1)⟩, ⟨by refine kR ?_; exact Kd.R_mono (Kd.R_far (p := ⟨gb349, 2, none⟩) (Kd.R_far (p := ⟨gb349, 1, none⟩) (Kd.R_far (p := ⟨gb349, 0, none⟩) (Kd.R_types HO344.out BK349.out (by decide)) (fun _ hk => hk.2) (.string t341)) (fun _ hk => hk.2) (.slice Ao25 t342.length co25)) (fun _ hk => hk.2) (.slice Ao27 t345.length co27)) (fun _ hk => hk.1)⟩, ⟨by refine kS ?_; exact Kd.S_mono (Kd.S_far (p := ⟨gb349, 2, none⟩) (Kd.S_far (p := ⟨gb349, 1, none⟩) (Kd.S_far (p := ⟨gb349, 0, none⟩) (Kd.S_types HO347.out BK349.out (by decide)) (fun _ hk => hk.2) (.string t341)) (fun _ hk => hk.2) (.slice Ao25 t342.length co25)) (fun _ hk => hk.2) (.slice Ao27 t345.length co27)) (fun _ hk => hk.1)⟩, ⟨by refine bk ?_; refine blk_far ?_ NB328_349.out _; refine bk ?_; refine blk_far ?_ NB328_349.out _; refine bk ?_; refine blk_far ?_ NB328_349.out _; refine bk ?_; exact BK328.out⟩, ⟨by refine bk ?_; refine blk_far ?_ NB337_349.out _; refine bk ?_; refine blk_far ?_ NB337_349.out _; refine bk ?_; refine blk_far ?_ NB337_349.out _; refine bk ?_; exact BK337.out⟩, ⟨by refine bk ?_; refine blk_put (cs := #[.string t341, .slice Ao25 t342.length co25, .slice none 0 0]) ?_ 2 _ rfl; refine bk ?_; refine blk_put (cs := #[.string t341, .slice none 0 0, .slice none 0 0]) ?_ 1 _ rfl; refine bk ?_; refine blk_put (cs := #[.string (⟨#[]⟩ : ByteArray), .slice none 0 0, .slice none 0 0]) ?_ 0 _ rfl; refine bk ?_; exact BK349.out⟩, ⟨bl⟩⟩
  ·replace c29 := Bool.eq_false_iff.mpr c29
   subst c29
   have H1 : (epitometop_TopLeast.j0 k true t330 t331 t334 t341 t342 t345) = some r := by rw [if_neg (show ¬ (false = true) by decide)] at H; exact H
   clear H
   have H := H1
   clear H1
   have H' := am H
   clear H
   go_wp2
   go_meet
   case rel => exact ⟨_, (true), pj, H', ⟨by first | omega | exact Nat.le_refl _⟩, ⟨by refine kR ?_; exact Kd.R_mono (Kd.R_far (p := ⟨gb349, 2, none⟩) (Kd.R_far (p := ⟨gb349, 1, none⟩) (Kd.R_far (p := ⟨gb349, 0, none⟩) (Kd.R_types HO333.out BK349.out (by decide)) (fun _ hk => hk.2) (.string t341)) (fun _ hk => hk.2) (.slice Ao25 t342.length co25)) (fun _ hk => hk.2) (.slice Ao27 t345.length co27)) (fun _ hk => hk.1)⟩, ⟨by refine kS ?_; exact Kd.S_mono (Kd.S_far (p := ⟨gb349, 2, none⟩) (Kd.S_far (p := ⟨gb349, 1, none⟩) (Kd.S_far (p := ⟨gb349, 0, none⟩) (Kd.S_types HO336.out BK349.out (by decide)) (fun _ hk => hk.2) (.string t341)) (fun _ hk => hk.2) (.slice Ao25 t342.length co25)) (fun _ hk => hk.2) (.slice Ao27 t345.length co27)) (fun _ hk => hk.1)⟩, ⟨by refine kR ?_; exact Kd.R_mono (Kd.R_far (p := ⟨gb349, 2, none⟩) (Kd.R_far (p := ⟨gb349, 1, none⟩) (Kd.R_far (p := ⟨gb349, 0, none⟩) (Kd.R_types HO344.out BK349.out (by decide)) (fun _ hk => hk.2) (.string t341)) (fun _ hk => hk.2) (.slice Ao25 t342.length co25)) (fun _ hk => hk.2) (.slice Ao27 t345.length co27)) (fun _ hk => hk.1)⟩, ⟨by refine kS ?_; exact Kd.S_mono (Kd.S_far (p := ⟨gb349, 2, none⟩) (Kd.S_far (p := ⟨gb349, 1, none⟩) (Kd.S_far (p := ⟨gb349, 0, none⟩) (Kd.S_types HO347.out BK349.out (by decide)) (fun _ hk => hk.2) (.string t341)) (fun _ hk => hk.2) (.slice Ao25 t342.length co25)) (fun _ hk => hk.2) (.slice Ao27 t345.length co27)) (fun _ hk => hk.1)⟩, ⟨by refine bk ?_; refine blk_far ?_ NB328_349.out _; refine bk ?_; refine blk_far ?_ NB328_349.out _; refine bk ?_; refine blk_far ?_ NB328_349.out _; refine bk ?_; exact BK328.out⟩, ⟨by refine bk ?_; refine blk_far ?_ NB337_349.out _; refine bk ?_; refine blk_far ?_ NB337_349.out _; refine bk ?_; refine blk_far ?_ NB337_349.out _; refine bk ?_; exact BK337.out⟩, ⟨by refine bk ?_; refine blk_put (cs := #[.string t341, .slice Ao25 t342.length co25, .slice none 0 0]) ?_ 2 _ rfl; refine bk ?_; refine blk_put (cs := #[.string t341, .slice none 0 0, .slice none 0 0]) ?_ 1 _ rfl; refine bk ?_; refine blk_put (cs := #[.string (⟨#[]⟩ : ByteArray), .slice none 0 0, .slice none 0 0]) ?_ 0 _ rfl; refine bk ?_; exact BK349.out⟩, ⟨bl⟩⟩
 case rest =>
  clear HC8
  try clear c1
  try clear c2
  try clear p2
  try clear c3
  try clear p6
  try clear c17
  try clear c18
  try clear c29
  try clear c30
  try clear c30b0
  try clear c30b1
  try clear c31
  try clear c32
  try clear hcz33_0
  try clear hcz33_1
  try clear hcz33_2
  try clear hfz33_0
  try clear hfz33_1
  try clear hfz33_2
  obtain ⟨kq, x53_7, rfl, HA, HJ7, HO_338001, HO_338002, HO_350001, HO_350002, BK328, BK337, BK349, HB⟩ := hcut
  cases kq with
  | zero => exact absurd HA.out (by simp [epitometop_TopLeast.j0])
  | succ kj7 =>
   have H := HA.out
   clear HA
   simp only [epitometop_TopLeast.j0] at H
   by_cases c34 : x53_7 = true
   ·subst c34
    have H1 : (some false) = some r := by rw [if_pos rfl] at H; exact H
    clear H
    have H := H1
    clear H1
    obtain rfl := Option.some.inj H
    exact absurd HLAW.out (by decide)
   ·replace c34 := Bool.eq_false_iff.mpr c34
    subst c34
    have H1 : (epitometop_TopLeast.l0 kj7 0 t330 t331 t334 t341 t342 t345) = some r := by rw [if_neg (show ¬ (false = true) by decide)] at H; exact H
    clear H
    have H := H1
    clear H1
    have H' := am H
    clear H
    go_wp2
    go_loopg [11] kj7 (fun kq v11 w' => ∃ (x11_2 : Int), v11 = .int .i64 x11_2 ∧ Aside0 (epitometop_TopLeast.l0 kq x11_2 t330 t331 t334 t341 t342 t345 = some r) ∧ Aside0 (kq ≤ kj7) ∧ Aside0 (Kd.R (Kd.int .i64) 3 w' w.heap.size (fun k_ => some k_ ≠ ((.slice Ao25 t342.length co25) : Value).ownBlock) (.slice Ao15 t331.length co15) t331) ∧ Aside0 (Kd.S (Kd.slice 25 k25) 27 w' w.heap.size (fun k_ => some k_ ≠ ((.slice Ao27 t345.length co27) : Value).ownBlock) (.slice Ao16 t334.length co16) t334) ∧ Aside0 (Kd.R (Kd.int .i64) 3 w' w.heap.size (fun k_ => some k_ ≠ ((.slice Ao15 t331.length co15) : Value).ownBlock) (.slice Ao25 t342.length co25) t342) ∧ Aside0 (Kd.S (Kd.slice 25 k25) 27 w' w.heap.size (fun k_ => some k_ ≠ ((.slice Ao16 t334.length co16) : Value).ownBlock) (.slice Ao27 t345.length co27) t345) ∧ Aside0 (w'.heap[gb328]? = some (.cells #[(.slice A2_0 l2_0.length c2_0), .int .i64 a2_1] 40 (0, 0))) ∧ Aside0 (w'.heap[gb337]? = some (.cells #[.string t330, (.slice Ao15 t331.length co15), (.slice Ao16 t334.length co16)] 42 (0, 0))) ∧ Aside0 (w'.heap[gb349]? = some (.cells #[.string t341, (.slice Ao25 t342.length co25), (.slice Ao27 t345.length co27)] 42 (0, 0))) ∧ Aside0 (Below w.heap.size w w'))
    case atStart => exact ⟨(0), pj, H', ⟨Nat.le_refl _⟩, ⟨by refine kR ?_; exact HO_338001.out⟩, ⟨by refine kS ?_; exact HO_338002.out⟩, ⟨by refine kR ?_; exact HO_350001.out⟩, ⟨by refine kS ?_; exact HO_350002.out⟩, ⟨by refine bk ?_; exact BK328.out⟩, ⟨by refine bk ?_; exact BK337.out⟩, ⟨by refine bk ?_; exact BK349.out⟩, ⟨bl⟩⟩
    case round =>
     clear H'
     try clear c1
     try clear c2
     try clear p2
     try clear c3
     try clear p6
     try clear c17
     try clear c18
     try clear c29
     try clear c30
     try clear c30b0
     try clear c30b1
     try clear c31
     try clear c32
     try clear c34
     try clear hcz33_0
     try clear hcz33_1
     try clear hcz33_2
     try clear hfz33_0
     try clear hfz33_1
     try clear hfz33_2
     try clear p2
     try clear p6
     obtain ⟨x11_2, rfl, HA, HK2, HO_338001, HO_338002, HO_350001, HO_350002, BK328, BK337, BK349, HB⟩ := hrel
     cases gk with
     | zero => exact absurd HA.out (by simp [epitometop_TopLeast.l0])
     | succ k2 =>
      have H := HA.out
      clear HA
      simp only [epitometop_TopLeast.l0] at H
      by_cases c35 : x11_2 < (t345.length : Int)
      ·rw [if_pos c35] at H
       have c35b0 : decide (x11_2 < (t345.length : Int)) = true := decide_eq_true c35
       clear c35
       by_cases c36 : 0 ≤ x11_2
       ·rw [if_pos c36] at H
        have c36b0 : decide (0 ≤ x11_2) = true := decide_eq_true c36
        clear c36
        by_cases c37 : x11_2 < (t342.length : Int)
        ·rw [if_pos c37] at H
         have c37b0 : decide (x11_2 < (t342.length : Int)) = true := decide_eq_true c37
         clear c37
         replace H := Option.bind_eq_some_iff.mp H
         obtain ⟨⟨t351, t352, t353⟩, A380, H⟩ := H
         try dsimp only at H
         have A38 := am A380
         clear A380
         obtain ⟨ji39, hji39⟩ : ∃ j_ : Int, (wrap64 (x11_2 + 1)) = j_ := ⟨_, rfl⟩
         replace H : (if 0 ≤ (ji39) then (if (ji39) < (t342.length : Int) then ((seek_Find.f t331 (rd t342 (ji39))).bind fun bt355 => ((op_In.f (rd_L3 t345 x11_2)).bind fun t359 => (if t359 > 512 then (epitometop_TopLeast.l0 k2 ji39 t330 t331 t334 t341 t342 t345) else ((gaps_Of.f k2 (rd_L3 t345 x11_2)).bind fun bt361 => ((gaps_Spans.f bt361.1 bt361.2.1).bind fun bt369 => (if t353 = 0 then (if bt355.2.2 = 0 then (if bt361.2.2 = 0 then (if bt369.2 = 0 then ((epitomeref04_Same.f k2 bt369.1 (rd_L3 t345 x11_2)).bind fun t374 => (epitometop_TopLeast.j2 k2 x11_2 t351 bt355.1 (!t374) t330 t331 t334 t341 t342 t345)) else (epitometop_TopLeast.j2 k2 x11_2 t351 bt355.1 true t330 t331 t334 t341 t342 t345)) else (epitometop_TopLeast.j2 k2 x11_2 t351 bt355.1 true t330 t331 t334 t341 t342 t345)) else (epitometop_TopLeast.j2 k2 x11_2 t351 bt355.1 true t330 t331 t334 t341 t342 t345)) else (epitometop_TopLeast.j2 k2 x11_2 t351 bt355.1 true t330 t331 t334 t341 t342 t345))))))) else (none)) else (none)) = some r := by first | (rw [hji39] at H; exact H) | (simp only [hji39] at H ⊢; exact H)
         (try rw [hji39] at A38)
         have hji39w : (IntKind.i64.wrap (x11_2 + 1)) = ji39 := (i64_w _).trans hji39
         by_cases c40 : 0 ≤ (ji39)
         ·rw [if_pos c40] at H
          have c40b0 : decide (0 ≤ (ji39)) = true := decide_eq_true c40
          clear c40
          by_cases c41 : (ji39) < (t342.length : Int)
          ·rw [if_pos c41] at H
           have c41b0 : decide ((ji39) < (t342.length : Int)) = true := decide_eq_true c41
           clear c41
           replace H := Option.bind_eq_some_iff.mp H
           obtain ⟨⟨t355, t356, t357⟩, A420, H⟩ := H
           try dsimp only at H
           have A42 := am A420
           clear A420
           replace H := Option.bind_eq_some_iff.mp H
           obtain ⟨t359, A430, H⟩ := H
           try dsimp only at H
           have A43 := am A430
           clear A430
           by_cases c44 : t359 > 512
           ·rw [if_pos c44] at H
            have c44b0 : decide (512 < t359) = true := decide_eq_true c44
            clear c44
            have H' := am H
            clear H
            have hnb45 := NB349_328.out
            have hnc45 := NB328_349.out
            have hnb46 := NB349_337.out
            have hnc46 := NB337_349.out
            have hcz47_0 : wr.cell? ⟨gb349, 0, none⟩ = some (.string t341) := (blk_cell BK349.out 0).trans rfl
            have hcz47_1 : wr.cell? ⟨gb349, 1, none⟩ = some (.slice Ao25 t342.length co25) := (blk_cell BK349.out 1).trans rfl
            have hcz47_2 : wr.cell? ⟨gb349, 2, none⟩ = some (.slice Ao27 t345.length co27) := (blk_cell BK349.out 2).trans rfl
            have hfz47_0 := blk_frozen BK349.out 0
            have hfz47_1 := blk_frozen BK349.out 1
            have hfz47_2 := blk_frozen BK349.out 2
            try go_wp2
            have n0_ := am (Kd.R_drew HO_338001.out)
            have n1_ := am (Kd.S_drew HO_338002.out)
            have n2_ := am (Kd.R_drew HO_350001.out)
            have n3_ := am (Kd.S_drew HO_350002.out)
            have n4_ := am (blk_drew BK328.out)
            have n5_ := am (blk_drew BK337.out)
            have n6_ := am (blk_drew BK349.out)
            have n7_ := am (below_drew1 HB.out)
            clear HO_338001
            clear HO_338002
            clear HO_350001
            clear HO_350002
            clear BK328
            clear BK337
            clear BK349
            clear HB
            have HO_338001 := n0_
            have HO_338002 := n1_
            have HO_350001 := n2_
            have HO_350002 := n3_
            have BK328 := n4_
            have BK337 := n5_
            have BK349 := n6_
            have HB := n7_
            clear n0_ n1_ n2_ n3_ n4_ n5_ n6_ n7_
            have p350 : 0 ≤ (x11_2 : Int) := of_decide_eq_true as0
            have q350 : x11_2 < (t342.length : Int) := of_decide_eq_true as0
            obtain ⟨ad350, e350, hx350_0⟩ := Kd.at_int (Kd.R_reads' HO_350001.out).2.2 x11_2 p350 q350
            cases e350
            replace p350 := eq_true p350
            replace q350 := eq_true q350
            refine start_ (n := 15) (S := fun w' => w'.cell? ⟨gb337, 0, none⟩ = some (.string t330) ∧ w'.cell? ⟨gb337, 1, none⟩ = some (.slice Ao15 t331.length co15) ∧ w'.cell? ⟨gb337, 2, none⟩ = some (.slice Ao16 t334.length co16) ∧ w'.cell? ⟨gb349, 0, none⟩ = some (.string t341) ∧ w'.cell? ⟨gb349, 1, none⟩ = some (.slice (some ad350) t342.length co25) ∧ w'.cell? ⟨gb349, 2, none⟩ = some (.slice Ao27 t345.length co27) ∧ w'.cell? (ad350.add (x11_2).toNat) = some (.int .i64 (rd t342 x11_2))) (ds := []) #[false, false, false, false, false, false, false, false, false, false, false, false, false, false, false] (by kernel_rfl) rfl rfl ⟨(blk_cell BK337.out 0).trans rfl, (blk_cell BK337.out 1).trans rfl, (blk_cell BK337.out 2).trans rfl, (blk_cell BK349.out 0).trans rfl, (blk_cell BK349.out 1).trans rfl, (blk_cell BK349.out 2).trans rfl, hx350_0⟩ (fun hHeld => ?_); refine with_tabW epitometop_TopLeast.tab9 epitometop_TopLeast.bits9 (fun HT_ HW_ => ?_)
            generalize wr.drew = w48 at HO_338001 HO_338002 HO_350001 HO_350002 BK328 BK337 BK349 HB hx350_0 hHeld ⊢
            refine pure_ (i := 0) (N := some 62) #[true, false, false, false, false, false, false, false, false, false, false, false, false, false, false] rfl rfl (aT HT_.out) (fun _ _ _ h => h) (Or.inl ⟨rfl, rn⟩) ap ?_
            refine pure_ (i := 2) (N := some 64) #[true, false, true, false, false, false, false, false, false, false, false, false, false, false, false] rfl rfl (aT HT_.out) (fun _ _ _ h => h) (Or.inl ⟨rfl, rn⟩) ap ?_
            refine pure_ (i := 4) (N := some 66) #[true, false, true, false, true, false, false, false, false, false, false, false, false, false, false] rfl rfl (aT HT_.out) (fun _ _ _ h => h) (Or.inl ⟨rfl, rn⟩) ap ?_
            refine take_ (i := 1) (N := some 63) (v := ?_) (a' := ?_) #[true, true, true, false, true, false, false, false, false, false, false, false, false, false, false] rfl rfl (take_ofW HT_.out HW_.out (by kernel_rfl)) (fun _ _ _ h => h) (Or.inl ⟨by rfl, ?_⟩) hHeld ?_ ?_
            rotate_left
            ·rintro w' ⟨s0, s1, s2, s3, s4, s5, s6⟩
             go_simp
             with_reducible rfl
            rotate_left
            ·exact ap
            refine take_ (i := 3) (N := some 65) (v := ?_) (a' := ?_) #[true, true, true, true, true, false, false, false, false, false, false, false, false, false, false] rfl rfl (take_ofW HT_.out HW_.out (by kernel_rfl)) (fun _ _ _ h => h) (Or.inl ⟨by rfl, ?_⟩) hHeld ?_ ?_
            rotate_left
            ·rintro w' ⟨s0, s1, s2, s3, s4, s5, s6⟩
             go_simp
             with_reducible rfl
            rotate_left
            ·exact ap
            refine pure_ (i := 5) (N := some 67) #[true, true, true, true, true, true, false, false, false, false, false, false, false, false, false] rfl rfl (aT HT_.out) (fun _ _ _ h => h) (Or.inl ⟨rfl, rn⟩) ap ?_
            refine take_ (i := 6) (N := some 68) (v := ?_) (a' := ?_) #[true, true, true, true, true, true, true, false, false, false, false, false, false, false, false] rfl rfl (take_ofW HT_.out HW_.out (by kernel_rfl)) (fun _ _ _ h => h) (Or.inl ⟨by rfl, ?_⟩) hHeld ?_ ?_
            rotate_left
            ·rintro w' ⟨s0, s1, s2, s3, s4, s5, s6⟩
             go_simp
             with_reducible rfl
            rotate_left
            ·exact ap
            refine one_ (i := 7) (N := some 69) #[true, true, true, true, true, true, true, true, false, false, false, false, false, false, false] rfl rfl (one_of HT_.out (by kernel_rfl)) (by decide) (fun K hK => ?_)
            refine goes_ Tryd.func19 (by kernel_rfl) rfl #[.slice Ao15 t331.length co15, .int .i64 (rd t342 x11_2)] (by rfl) rfl rfl ar ?_
            with_reducible refine (seek_Find.calls _ _ t331 (rd t342 x11_2) t351 t352 t353 _ ?side1 ?side2 A38.out).mono ?_
            (case side1 => repeat (first | exact (Kd.R_reads' HO_338001.out).2.2 | (with_reducible refine Kd.C_alloc ?_ _) | (with_reducible refine Kd.C_drewN ?_ _) | (with_reducible refine Kd.C_drew ?_)))
            (case side2 => exact (Kd.R_reads' HO_338001.out).2.1)
            rintro e w49 ⟨rfl, hb⟩
            have HS6_ := (hb.cell (World.block_lt_of_cell? _ _ (hHeld.2.2.2.2.2.2))).trans (hHeld.2.2.2.2.2.2)
            refine ⟨_, rfl, ?_⟩
            have n0_ := am (Kd.R_below (by refine kR ?_; exact HO_338001.out) hb)
            have n1_ := am (Kd.S_below (by refine kS ?_; exact HO_338002.out) hb)
            have n2_ := am (Kd.R_below (by refine kR ?_; exact HO_350001.out) hb)
            have n3_ := am (Kd.S_below (by refine kS ?_; exact HO_350002.out) hb)
            have n4_ := am (blk_below (g := gb328) (o := .cells #[.slice A2_0 l2_0.length c2_0, .int .i64 a2_1] 40 (0, 0)) (by refine bk ?_; exact BK328.out) hb)
            have n5_ := am (blk_below (g := gb337) (o := .cells #[.string t330, .slice Ao15 t331.length co15, .slice Ao16 t334.length co16] 42 (0, 0)) (by refine bk ?_; exact BK337.out) hb)
            have n6_ := am (blk_below (g := gb349) (o := .cells #[.string t341, .slice (some ad350) t342.length co25, .slice Ao27 t345.length co27] 42 (0, 0)) (by refine bk ?_; exact BK349.out) hb)
            have n7_ := am (below_step bl hb)
            clear HO_338001
            clear HO_338002
            clear HO_350001
            clear HO_350002
            clear BK328
            clear BK337
            clear BK349
            clear HB
            have HO_338001 := n0_
            have HO_338002 := n1_
            have HO_350001 := n2_
            have HO_350002 := n3_
            have BK328 := n4_
            have BK337 := n5_
            have BK349 := n6_
            have HB := n7_
            clear n0_ n1_ n2_ n3_ n4_ n5_ n6_ n7_
            (try clear hb)
            (try clear hb2)
            (try clear hk)
            (try clear hi)
            refine hK.out _ _ ⟨(blk_cell BK337.out 0).trans rfl, (blk_cell BK337.out 1).trans rfl, (blk_cell BK337.out 2).trans rfl, (blk_cell BK349.out 0).trans rfl, (blk_cell BK349.out 1).trans rfl, (blk_cell BK349.out 2).trans rfl, HS6_⟩ (fun hHeld => ?_)
            clear hK K
            refine norm_ (a' := ?_) ?_ ?_
            rotate_left
            ·show Act.put _ (some 69) _ = _
             simp only [Act.put, List.setIfInBounds_toArray, List.set_cons_zero, List.set_cons_succ, i64_w, i32_w]
             rfl
            refine pure_ (i := 8) (N := some 61) #[true, true, true, true, true, true, true, true, true, false, false, false, false, false, false] rfl rfl (aT HT_.out) (fun _ _ _ h => h) (Or.inl ⟨rfl, rn⟩) ap ?_
            refine pure_ (i := 9) (N := some 70) #[true, true, true, true, true, true, true, true, true, true, false, false, false, false, false] rfl rfl (aT HT_.out) (fun _ _ _ h => h) (Or.inl ⟨rfl, rn⟩) ap ?_
            refine pure_ (i := 10) (N := some 71) #[true, true, true, true, true, true, true, true, true, true, true, false, false, false, false] rfl rfl (aT HT_.out) (fun _ _ _ h => h) (Or.inl ⟨rfl, rn⟩) ap ?_
            refine pure_ (i := 11) (N := some 72) #[true, true, true, true, true, true, true, true, true, true, true, true, false, false, false] rfl rfl (aT HT_.out) (fun _ _ _ h => h) (Or.inl ⟨rfl, rn⟩) ap ?_
            refine pure_ (i := 12) (N := some 12) #[true, true, true, true, true, true, true, true, true, true, true, true, true, false, false] rfl rfl (aT HT_.out) (fun _ _ _ h => h) (Or.inl ⟨rfl, rn⟩) ap ?_
            refine pure_ (i := 13) (N := some 13) #[true, true, true, true, true, true, true, true, true, true, true, true, true, true, false] rfl rfl (aT HT_.out) (fun _ _ _ h => h) (Or.inl ⟨rfl, rn⟩) ap ?_
            refine pure_ (i := 14) (N := some 14) #[true, true, true, true, true, true, true, true, true, true, true, true, true, true, true] rfl rfl (aT HT_.out) (fun _ _ _ h => h) (Or.inl ⟨rfl, rn⟩) ap ?_
            refine done_ (done_of HT_.out (by kernel_rfl)) ?_
            try go_wp2
            have n0_ := am (Kd.R_drew HO_338001.out)
            have n1_ := am (Kd.S_drew HO_338002.out)
            have n2_ := am (Kd.R_drew HO_350001.out)
            have n3_ := am (Kd.S_drew HO_350002.out)
            have n4_ := am (blk_drew BK328.out)
            have n5_ := am (blk_drew BK337.out)
            have n6_ := am (blk_drew BK349.out)
            have n7_ := am (below_drew1 HB.out)
            clear HO_338001
            clear HO_338002
            clear HO_350001
            clear HO_350002
            clear BK328
            clear BK337
            clear BK349
            clear HB
            have HO_338001 := n0_
            have HO_338002 := n1_
            have HO_350001 := n2_
            have HO_350002 := n3_
            have BK328 := n4_
            have BK337 := n5_
            have BK349 := n6_
            have HB := n7_
            clear n0_ n1_ n2_ n3_ n4_ n5_ n6_ n7_
            have p354 : 0 ≤ ((ji39) : Int) := of_decide_eq_true as0
            have q354 : (ji39) < (t342.length : Int) := of_decide_eq_true as0
            obtain ⟨ad354, e354, hx354_0⟩ := Kd.at_int (Kd.R_reads' HO_350001.out).2.2 (ji39) p354 q354
            obtain rfl : ad350 = ad354 := (by injection e354)
            replace p354 := eq_true p354
            replace q354 := eq_true q354
            refine start_ (n := 16) (S := fun w' => w'.cell? ⟨gb337, 0, none⟩ = some (.string t330) ∧ w'.cell? ⟨gb337, 1, none⟩ = some (.slice Ao15 t331.length co15) ∧ w'.cell? ⟨gb337, 2, none⟩ = some (.slice Ao16 t334.length co16) ∧ w'.cell? ⟨gb349, 0, none⟩ = some (.string t341) ∧ w'.cell? ⟨gb349, 1, none⟩ = some (.slice (some ad350) t342.length co25) ∧ w'.cell? ⟨gb349, 2, none⟩ = some (.slice Ao27 t345.length co27) ∧ w'.cell? (ad350.add ((ji39)).toNat) = some (.int .i64 (rd t342 (ji39)))) (ds := []) #[false, false, false, false, false, false, false, false, false, false, false, false, false, false, false, false] (by kernel_rfl) rfl rfl ⟨(blk_cell BK337.out 0).trans rfl, (blk_cell BK337.out 1).trans rfl, (blk_cell BK337.out 2).trans rfl, (blk_cell BK349.out 0).trans rfl, (blk_cell BK349.out 1).trans rfl, (blk_cell BK349.out 2).trans rfl, hx354_0⟩ (fun hHeld => ?_); refine with_tabW epitometop_TopLeast.tab10 epitometop_TopLeast.bits10 (fun HT_ HW_ => ?_)
            generalize w49.drew = w50 at HO_338001 HO_338002 HO_350001 HO_350002 BK328 BK337 BK349 HB hx354_0 hHeld ⊢
            refine pure_ (i := 0) (N := some 74) #[true, false, false, false, false, false, false, false, false, false, false, false, false, false, false, false] rfl rfl (aT HT_.out) (fun _ _ _ h => h) (Or.inl ⟨rfl, rn⟩) ap ?_
            refine pure_ (i := 2) (N := some 76) #[true, false, true, false, false, false, false, false, false, false, false, false, false, false, false, false] rfl rfl (aT HT_.out) (fun _ _ _ h => h) (Or.inl ⟨rfl, rn⟩) ap ?_
            refine pure_ (i := 4) (N := some 78) #[true, false, true, false, true, false, false, false, false, false, false, false, false, false, false, false] rfl rfl (aT HT_.out) (fun _ _ _ h => h) (Or.inl ⟨rfl, rn⟩) ap ?_
            refine pure_ (i := 5) (N := some 79) #[true, false, true, false, true, true, false, false, false, false, false, false, false, false, false, false] rfl rfl (aT HT_.out) (fun _ _ _ h => h) (Or.inl ⟨rfl, rn⟩) ap ?_
            refine take_ (i := 1) (N := some 75) (v := ?_) (a' := ?_) #[true, true, true, false, true, true, false, false, false, false, false, false, false, false, false, false] rfl rfl (take_ofW HT_.out HW_.out (by kernel_rfl)) (fun _ _ _ h => h) (Or.inl ⟨by rfl, ?_⟩) hHeld ?_ ?_
            rotate_left
            ·rintro w' ⟨s0, s1, s2, s3, s4, s5, s6⟩
             go_simp
             with_reducible rfl
            rotate_left
            ·exact ap
            refine take_ (i := 3) (N := some 77) (v := ?_) (a' := ?_) #[true, true, true, true, true, true, false, false, false, false, false, false, false, false, false, false] rfl rfl (take_ofW HT_.out HW_.out (by kernel_rfl)) (fun _ _ _ h => h) (Or.inl ⟨by rfl, ?_⟩) hHeld ?_ ?_
            rotate_left
            ·rintro w' ⟨s0, s1, s2, s3, s4, s5, s6⟩
             go_simp
             with_reducible rfl
            rotate_left
            ·exact ap
            refine pure_ (i := 6) (N := some 80) #[true, true, true, true, true, true, true, false, false, false, false, false, false, false, false, false] rfl rfl (aT HT_.out) (fun _ _ _ h => h) (Or.inl ⟨rfl, rn⟩) ap ?_
            refine take_ (i := 7) (N := some 81) (v := ?_) (a' := ?_) #[true, true, true, true, true, true, true, true, false, false, false, false, false, false, false, false] rfl rfl (take_ofW HT_.out HW_.out (by kernel_rfl)) (fun _ _ _ h => h) (Or.inl ⟨by rfl, ?_⟩) hHeld ?_ ?_
            rotate_left
            ·rintro w' ⟨s0, s1, s2, s3, s4, s5, s6⟩
             go_simp
             with_reducible rfl
            rotate_left
            ·exact ap
            refine one_ (i := 8) (N := some 82) #[true, true, true, true, true, true, true, true, true, false, false, false, false, false, false, false] rfl rfl (one_of HT_.out (by kernel_rfl)) (by decide) (fun K hK => ?_)
            refine goes_ Tryd.func19 (by kernel_rfl) rfl #[.slice Ao15 t331.length co15, .int .i64 (rd t342 (ji39))] (by rfl) rfl rfl (by (try simp only [List.map_toArray, List.map_cons, List.map_nil]); first | done | (simp only [hji39]; rfl) | rfl | (simp only [List.length_drop, List.length_take]; rfl)) ?_
            with_reducible refine (seek_Find.calls _ _ t331 (rd t342 (ji39)) t355 t356 t357 _ ?side1 ?side2 A42.out).mono ?_
            (case side1 => repeat (first | exact (Kd.R_reads' HO_338001.out).2.2 | (with_reducible refine Kd.C_alloc ?_ _) | (with_reducible refine Kd.C_drewN ?_ _) | (with_reducible refine Kd.C_drew ?_)))
            (case side2 => exact (Kd.R_reads' HO_338001.out).2.1)
            rintro e w51 ⟨rfl, hb⟩
            have HS6_ := (hb.cell (World.block_lt_of_cell? _ _ (hHeld.2.2.2.2.2.2))).trans (hHeld.2.2.2.2.2.2)
            refine ⟨_, rfl, ?_⟩
            have n0_ := am (Kd.R_below (by refine kR ?_; exact HO_338001.out) hb)
            have n1_ := am (Kd.S_below (by refine kS ?_; exact HO_338002.out) hb)
            have n2_ := am (Kd.R_below (by refine kR ?_; exact HO_350001.out) hb)
            have n3_ := am (Kd.S_below (by refine kS ?_; exact HO_350002.out) hb)
            have n4_ := am (blk_below (g := gb328) (o := .cells #[.slice A2_0 l2_0.length c2_0, .int .i64 a2_1] 40 (0, 0)) (by refine bk ?_; exact BK328.out) hb)
            have n5_ := am (blk_below (g := gb337) (o := .cells #[.string t330, .slice Ao15 t331.length co15, .slice Ao16 t334.length co16] 42 (0, 0)) (by refine bk ?_; exact BK337.out) hb)
            have n6_ := am (blk_below (g := gb349) (o := .cells #[.string t341, .slice (some ad350) t342.length co25, .slice Ao27 t345.length co27] 42 (0, 0)) (by refine bk ?_; exact BK349.out) hb)
            have n7_ := am (below_step bl hb)
            clear HO_338001
            clear HO_338002
            clear HO_350001
            clear HO_350002
            clear BK328
            clear BK337
            clear BK349
            clear HB
            have HO_338001 := n0_
            have HO_338002 := n1_
            have HO_350001 := n2_
            have HO_350002 := n3_
            have BK328 := n4_
            have BK337 := n5_
            have BK349 := n6_
            have HB := n7_
            clear n0_ n1_ n2_ n3_ n4_ n5_ n6_ n7_
            (try clear hb)
            (try clear hb2)
            (try clear hk)
            (try clear hi)
            refine hK.out _ _ ⟨(blk_cell BK337.out 0).trans rfl, (blk_cell BK337.out 1).trans rfl, (blk_cell BK337.out 2).trans rfl, (blk_cell BK349.out 0).trans rfl, (blk_cell BK349.out 1).trans rfl, (blk_cell BK349.out 2).trans rfl, HS6_⟩ (fun hHeld => ?_)
            clear hK K
            refine norm_ (a' := ?_) ?_ ?_
            rotate_left
            ·show Act.put _ (some 82) _ = _
             simp only [Act.put, List.setIfInBounds_toArray, List.set_cons_zero, List.set_cons_succ, i64_w, i32_w]
             rfl
            refine pure_ (i := 9) (N := some 73) #[true, true, true, true, true, true, true, true, true, true, false, false, false, false, false, false] rfl rfl (aT HT_.out) (fun _ _ _ h => h) (Or.inl ⟨rfl, rn⟩) ap ?_
            refine pure_ (i := 10) (N := some 83) #[true, true, true, true, true, true, true, true, true, true, true, false, false, false, false, false] rfl rfl (aT HT_.out) (fun _ _ _ h => h) (Or.inl ⟨rfl, rn⟩) ap ?_
            refine pure_ (i := 11) (N := some 84) #[true, true, true, true, true, true, true, true, true, true, true, true, false, false, false, false] rfl rfl (aT HT_.out) (fun _ _ _ h => h) (Or.inl ⟨rfl, rn⟩) ap ?_
            refine pure_ (i := 12) (N := some 85) #[true, true, true, true, true, true, true, true, true, true, true, true, true, false, false, false] rfl rfl (aT HT_.out) (fun _ _ _ h => h) (Or.inl ⟨rfl, rn⟩) ap ?_
            refine pure_ (i := 13) (N := some 15) #[true, true, true, true, true, true, true, true, true, true, true, true, true, true, false, false] rfl rfl (aT HT_.out) (fun _ _ _ h => h) (Or.inl ⟨rfl, rn⟩) ap ?_
            refine pure_ (i := 14) (N := some 16) #[true, true, true, true, true, true, true, true, true, true, true, true, true, true, true, false] rfl rfl (aT HT_.out) (fun _ _ _ h => h) (Or.inl ⟨rfl, rn⟩) ap ?_
            refine pure_ (i := 15) (N := some 17) #[true, true, true, true, true, true, true, true, true, true, true, true, true, true, true, true] rfl rfl (aT HT_.out) (fun _ _ _ h => h) (Or.inl ⟨rfl, rn⟩) ap ?_
            refine done_ (done_of HT_.out (by kernel_rfl)) ?_
            have hcz52_0 : w51.cell? ⟨gb349, 0, none⟩ = some (.string t341) := (blk_cell BK349.out 0).trans rfl
            have hcz52_1 : w51.cell? ⟨gb349, 1, none⟩ = some (.slice (some ad350) t342.length co25) := (blk_cell BK349.out 1).trans rfl
            have hcz52_2 : w51.cell? ⟨gb349, 2, none⟩ = some (.slice Ao27 t345.length co27) := (blk_cell BK349.out 2).trans rfl
            have hfz52_0 := blk_frozen BK349.out 0
            have hfz52_1 := blk_frozen BK349.out 1
            have hfz52_2 := blk_frozen BK349.out 2
            have p358 : 0 ≤ (x11_2 : Int) := of_decide_eq_true as0
            have q358 : x11_2 < (t345.length : Int) := of_decide_eq_true as0
            obtain ⟨ad358, A358_0, c358_0, e358, hx358_0, hl358_0, hi358_0⟩ := at_L3 (Kd.S_reads' HO_350002.out).2.2 x11_2 p358 q358
            cases e358
            obtain ⟨ce358, hce358, hMe358, hcc358⟩ := Kd.S_get HO_350002.out [] x11_2 p358 (by first | exact q358 | exact of_decide_eq_true as0 | (have e_ := (Kd.S_reads' HO_350002.out).1; omega))
            obtain ⟨ve358_0, rfl, ge358_0⟩ := hMe358
            have hv358_0 := hcc358 0 _ rfl
            rw [Nat.add_zero, show ((Kd.slice 25 k25)).sz = 1 from rfl, Nat.mul_one] at hv358_0
            replace hv358_0 := Option.some.inj (hv358_0.symm.trans hx358_0)
            rw [hv358_0] at ge358_0
            have HL358_0 := am (show Kd.R k25 25 _ _ _ _ (rd_L3 t345 x11_2) from ge358_0)
            clear hv358_0 ge358_0
            clear hcc358 hce358
            have HR358_0 := am hi358_0
            have HC358_0 := am hl358_0
            clear hi358_0 hl358_0
            replace p358 := eq_true p358
            replace q358 := eq_true q358
            try go_wp2_with (first | ((with_reducible refine gate_callee (f := 20) rfl ?_); refine goesL_ (some 91) rfl rfl Tryd.func20 (by kernel_rfl) rfl #[.slice A358_0 (rd_L3 t345 x11_2).length c358_0] rfl ar ?_; (with_reducible refine (op_In.calls _ _ (rd_L3 t345 x11_2) t359 _ ?side1 ?side2 ?side3 A43.out).mono ?_); (case side1 => repeat (first | exact (by repeat (first | (with_reducible exact HR358_0.out) | (with_reducible refine Kd.C_alloc ?_ _) | (with_reducible refine Kd.C_drewN ?_ _) | (with_reducible refine Kd.C_drew ?_) | exact HR358_0.out)) | (with_reducible refine Kd.C_alloc ?_ _) | (with_reducible refine Kd.C_drewN ?_ _) | (with_reducible refine Kd.C_drew ?_))); (case side2 => exact HC358_0.out); (case side3 => exact Tabs.below HT.out bl); rintro e w53 ⟨rfl, hb⟩; refine ⟨_, rfl, ?_⟩; have n0_ := am (Kd.R_below (by refine kR ?_; exact HO_338001.out) hb); have n1_ := am (Kd.S_below (by refine kS ?_; exact HO_338002.out) hb); have n2_ := am (Kd.R_below (by refine kR ?_; exact HO_350001.out) hb); have n3_ := am (Kd.S_below (by refine kS ?_; exact HO_350002.out) hb); have n4_ := am (Kd.R_below (by refine kR ?_; exact HL358_0.out) hb); have n5_ := am (blk_below (g := gb328) (o := .cells #[.slice A2_0 l2_0.length c2_0, .int .i64 a2_1] 40 (0, 0)) (by refine bk ?_; exact BK328.out) hb); have n6_ := am (blk_below (g := gb337) (o := .cells #[.string t330, .slice Ao15 t331.length co15, .slice Ao16 t334.length co16] 42 (0, 0)) (by refine bk ?_; exact BK337.out) hb); have n7_ := am (blk_below (g := gb349) (o := .cells #[.string t341, .slice (some ad350) t342.length co25, .slice (some ad358) t345.length co27] 42 (0, 0)) (by refine bk ?_; exact BK349.out) hb); have n8_ := am (Kd.C_below (by repeat (first | (with_reducible exact HR358_0.out) | (with_reducible refine Kd.C_alloc ?_ _) | (with_reducible refine Kd.C_drewN ?_ _) | (with_reducible refine Kd.C_drew ?_) | exact HR358_0.out)) hb); have n9_ := am (below_step bl hb); clear HO_338001; clear HO_338002; clear HO_350001; clear HO_350002; clear HL358_0; clear BK328; clear BK337; clear BK349; clear HR358_0; clear HB; have HO_338001 := n0_; have HO_338002 := n1_; have HO_350001 := n2_; have HO_350002 := n3_; have HL358_0 := n4_; have BK328 := n5_; have BK337 := n6_; have BK349 := n7_; have HR358_0 := n8_; have HB := n9_; clear n0_ n1_ n2_ n3_ n4_ n5_ n6_ n7_ n8_ n9_; (try clear hb); (try clear hb2); (try clear hk); (try clear hi)))
            go_roundg k2
            case measure => have := HJ7.out; have := HK2.out; omega
            case rel => exact ⟨(ji39), (by first | rfl | (simp; done) | (simp only [← hji39] <;> (first | rfl | simp)) | (simp [*]; done)), H', ⟨by have := HJ7.out; have := HK2.out; omega⟩, ⟨by refine kR ?_; exact HO_338001.out⟩, ⟨by refine kS ?_; exact HO_338002.out⟩, ⟨by refine kR ?_; exact HO_350001.out⟩, ⟨by refine kS ?_; exact HO_350002.out⟩, ⟨by refine bk ?_; exact BK328.out⟩, ⟨by refine bk ?_; exact BK337.out⟩, ⟨by refine bk ?_; exact BK349.out⟩, ⟨bl⟩⟩
           ·rw [if_neg c44] at H
            have c44b0 : decide (512 < t359) = false := decide_eq_false c44
            clear c44
            replace H := Option.bind_eq_some_iff.mp H
            obtain ⟨⟨t361, t364, t367⟩, A540, H⟩ := H
            try dsimp only at H
            have A54 := am A540
            clear A540
            replace H := Option.bind_eq_some_iff.mp H
            obtain ⟨⟨t369, t372⟩, A550, H⟩ := H
            try dsimp only at H
            have A55 := am A550
            clear A550
            have HC56 := am H
            clear H
            have hnb57 := NB349_328.out
            have hnc57 := NB328_349.out
            have hnb58 := NB349_337.out
            have hnc58 := NB337_349.out
            have hcz59_0 : wr.cell? ⟨gb349, 0, none⟩ = some (.string t341) := (blk_cell BK349.out 0).trans rfl
            have hcz59_1 : wr.cell? ⟨gb349, 1, none⟩ = some (.slice Ao25 t342.length co25) := (blk_cell BK349.out 1).trans rfl
            have hcz59_2 : wr.cell? ⟨gb349, 2, none⟩ = some (.slice Ao27 t345.length co27) := (blk_cell BK349.out 2).trans rfl
            have hfz59_0 := blk_frozen BK349.out 0
            have hfz59_1 := blk_frozen BK349.out 1
            have hfz59_2 := blk_frozen BK349.out 2
            try go_wp2
            have n0_ := am (Kd.R_drew HO_338001.out)
            have n1_ := am (Kd.S_drew HO_338002.out)
            have n2_ := am (Kd.R_drew HO_350001.out)
            have n3_ := am (Kd.S_drew HO_350002.out)
            have n4_ := am (blk_drew BK328.out)
            have n5_ := am (blk_drew BK337.out)
            have n6_ := am (blk_drew BK349.out)
            have n7_ := am (below_drew1 HB.out)
            clear HO_338001
            clear HO_338002
            clear HO_350001
            clear HO_350002
            clear BK328
            clear BK337
            clear BK349
            clear HB
            have HO_338001 := n0_
            have HO_338002 := n1_
            have HO_350001 := n2_
            have HO_350002 := n3_
            have BK328 := n4_
            have BK337 := n5_
            have BK349 := n6_
            have HB := n7_
            clear n0_ n1_ n2_ n3_ n4_ n5_ n6_ n7_
            have p350 : 0 ≤ (x11_2 : Int) := of_decide_eq_true as0
            have q350 : x11_2 < (t342.length : Int) := of_decide_eq_true as0
            obtain ⟨ad350, e350, hx350_0⟩ := Kd.at_int (Kd.R_reads' HO_350001.out).2.2 x11_2 p350 q350
            cases e350
            replace p350 := eq_true p350
            replace q350 := eq_true q350
            refine start_ (n := 15) (S := fun w' => w'.cell? ⟨gb337, 0, none⟩ = some (.string t330) ∧ w'.cell? ⟨gb337, 1, none⟩ = some (.slice Ao15 t331.length co15) ∧ w'.cell? ⟨gb337, 2, none⟩ = some (.slice Ao16 t334.length co16) ∧ w'.cell? ⟨gb349, 0, none⟩ = some (.string t341) ∧ w'.cell? ⟨gb349, 1, none⟩ = some (.slice (some ad350) t342.length co25) ∧ w'.cell? ⟨gb349, 2, none⟩ = some (.slice Ao27 t345.length co27) ∧ w'.cell? (ad350.add (x11_2).toNat) = some (.int .i64 (rd t342 x11_2))) (ds := []) #[false, false, false, false, false, false, false, false, false, false, false, false, false, false, false] (by kernel_rfl) rfl rfl ⟨(blk_cell BK337.out 0).trans rfl, (blk_cell BK337.out 1).trans rfl, (blk_cell BK337.out 2).trans rfl, (blk_cell BK349.out 0).trans rfl, (blk_cell BK349.out 1).trans rfl, (blk_cell BK349.out 2).trans rfl, hx350_0⟩ (fun hHeld => ?_); refine with_tabW epitometop_TopLeast.tab9 epitometop_TopLeast.bits9 (fun HT_ HW_ => ?_)
            generalize wr.drew = w60 at HO_338001 HO_338002 HO_350001 HO_350002 BK328 BK337 BK349 HB hx350_0 hHeld ⊢
            refine pure_ (i := 0) (N := some 62) #[true, false, false, false, false, false, false, false, false, false, false, false, false, false, false] rfl rfl (aT HT_.out) (fun _ _ _ h => h) (Or.inl ⟨rfl, rn⟩) ap ?_
            refine pure_ (i := 2) (N := some 64) #[true, false, true, false, false, false, false, false, false, false, false, false, false, false, false] rfl rfl (aT HT_.out) (fun _ _ _ h => h) (Or.inl ⟨rfl, rn⟩) ap ?_
            refine pure_ (i := 4) (N := some 66) #[true, false, true, false, true, false, false, false, false, false, false, false, false, false, false] rfl rfl (aT HT_.out) (fun _ _ _ h => h) (Or.inl ⟨rfl, rn⟩) ap ?_
            refine take_ (i := 1) (N := some 63) (v := ?_) (a' := ?_) #[true, true, true, false, true, false, false, false, false, false, false, false, false, false, false] rfl rfl (take_ofW HT_.out HW_.out (by kernel_rfl)) (fun _ _ _ h => h) (Or.inl ⟨by rfl, ?_⟩) hHeld ?_ ?_
            rotate_left
            ·rintro w' ⟨s0, s1, s2, s3, s4, s5, s6⟩
             go_simp
             with_reducible rfl
            rotate_left
            ·exact ap
            refine take_ (i := 3) (N := some 65) (v := ?_) (a' := ?_) #[true, true, true, true, true, false, false, false, false, false, false, false, false, false, false] rfl rfl (take_ofW HT_.out HW_.out (by kernel_rfl)) (fun _ _ _ h => h) (Or.inl ⟨by rfl, ?_⟩) hHeld ?_ ?_
            rotate_left
            ·rintro w' ⟨s0, s1, s2, s3, s4, s5, s6⟩
             go_simp
             with_reducible rfl
            rotate_left
            ·exact ap
            refine pure_ (i := 5) (N := some 67) #[true, true, true, true, true, true, false, false, false, false, false, false, false, false, false] rfl rfl (aT HT_.out) (fun _ _ _ h => h) (Or.inl ⟨rfl, rn⟩) ap ?_
            refine take_ (i := 6) (N := some 68) (v := ?_) (a' := ?_) #[true, true, true, true, true, true, true, false, false, false, false, false, false, false, false] rfl rfl (take_ofW HT_.out HW_.out (by kernel_rfl)) (fun _ _ _ h => h) (Or.inl ⟨by rfl, ?_⟩) hHeld ?_ ?_
            rotate_left
            ·rintro w' ⟨s0, s1, s2, s3, s4, s5, s6⟩
             go_simp
             with_reducible rfl
            rotate_left
            ·exact ap
            refine one_ (i := 7) (N := some 69) #[true, true, true, true, true, true, true, true, false, false, false, false, false, false, false] rfl rfl (one_of HT_.out (by kernel_rfl)) (by decide) (fun K hK => ?_)
            refine goes_ Tryd.func19 (by kernel_rfl) rfl #[.slice Ao15 t331.length co15, .int .i64 (rd t342 x11_2)] (by rfl) rfl rfl ar ?_
            with_reducible refine (seek_Find.calls _ _ t331 (rd t342 x11_2) t351 t352 t353 _ ?side1 ?side2 A38.out).mono ?_
            (case side1 => repeat (first | exact (Kd.R_reads' HO_338001.out).2.2 | (with_reducible refine Kd.C_alloc ?_ _) | (with_reducible refine Kd.C_drewN ?_ _) | (with_reducible refine Kd.C_drew ?_)))
            (case side2 => exact (Kd.R_reads' HO_338001.out).2.1)
            rintro e w61 ⟨rfl, hb⟩
            have HS6_ := (hb.cell (World.block_lt_of_cell? _ _ (hHeld.2.2.2.2.2.2))).trans (hHeld.2.2.2.2.2.2)
            refine ⟨_, rfl, ?_⟩
            have n0_ := am (Kd.R_below (by refine kR ?_; exact HO_338001.out) hb)
            have n1_ := am (Kd.S_below (by refine kS ?_; exact HO_338002.out) hb)
            have n2_ := am (Kd.R_below (by refine kR ?_; exact HO_350001.out) hb)
            have n3_ := am (Kd.S_below (by refine kS ?_; exact HO_350002.out) hb)
            have n4_ := am (blk_below (g := gb328) (o := .cells #[.slice A2_0 l2_0.length c2_0, .int .i64 a2_1] 40 (0, 0)) (by refine bk ?_; exact BK328.out) hb)
            have n5_ := am (blk_below (g := gb337) (o := .cells #[.string t330, .slice Ao15 t331.length co15, .slice Ao16 t334.length co16] 42 (0, 0)) (by refine bk ?_; exact BK337.out) hb)
            have n6_ := am (blk_below (g := gb349) (o := .cells #[.string t341, .slice (some ad350) t342.length co25, .slice Ao27 t345.length co27] 42 (0, 0)) (by refine bk ?_; exact BK349.out) hb)
            have n7_ := am (below_step bl hb)
            clear HO_338001
            clear HO_338002
            clear HO_350001
            clear HO_350002
            clear BK328
            clear BK337
            clear BK349
            clear HB
            have HO_338001 := n0_
            have HO_338002 := n1_
            have HO_350001 := n2_
            have HO_350002 := n3_
            have BK328 := n4_
            have BK337 := n5_
            have BK349 := n6_
            have HB := n7_
            clear n0_ n1_ n2_ n3_ n4_ n5_ n6_ n7_
            (try clear hb)
            (try clear hb2)
            (try clear hk)
            (try clear hi)
            refine hK.out _ _ ⟨(blk_cell BK337.out 0).trans rfl, (blk_cell BK337.out 1).trans rfl, (blk_cell BK337.out 2).trans rfl, (blk_cell BK349.out 0).trans rfl, (blk_cell BK349.out 1).trans rfl, (blk_cell BK349.out 2).trans rfl, HS6_⟩ (fun hHeld => ?_)
            clear hK K
            refine norm_ (a' := ?_) ?_ ?_
            rotate_left
            ·show Act.put _ (some 69) _ = _
             simp only [Act.put, List.setIfInBounds_toArray, List.set_cons_zero, List.set_cons_succ, i64_w, i32_w]
             rfl
            refine pure_ (i := 8) (N := some 61) #[true, true, true, true, true, true, true, true, true, false, false, false, false, false, false] rfl rfl (aT HT_.out) (fun _ _ _ h => h) (Or.inl ⟨rfl, rn⟩) ap ?_
            refine pure_ (i := 9) (N := some 70) #[true, true, true, true, true, true, true, true, true, true, false, false, false, false, false] rfl rfl (aT HT_.out) (fun _ _ _ h => h) (Or.inl ⟨rfl, rn⟩) ap ?_
            refine pure_ (i := 10) (N := some 71) #[true, true, true, true, true, true, true, true, true, true, true, false, false, false, false] rfl rfl (aT HT_.out) (fun _ _ _ h => h) (Or.inl ⟨rfl, rn⟩) ap ?_
            refine pure_ (i := 11) (N := some 72) #[true, true, true, true, true, true, true, true, true, true, true, true, false, false, false] rfl rfl (aT HT_.out) (fun _ _ _ h => h) (Or.inl ⟨rfl, rn⟩) ap ?_
            refine pure_ (i := 12) (N := some 12) #[true, true, true, true, true, true, true, true, true, true, true, true, true, false, false] rfl rfl (aT HT_.out) (fun _ _ _ h => h) (Or.inl ⟨rfl, rn⟩) ap ?_
            refine pure_ (i := 13) (N := some 13) #[true, true, true, true, true, true, true, true, true, true, true, true, true, true, false] rfl rfl (aT HT_.out) (fun _ _ _ h => h) (Or.inl ⟨rfl, rn⟩) ap ?_
            refine pure_ (i := 14) (N := some 14) #[true, true, true, true, true, true, true, true, true, true, true, true, true, true, true] rfl rfl (aT HT_.out) (fun _ _ _ h => h) (Or.inl ⟨rfl, rn⟩) ap ?_
            refine done_ (done_of HT_.out (by kernel_rfl)) ?_
            try go_wp2
            have n0_ := am (Kd.R_drew HO_338001.out)
            have n1_ := am (Kd.S_drew HO_338002.out)
            have n2_ := am (Kd.R_drew HO_350001.out)
            have n3_ := am (Kd.S_drew HO_350002.out)
            have n4_ := am (blk_drew BK328.out)
            have n5_ := am (blk_drew BK337.out)
            have n6_ := am (blk_drew BK349.out)
            have n7_ := am (below_drew1 HB.out)
            clear HO_338001
            clear HO_338002
            clear HO_350001
            clear HO_350002
            clear BK328
            clear BK337
            clear BK349
            clear HB
            have HO_338001 := n0_
            have HO_338002 := n1_
            have HO_350001 := n2_
            have HO_350002 := n3_
            have BK328 := n4_
            have BK337 := n5_
            have BK349 := n6_
            have HB := n7_
            clear n0_ n1_ n2_ n3_ n4_ n5_ n6_ n7_
            have p354 : 0 ≤ ((ji39) : Int) := of_decide_eq_true as0
            have q354 : (ji39) < (t342.length : Int) := of_decide_eq_true as0
            obtain ⟨ad354, e354, hx354_0⟩ := Kd.at_int (Kd.R_reads' HO_350001.out).2.2 (ji39) p354 q354
            obtain rfl : ad350 = ad354 := (by injection e354)
            replace p354 := eq_true p354
            replace q354 := eq_true q354
            refine start_ (n := 16) (S := fun w' => w'.cell? ⟨gb337, 0, none⟩ = some (.string t330) ∧ w'.cell? ⟨gb337, 1, none⟩ = some (.slice Ao15 t331.length co15) ∧ w'.cell? ⟨gb337, 2, none⟩ = some (.slice Ao16 t334.length co16) ∧ w'.cell? ⟨gb349, 0, none⟩ = some (.string t341) ∧ w'.cell? ⟨gb349, 1, none⟩ = some (.slice (some ad350) t342.length co25) ∧ w'.cell? ⟨gb349, 2, none⟩ = some (.slice Ao27 t345.length co27) ∧ w'.cell? (ad350.add ((ji39)).toNat) = some (.int .i64 (rd t342 (ji39)))) (ds := []) #[false, false, false, false, false, false, false, false, false, false, false, false, false, false, false, false] (by kernel_rfl) rfl rfl ⟨(blk_cell BK337.out 0).trans rfl, (blk_cell BK337.out 1).trans rfl, (blk_cell BK337.out 2).trans rfl, (blk_cell BK349.out 0).trans rfl, (blk_cell BK349.out 1).trans rfl, (blk_cell BK349.out 2).trans rfl, hx354_0⟩ (fun hHeld => ?_); refine with_tabW epitometop_TopLeast.tab10 epitometop_TopLeast.bits10 (fun HT_ HW_ => ?_)
            generalize w61.drew = w62 at HO_338001 HO_338002 HO_350001 HO_350002 BK328 BK337 BK349 HB hx354_0 hHeld ⊢
            refine pure_ (i := 0) (N := some 74) #[true, false, false, false, false, false, false, false, false, false, false, false, false, false, false, false] rfl rfl (aT HT_.out) (fun _ _ _ h => h) (Or.inl ⟨rfl, rn⟩) ap ?_
            refine pure_ (i := 2) (N := some 76) #[true, false, true, false, false, false, false, false, false, false, false, false, false, false, false, false] rfl rfl (aT HT_.out) (fun _ _ _ h => h) (Or.inl ⟨rfl, rn⟩) ap ?_
            refine pure_ (i := 4) (N := some 78) #[true, false, true, false, true, false, false, false, false, false, false, false, false, false, false, false] rfl rfl (aT HT_.out) (fun _ _ _ h => h) (Or.inl ⟨rfl, rn⟩) ap ?_
            refine pure_ (i := 5) (N := some 79) #[true, false, true, false, true, true, false, false, false, false, false, false, false, false, false, false] rfl rfl (aT HT_.out) (fun _ _ _ h => h) (Or.inl ⟨rfl, rn⟩) ap ?_
            refine take_ (i := 1) (N := some 75) (v := ?_) (a' := ?_) #[true, true, true, false, true, true, false, false, false, false, false, false, false, false, false, false] rfl rfl (take_ofW HT_.out HW_.out (by kernel_rfl)) (fun _ _ _ h => h) (Or.inl ⟨by rfl, ?_⟩) hHeld ?_ ?_
            rotate_left
            ·rintro w' ⟨s0, s1, s2, s3, s4, s5, s6⟩
             go_simp
             with_reducible rfl
            rotate_left
            ·exact ap
            refine take_ (i := 3) (N := some 77) (v := ?_) (a' := ?_) #[true, true, true, true, true, true, false, false, false, false, false, false, false, false, false, false] rfl rfl (take_ofW HT_.out HW_.out (by kernel_rfl)) (fun _ _ _ h => h) (Or.inl ⟨by rfl, ?_⟩) hHeld ?_ ?_
            rotate_left
            ·rintro w' ⟨s0, s1, s2, s3, s4, s5, s6⟩
             go_simp
             with_reducible rfl
            rotate_left
            ·exact ap
            refine pure_ (i := 6) (N := some 80) #[true, true, true, true, true, true, true, false, false, false, false, false, false, false, false, false] rfl rfl (aT HT_.out) (fun _ _ _ h => h) (Or.inl ⟨rfl, rn⟩) ap ?_
            refine take_ (i := 7) (N := some 81) (v := ?_) (a' := ?_) #[true, true, true, true, true, true, true, true, false, false, false, false, false, false, false, false] rfl rfl (take_ofW HT_.out HW_.out (by kernel_rfl)) (fun _ _ _ h => h) (Or.inl ⟨by rfl, ?_⟩) hHeld ?_ ?_
            rotate_left
            ·rintro w' ⟨s0, s1, s2, s3, s4, s5, s6⟩
             go_simp
             with_reducible rfl
            rotate_left
            ·exact ap
            refine one_ (i := 8) (N := some 82) #[true, true, true, true, true, true, true, true, true, false, false, false, false, false, false, false] rfl rfl (one_of HT_.out (by kernel_rfl)) (by decide) (fun K hK => ?_)
            refine goes_ Tryd.func19 (by kernel_rfl) rfl #[.slice Ao15 t331.length co15, .int .i64 (rd t342 (ji39))] (by rfl) rfl rfl (by (try simp only [List.map_toArray, List.map_cons, List.map_nil]); first | done | (simp only [hji39]; rfl) | rfl | (simp only [List.length_drop, List.length_take]; rfl)) ?_
            with_reducible refine (seek_Find.calls _ _ t331 (rd t342 (ji39)) t355 t356 t357 _ ?side1 ?side2 A42.out).mono ?_
            (case side1 => repeat (first | exact (Kd.R_reads' HO_338001.out).2.2 | (with_reducible refine Kd.C_alloc ?_ _) | (with_reducible refine Kd.C_drewN ?_ _) | (with_reducible refine Kd.C_drew ?_)))
            (case side2 => exact (Kd.R_reads' HO_338001.out).2.1)
            rintro e w63 ⟨rfl, hb⟩
            have HS6_ := (hb.cell (World.block_lt_of_cell? _ _ (hHeld.2.2.2.2.2.2))).trans (hHeld.2.2.2.2.2.2)
            refine ⟨_, rfl, ?_⟩
            have n0_ := am (Kd.R_below (by refine kR ?_; exact HO_338001.out) hb)
            have n1_ := am (Kd.S_below (by refine kS ?_; exact HO_338002.out) hb)
            have n2_ := am (Kd.R_below (by refine kR ?_; exact HO_350001.out) hb)
            have n3_ := am (Kd.S_below (by refine kS ?_; exact HO_350002.out) hb)
            have n4_ := am (blk_below (g := gb328) (o := .cells #[.slice A2_0 l2_0.length c2_0, .int .i64 a2_1] 40 (0, 0)) (by refine bk ?_; exact BK328.out) hb)
            have n5_ := am (blk_below (g := gb337) (o := .cells #[.string t330, .slice Ao15 t331.length co15, .slice Ao16 t334.length co16] 42 (0, 0)) (by refine bk ?_; exact BK337.out) hb)
            have n6_ := am (blk_below (g := gb349) (o := .cells #[.string t341, .slice (some ad350) t342.length co25, .slice Ao27 t345.length co27] 42 (0, 0)) (by refine bk ?_; exact BK349.out) hb)
            have n7_ := am (below_step bl hb)
            clear HO_338001
            clear HO_338002
            clear HO_350001
            clear HO_350002
            clear BK328
            clear BK337
            clear BK349
            clear HB
            have HO_338001 := n0_
            have HO_338002 := n1_
            have HO_350001 := n2_
            have HO_350002 := n3_
            have BK328 := n4_
            have BK337 := n5_
            have BK349 := n6_
            have HB := n7_
            clear n0_ n1_ n2_ n3_ n4_ n5_ n6_ n7_
            (try clear hb)
            (try clear hb2)
            (try clear hk)
            (try clear hi)
            refine hK.out _ _ ⟨(blk_cell BK337.out 0).trans rfl, (blk_cell BK337.out 1).trans rfl, (blk_cell BK337.out 2).trans rfl, (blk_cell BK349.out 0).trans rfl, (blk_cell BK349.out 1).trans rfl, (blk_cell BK349.out 2).trans rfl, HS6_⟩ (fun hHeld => ?_)
            clear hK K
            refine norm_ (a' := ?_) ?_ ?_
            rotate_left
            ·show Act.put _ (some 82) _ = _
             simp only [Act.put, List.setIfInBounds_toArray, List.set_cons_zero, List.set_cons_succ, i64_w, i32_w]
             rfl
            refine pure_ (i := 9) (N := some 73) #[true, true, true, true, true, true, true, true, true, true, false, false, false, false, false, false] rfl rfl (aT HT_.out) (fun _ _ _ h => h) (Or.inl ⟨rfl, rn⟩) ap ?_
            refine pure_ (i := 10) (N := some 83) #[true, true, true, true, true, true, true, true, true, true, true, false, false, false, false, false] rfl rfl (aT HT_.out) (fun _ _ _ h => h) (Or.inl ⟨rfl, rn⟩) ap ?_
            refine pure_ (i := 11) (N := some 84) #[true, true, true, true, true, true, true, true, true, true, true, true, false, false, false, false] rfl rfl (aT HT_.out) (fun _ _ _ h => h) (Or.inl ⟨rfl, rn⟩) ap ?_
            refine pure_ (i := 12) (N := some 85) #[true, true, true, true, true, true, true, true, true, true, true, true, true, false, false, false] rfl rfl (aT HT_.out) (fun _ _ _ h => h) (Or.inl ⟨rfl, rn⟩) ap ?_
            refine pure_ (i := 13) (N := some 15) #[true, true, true, true, true, true, true, true, true, true, true, true, true, true, false, false] rfl rfl (aT HT_.out) (fun _ _ _ h => h) (Or.inl ⟨rfl, rn⟩) ap ?_
            refine pure_ (i := 14) (N := some 16) #[true, true, true, true, true, true, true, true, true, true, true, true, true, true, true, false] rfl rfl (aT HT_.out) (fun _ _ _ h => h) (Or.inl ⟨rfl, rn⟩) ap ?_
            refine pure_ (i := 15) (N := some 17) #[true, true, true, true, true, true, true, true, true, true, true, true, true, true, true, true] rfl rfl (aT HT_.out) (fun _ _ _ h => h) (Or.inl ⟨rfl, rn⟩) ap ?_
            refine done_ (done_of HT_.out (by kernel_rfl)) ?_
            have hcz64_0 : w63.cell? ⟨gb349, 0, none⟩ = some (.string t341) := (blk_cell BK349.out 0).trans rfl
            have hcz64_1 : w63.cell? ⟨gb349, 1, none⟩ = some (.slice (some ad350) t342.length co25) := (blk_cell BK349.out 1).trans rfl
            have hcz64_2 : w63.cell? ⟨gb349, 2, none⟩ = some (.slice Ao27 t345.length co27) := (blk_cell BK349.out 2).trans rfl
            have hfz64_0 := blk_frozen BK349.out 0
            have hfz64_1 := blk_frozen BK349.out 1
            have hfz64_2 := blk_frozen BK349.out 2
            have p358 : 0 ≤ (x11_2 : Int) := of_decide_eq_true as0
            have q358 : x11_2 < (t345.length : Int) := of_decide_eq_true as0
            obtain ⟨ad358, A358_0, c358_0, e358, hx358_0, hl358_0, hi358_0⟩ := at_L3 (Kd.S_reads' HO_350002.out).2.2 x11_2 p358 q358
            cases e358
            obtain ⟨ce358, hce358, hMe358, hcc358⟩ := Kd.S_get HO_350002.out [] x11_2 p358 (by first | exact q358 | exact of_decide_eq_true as0 | (have e_ := (Kd.S_reads' HO_350002.out).1; omega))
            obtain ⟨ve358_0, rfl, ge358_0⟩ := hMe358
            have hv358_0 := hcc358 0 _ rfl
            rw [Nat.add_zero, show ((Kd.slice 25 k25)).sz = 1 from rfl, Nat.mul_one] at hv358_0
            replace hv358_0 := Option.some.inj (hv358_0.symm.trans hx358_0)
            rw [hv358_0] at ge358_0
            have HL358_0 := am (show Kd.R k25 25 _ _ _ _ (rd_L3 t345 x11_2) from ge358_0)
            clear hv358_0 ge358_0
            clear hcc358 hce358
            have HR358_0 := am hi358_0
            have HC358_0 := am hl358_0
            clear hi358_0 hl358_0
            replace p358 := eq_true p358
            replace q358 := eq_true q358
            go_upto_region 14 with (first | ((with_reducible refine gate_callee (f := 20) rfl ?_); refine goesL_ (some 91) rfl rfl Tryd.func20 (by kernel_rfl) rfl #[.slice A358_0 (rd_L3 t345 x11_2).length c358_0] rfl ar ?_; (with_reducible refine (op_In.calls _ _ (rd_L3 t345 x11_2) t359 _ ?side1 ?side2 ?side3 A43.out).mono ?_); (case side1 => repeat (first | exact (by repeat (first | (with_reducible exact HR358_0.out) | (with_reducible refine Kd.C_alloc ?_ _) | (with_reducible refine Kd.C_drewN ?_ _) | (with_reducible refine Kd.C_drew ?_) | exact HR358_0.out)) | (with_reducible refine Kd.C_alloc ?_ _) | (with_reducible refine Kd.C_drewN ?_ _) | (with_reducible refine Kd.C_drew ?_))); (case side2 => exact HC358_0.out); (case side3 => exact Tabs.below HT.out bl); rintro e w65 ⟨rfl, hb⟩; refine ⟨_, rfl, ?_⟩; have n0_ := am (Kd.R_below (by refine kR ?_; exact HO_338001.out) hb); have n1_ := am (Kd.S_below (by refine kS ?_; exact HO_338002.out) hb); have n2_ := am (Kd.R_below (by refine kR ?_; exact HO_350001.out) hb); have n3_ := am (Kd.S_below (by refine kS ?_; exact HO_350002.out) hb); have n4_ := am (Kd.R_below (by refine kR ?_; exact HL358_0.out) hb); have n5_ := am (blk_below (g := gb328) (o := .cells #[.slice A2_0 l2_0.length c2_0, .int .i64 a2_1] 40 (0, 0)) (by refine bk ?_; exact BK328.out) hb); have n6_ := am (blk_below (g := gb337) (o := .cells #[.string t330, .slice Ao15 t331.length co15, .slice Ao16 t334.length co16] 42 (0, 0)) (by refine bk ?_; exact BK337.out) hb); have n7_ := am (blk_below (g := gb349) (o := .cells #[.string t341, .slice (some ad350) t342.length co25, .slice (some ad358) t345.length co27] 42 (0, 0)) (by refine bk ?_; exact BK349.out) hb); have n8_ := am (Kd.C_below (by repeat (first | (with_reducible exact HR358_0.out) | (with_reducible refine Kd.C_alloc ?_ _) | (with_reducible refine Kd.C_drewN ?_ _) | (with_reducible refine Kd.C_drew ?_) | exact HR358_0.out)) hb); have n9_ := am (below_step bl hb); clear HO_338001; clear HO_338002; clear HO_350001; clear HO_350002; clear HL358_0; clear BK328; clear BK337; clear BK349; clear HR358_0; clear HB; have HO_338001 := n0_; have HO_338002 := n1_; have HO_350001 := n2_; have HO_350002 := n3_; have HL358_0 := n4_; have BK328 := n5_; have BK337 := n6_; have BK349 := n7_; have HR358_0 := n8_; have HB := n9_; clear n0_ n1_ n2_ n3_ n4_ n5_ n6_ n7_ n8_ n9_; (try clear hb); (try clear hb2); (try clear hk); (try clear hi); have hcz66_0 : w65.cell? ⟨gb349, 0, none⟩ = some (.string t341) := (blk_cell BK349.out 0).trans rfl; have hcz66_1 : w65.cell? ⟨gb349, 1, none⟩ = some (.slice (some ad350) t342.length co25) := (blk_cell BK349.out 1).trans rfl; have hcz66_2 : w65.cell? ⟨gb349, 2, none⟩ = some (.slice (some ad358) t345.length co27) := (blk_cell BK349.out 2).trans rfl; have hfz66_0 := blk_frozen BK349.out 0; have hfz66_1 := blk_frozen BK349.out 1; have hfz66_2 := blk_frozen BK349.out 2; have p360 : 0 ≤ (x11_2 : Int) := of_decide_eq_true as0; have q360 : x11_2 < (t345.length : Int) := of_decide_eq_true as0; obtain ⟨ad360, A360_0, c360_0, e360, hx360_0, hl360_0, hi360_0⟩ := at_L3 (Kd.S_reads' HO_350002.out).2.2 x11_2 p360 q360; obtain rfl : ad358 = ad360 := (by injection e360); obtain ⟨ce360, hce360, hMe360, hcc360⟩ := Kd.S_get HO_350002.out [] x11_2 p360 (by first | exact q360 | exact of_decide_eq_true as0 | (have e_ := (Kd.S_reads' HO_350002.out).1; omega)); obtain ⟨ve360_0, rfl, ge360_0⟩ := hMe360; have hv360_0 := hcc360 0 _ rfl; rw [Nat.add_zero, show ((Kd.slice 25 k25)).sz = 1 from rfl, Nat.mul_one] at hv360_0; replace hv360_0 := Option.some.inj (hv360_0.symm.trans hx360_0); rw [hv360_0] at ge360_0; have HL360_0 := am (show Kd.R k25 25 _ _ _ _ (rd_L3 t345 x11_2) from ge360_0); clear hv360_0 ge360_0; clear hcc360 hce360; have HR360_0 := am hi360_0; have HC360_0 := am hl360_0; clear hi360_0 hl360_0; replace p360 := eq_true p360; replace q360 := eq_true q360) | ((with_reducible refine gate_callee (f := 21) rfl ?_); refine goesL_ (some 99) rfl rfl Tryd.func21 (by kernel_rfl) rfl #[.slice A360_0 (rd_L3 t345 x11_2).length c360_0] rfl ar ?_; (with_reducible refine (gaps_Of.calls k2 _ _ (rd_L3 t345 x11_2) t361 t364 t367 _ ?side1 ?side2 ?side3 A54.out).mono ?_); (case side1 => repeat (first | exact (by repeat (first | (with_reducible exact HR360_0.out) | (with_reducible refine Kd.C_alloc ?_ _) | (with_reducible refine Kd.C_drewN ?_ _) | (with_reducible refine Kd.C_drew ?_) | exact HR360_0.out)) | (with_reducible refine Kd.C_alloc ?_ _) | (with_reducible refine Kd.C_drewN ?_ _) | (with_reducible refine Kd.C_drew ?_))); (case side2 => exact HC360_0.out); (case side3 => exact Tabs.below HT.out bl); rintro e w67 ⟨v362, v365, rfl, ho0, ho1, hb⟩; refine ⟨_, rfl, ?_⟩; have n0_ := am (Kd.R_below (by refine kR ?_; exact HO_338001.out) hb); have n1_ := am (Kd.S_below (by refine kS ?_; exact HO_338002.out) hb); have n2_ := am (Kd.R_below (by refine kR ?_; exact HO_350001.out) hb); have n3_ := am (Kd.S_below (by refine kS ?_; exact HO_350002.out) hb); have n4_ := am (Kd.R_below (by refine kR ?_; exact HL358_0.out) hb); have n5_ := am (Kd.R_below (by refine kR ?_; exact HL360_0.out) hb); have n6_ := am (Kd.R_lower ho0 (below_size bl)); have n7_ := am (Kd.R_lower ho1 (below_size bl)); have n8_ := am (blk_below (g := gb328) (o := .cells #[.slice A2_0 l2_0.length c2_0, .int .i64 a2_1] 40 (0, 0)) (by refine bk ?_; exact BK328.out) hb); have n9_ := am (blk_below (g := gb337) (o := .cells #[.string t330, .slice Ao15 t331.length co15, .slice Ao16 t334.length co16] 42 (0, 0)) (by refine bk ?_; exact BK337.out) hb); have n10_ := am (blk_below (g := gb349) (o := .cells #[.string t341, .slice (some ad350) t342.length co25, .slice (some ad358) t345.length co27] 42 (0, 0)) (by refine bk ?_; exact BK349.out) hb); have n11_ := am (Kd.C_below (by repeat (first | (with_reducible exact HR358_0.out) | (with_reducible refine Kd.C_alloc ?_ _) | (with_reducible refine Kd.C_drewN ?_ _) | (with_reducible refine Kd.C_drew ?_) | exact HR358_0.out)) hb); have n12_ := am (Kd.C_below (by repeat (first | (with_reducible exact HR360_0.out) | (with_reducible refine Kd.C_alloc ?_ _) | (with_reducible refine Kd.C_drewN ?_ _) | (with_reducible refine Kd.C_drew ?_) | exact HR360_0.out)) hb); have n13_ := am (below_step bl hb); clear HO_338001; clear HO_338002; clear HO_350001; clear HO_350002; clear HL358_0; clear HL360_0; clear BK328; clear BK337; clear BK349; clear HR358_0; clear HR360_0; clear HB; have HO_338001 := n0_; have HO_338002 := n1_; have HO_350001 := n2_; have HO_350002 := n3_; have HL358_0 := n4_; have HL360_0 := n5_; have HO363 := n6_; have HO366 := n7_; have BK328 := n8_; have BK337 := n9_; have BK349 := n10_; have HR358_0 := n11_; have HR360_0 := n12_; have HB := n13_; clear n0_ n1_ n2_ n3_ n4_ n5_ n6_ n7_ n8_ n9_ n10_ n11_ n12_ n13_; (try clear hb); (try clear hb2); (try clear hk); (try clear hi); (try clear ho0); (try clear ho1)) | ((with_reducible refine gate_dst (N := 18) rfl ?_); (try (refine gate_guard (by rfl) ?_; dsimp only)); refine box_event ?hg (N := 18) ?hd (cs := #[.slice none 0 0, .slice none 0 0]) (t := 53) ?hr ?_; (case hd => rfl); (case hg => rfl); (case hr => first | (go_simp; done) | (go_simp; rfl)); intro gb368 hg w68 hbox hb; have n0_ := am (Kd.R_below (by refine kR ?_; exact HO_338001.out) hb); have n1_ := am (Kd.S_below (by refine kS ?_; exact HO_338002.out) hb); have n2_ := am (Kd.R_below (by refine kR ?_; exact HO_350001.out) hb); have n3_ := am (Kd.S_below (by refine kS ?_; exact HO_350002.out) hb); have n4_ := am (Kd.R_below (by refine kR ?_; exact HL358_0.out) hb); have n5_ := am (Kd.R_below (by refine kR ?_; exact HL360_0.out) hb); have n6_ := am (Kd.R_below (by refine kR ?_; exact HO363.out) hb); have n7_ := am (Kd.R_below (by refine kR ?_; exact HO366.out) hb); have n8_ := am (blk_below (g := gb328) (o := .cells #[.slice A2_0 l2_0.length c2_0, .int .i64 a2_1] 40 (0, 0)) (by refine bk ?_; exact BK328.out) hb); have n9_ := am (blk_below (g := gb337) (o := .cells #[.string t330, .slice Ao15 t331.length co15, .slice Ao16 t334.length co16] 42 (0, 0)) (by refine bk ?_; exact BK337.out) hb); have n10_ := am (blk_below (g := gb349) (o := .cells #[.string t341, .slice (some ad350) t342.length co25, .slice (some ad358) t345.length co27] 42 (0, 0)) (by refine bk ?_; exact BK349.out) hb); have n11_ := am (Kd.C_below (by repeat (first | (with_reducible exact HR358_0.out) | (with_reducible refine Kd.C_alloc ?_ _) | (with_reducible refine Kd.C_drewN ?_ _) | (with_reducible refine Kd.C_drew ?_) | exact HR358_0.out)) hb); have n12_ := am (Kd.C_below (by repeat (first | (with_reducible exact HR360_0.out) | (with_reducible refine Kd.C_alloc ?_ _) | (with_reducible refine Kd.C_drewN ?_ _) | (with_reducible refine Kd.C_drew ?_) | exact HR360_0.out)) hb); have n13_ := am (below_step bl hb); have n14_ := am (hbox); have n15_ := am ((gs : w.heap.size ≤ gb368)); have n16_ := am ((gs : w.heap.size ≤ gb368)); have n17_ := am ((by rw [hg]; exact Nat.ne_of_lt (blk_lt (g := gb328) (o := .cells #[.slice A2_0 l2_0.length c2_0, .int .i64 a2_1] 40 (0, 0)) (by refine bk ?_; exact BK328.out)) : gb328 ≠ gb368)); have n18_ := am ((by rw [hg]; exact Nat.ne_of_gt (blk_lt (g := gb328) (o := .cells #[.slice A2_0 l2_0.length c2_0, .int .i64 a2_1] 40 (0, 0)) (by refine bk ?_; exact BK328.out)) : gb368 ≠ gb328)); have n19_ := am ((by rw [hg]; exact Nat.ne_of_lt (blk_lt (g := gb337) (o := .cells #[.string t330, .slice Ao15 t331.length co15, .slice Ao16 t334.length co16] 42 (0, 0)) (by refine bk ?_; exact BK337.out)) : gb337 ≠ gb368)); have n20_ := am ((by rw [hg]; exact Nat.ne_of_gt (blk_lt (g := gb337) (o := .cells #[.string t330, .slice Ao15 t331.length co15, .slice Ao16 t334.length co16] 42 (0, 0)) (by refine bk ?_; exact BK337.out)) : gb368 ≠ gb337)); have n21_ := am ((by rw [hg]; exact Nat.ne_of_lt (blk_lt (g := gb349) (o := .cells #[.string t341, .slice (some ad350) t342.length co25, .slice (some ad358) t345.length co27] 42 (0, 0)) (by refine bk ?_; exact BK349.out)) : gb349 ≠ gb368)); have n22_ := am ((by rw [hg]; exact Nat.ne_of_gt (blk_lt (g := gb349) (o := .cells #[.string t341, .slice (some ad350) t342.length co25, .slice (some ad358) t345.length co27] 42 (0, 0)) (by refine bk ?_; exact BK349.out)) : gb368 ≠ gb349)); clear HO_338001; clear HO_338002; clear HO_350001; clear HO_350002; clear HL358_0; clear HL360_0; clear HO363; clear HO366; clear BK328; clear BK337; clear BK349; clear HR358_0; clear HR360_0; clear HB; have HO_338001 := n0_; have HO_338002 := n1_; have HO_350001 := n2_; have HO_350002 := n3_; have HL358_0 := n4_; have HL360_0 := n5_; have HO363 := n6_; have HO366 := n7_; have BK328 := n8_; have BK337 := n9_; have BK349 := n10_; have HR358_0 := n11_; have HR360_0 := n12_; have HB := n13_; have BK368 := n14_; have GW368 := n15_; have GE368 := n16_; have NB328_368 := n17_; have NB368_328 := n18_; have NB337_368 := n19_; have NB368_337 := n20_; have NB349_368 := n21_; have NB368_349 := n22_; clear n0_ n1_ n2_ n3_ n4_ n5_ n6_ n7_ n8_ n9_ n10_ n11_ n12_ n13_ n14_ n15_ n16_ n17_ n18_ n19_ n20_ n21_ n22_; clear hb hbox hg; obtain ⟨Ao69, co69, eo69⟩ := Kd.R_slice HO363.out; subst eo69; have hnb70 := NB368_328.out; have hnc70 := NB328_368.out; have hnb71 := NB368_337.out; have hnc71 := NB337_368.out; have hnb72 := NB368_349.out; have hnc72 := NB349_368.out; have hcz73_0 : w68.cell? ⟨gb368, 0, none⟩ = some (.slice none 0 0) := (blk_cell BK368.out 0).trans rfl; have hcz73_1 : w68.cell? ⟨gb368, 1, none⟩ = some (.slice none 0 0) := (blk_cell BK368.out 1).trans rfl; have hfz73_0 := blk_frozen BK368.out 0; have hfz73_1 := blk_frozen BK368.out 1; obtain ⟨Ao74, co74, eo74⟩ := Kd.R_slice HO366.out; subst eo74) | ((with_reducible refine gate_callee (f := 22) rfl ?_); refine goesL_ (some 104) rfl rfl Tryd.func22 (by kernel_rfl) rfl #[.agg #[.slice Ao69 t361.length co69, .slice Ao74 t364.length co74]] rfl ar ?_; (with_reducible refine (gaps_Spans.calls _ _ t361 _ _ t364 t369 t372 _ ?side1 ?side2 ?side3 ?side4 ?side5 A55.out).mono ?_); (case side1 => refine (Kd.R_reads' (e := 105) (base := w.heap.size) (ok := fun k_ => True) (n := t361.length) (c := co69) ?_).2.2; exact (by refine kR ?_; exact (Kd.R_mono (Kd.R_far (p := ⟨gb368, 1, none⟩) (Kd.R_far (p := ⟨gb368, 0, none⟩) (Kd.R_types HO363.out BK368.out (by decide)) (fun _ hk => hk.2) (.slice Ao69 t361.length co69)) (fun _ hk => hk.2) (.slice Ao74 t364.length co74)) (fun _ h_ => h_.1)))); (case side2 => exact (Kd.R_reads' HO363.out).2.1); (case side3 => refine (Kd.R_reads' (e := 106) (base := w.heap.size) (ok := fun k_ => True) (n := t364.length) (c := co74) ?_).2.2; exact (by refine kR ?_; exact (Kd.R_mono (Kd.R_far (p := ⟨gb368, 1, none⟩) (Kd.R_far (p := ⟨gb368, 0, none⟩) (Kd.R_types HO366.out BK368.out (by decide)) (fun _ hk => hk.2) (.slice Ao69 t361.length co69)) (fun _ hk => hk.2) (.slice Ao74 t364.length co74)) (fun _ h_ => h_.1)))); (case side4 => exact (Kd.R_reads' HO366.out).2.1); (case side5 => exact Tabs.below HT.out bl); rintro e w75 ⟨v370, rfl, ho0, hb⟩; refine ⟨_, rfl, ?_⟩; have n0_ := am (Kd.R_below (by refine kR ?_; exact (Kd.R_mono (Kd.R_far (p := ⟨gb368, 1, none⟩) (Kd.R_far (p := ⟨gb368, 0, none⟩) (Kd.R_types HO_338001.out BK368.out (by decide)) (fun _ hk => hk.2) (.slice Ao69 t361.length co69)) (fun _ hk => hk.2) (.slice Ao74 t364.length co74)) (fun _ h_ => h_.1))) hb); have n1_ := am (Kd.S_elder' (by refine kS ?_; exact (Kd.S_mono (Kd.S_far (p := ⟨gb368, 1, none⟩) (Kd.S_far (p := ⟨gb368, 0, none⟩) (Kd.S_types HO_338002.out BK368.out (by decide)) (fun _ hk => hk.2) (.slice Ao69 t361.length co69)) (fun _ hk => hk.2) (.slice Ao74 t364.length co74)) (fun _ h_ => h_.1))) (Kd.R_base ho0) hb); have n2_ := am (Kd.R_below (by refine kR ?_; exact (Kd.R_mono (Kd.R_far (p := ⟨gb368, 1, none⟩) (Kd.R_far (p := ⟨gb368, 0, none⟩) (Kd.R_types HO_350001.out BK368.out (by decide)) (fun _ hk => hk.2) (.slice Ao69 t361.length co69)) (fun _ hk => hk.2) (.slice Ao74 t364.length co74)) (fun _ h_ => h_.1))) hb); have n3_ := am (Kd.S_elder' (by refine kS ?_; exact (Kd.S_mono (Kd.S_far (p := ⟨gb368, 1, none⟩) (Kd.S_far (p := ⟨gb368, 0, none⟩) (Kd.S_types HO_350002.out BK368.out (by decide)) (fun _ hk => hk.2) (.slice Ao69 t361.length co69)) (fun _ hk => hk.2) (.slice Ao74 t364.length co74)) (fun _ h_ => h_.1))) (Kd.R_base ho0) hb); have n4_ := am (Kd.R_elder' (by refine kR ?_; exact (Kd.R_mono (Kd.R_far (p := ⟨gb368, 1, none⟩) (Kd.R_far (p := ⟨gb368, 0, none⟩) (Kd.R_types HL358_0.out BK368.out (by decide)) (fun _ hk => hk.2) (.slice Ao69 t361.length co69)) (fun _ hk => hk.2) (.slice Ao74 t364.length co74)) (fun _ h_ => h_.1))) (Kd.R_base ho0) hb); have n5_ := am (Kd.R_elder' (by refine kR ?_; exact (Kd.R_mono (Kd.R_far (p := ⟨gb368, 1, none⟩) (Kd.R_far (p := ⟨gb368, 0, none⟩) (Kd.R_types HL360_0.out BK368.out (by decide)) (fun _ hk => hk.2) (.slice Ao69 t361.length co69)) (fun _ hk => hk.2) (.slice Ao74 t364.length co74)) (fun _ h_ => h_.1))) (Kd.R_base ho0) hb); have n6_ := am (Kd.R_below (by refine kR ?_; exact (Kd.R_mono (Kd.R_far (p := ⟨gb368, 1, none⟩) (Kd.R_far (p := ⟨gb368, 0, none⟩) (Kd.R_types HO363.out BK368.out (by decide)) (fun _ hk => hk.2) (.slice Ao69 t361.length co69)) (fun _ hk => hk.2) (.slice Ao74 t364.length co74)) (fun _ h_ => h_.1))) hb); have n7_ := am (Kd.R_below (by refine kR ?_; exact (Kd.R_mono (Kd.R_far (p := ⟨gb368, 1, none⟩) (Kd.R_far (p := ⟨gb368, 0, none⟩) (Kd.R_types HO366.out BK368.out (by decide)) (fun _ hk => hk.2) (.slice Ao69 t361.length co69)) (fun _ hk => hk.2) (.slice Ao74 t364.length co74)) (fun _ h_ => h_.1))) hb); have n8_ := am (Kd.R_lower (Kd.R_new' (Kd.R_new' ho0 (Kd.R_lt (by refine kR ?_; exact (Kd.R_mono (Kd.R_far (p := ⟨gb368, 1, none⟩) (Kd.R_far (p := ⟨gb368, 0, none⟩) (Kd.R_types HL358_0.out BK368.out (by decide)) (fun _ hk => hk.2) (.slice Ao69 t361.length co69)) (fun _ hk => hk.2) (.slice Ao74 t364.length co74)) (fun _ h_ => h_.1))))) (Kd.R_lt (by refine kR ?_; exact (Kd.R_mono (Kd.R_far (p := ⟨gb368, 1, none⟩) (Kd.R_far (p := ⟨gb368, 0, none⟩) (Kd.R_types HL360_0.out BK368.out (by decide)) (fun _ hk => hk.2) (.slice Ao69 t361.length co69)) (fun _ hk => hk.2) (.slice Ao74 t364.length co74)) (fun _ h_ => h_.1))))) (below_size bl)); have n9_ := am (blk_below (g := gb328) (o := .cells #[.slice A2_0 l2_0.length c2_0, .int .i64 a2_1] 40 (0, 0)) (by refine bk ?_; refine blk_far ?_ NB328_368.out _; refine bk ?_; refine blk_far ?_ NB328_368.out _; refine bk ?_; exact BK328.out) hb); have n10_ := am (blk_below (g := gb337) (o := .cells #[.string t330, .slice Ao15 t331.length co15, .slice Ao16 t334.length co16] 42 (0, 0)) (by refine bk ?_; refine blk_far ?_ NB337_368.out _; refine bk ?_; refine blk_far ?_ NB337_368.out _; refine bk ?_; exact BK337.out) hb); have n11_ := am (blk_below (g := gb349) (o := .cells #[.string t341, .slice (some ad350) t342.length co25, .slice (some ad358) t345.length co27] 42 (0, 0)) (by refine bk ?_; refine blk_far ?_ NB349_368.out _; refine bk ?_; refine blk_far ?_ NB349_368.out _; refine bk ?_; exact BK349.out) hb); have n12_ := am (Kd.C_below ((Kd.R_reads' (by refine kR ?_; exact (Kd.R_mono (Kd.R_far (p := ⟨gb368, 1, none⟩) (Kd.R_far (p := ⟨gb368, 0, none⟩) (Kd.R_types HL358_0.out BK368.out (by decide)) (fun _ hk => hk.2) (.slice Ao69 t361.length co69)) (fun _ hk => hk.2) (.slice Ao74 t364.length co74)) (fun _ h_ => h_.1)))).2.2) hb); have n13_ := am (Kd.C_below ((Kd.R_reads' (by refine kR ?_; exact (Kd.R_mono (Kd.R_far (p := ⟨gb368, 1, none⟩) (Kd.R_far (p := ⟨gb368, 0, none⟩) (Kd.R_types HL360_0.out BK368.out (by decide)) (fun _ hk => hk.2) (.slice Ao69 t361.length co69)) (fun _ hk => hk.2) (.slice Ao74 t364.length co74)) (fun _ h_ => h_.1)))).2.2) hb); have n14_ := am (blk_below (g := gb368) (o := .cells #[.slice Ao69 t361.length co69, .slice Ao74 t364.length co74] 53 (0, 0)) (by refine bk ?_; refine blk_put (cs := #[.slice Ao69 t361.length co69, .slice none 0 0]) ?_ 1 _ rfl; refine bk ?_; refine blk_put (cs := #[.slice none 0 0, .slice none 0 0]) ?_ 0 _ rfl; refine bk ?_; exact BK368.out) hb); have n15_ := am (below_step bl hb); clear HO_338001; clear HO_338002; clear HO_350001; clear HO_350002; clear HL358_0; clear HL360_0; clear HO363; clear HO366; clear BK328; clear BK337; clear BK349; clear HR358_0; clear HR360_0; clear BK368; clear HB; have HO_338001 := n0_; have HO_338002 := n1_; have HO_350001 := n2_; have HO_350002 := n3_; have HL358_0 := n4_; have HL360_0 := n5_; have HO363 := n6_; have HO366 := n7_; have HO371 := n8_; have BK328 := n9_; have BK337 := n10_; have BK349 := n11_; have HR358_0 := n12_; have HR360_0 := n13_; have BK368 := n14_; have HB := n15_; clear n0_ n1_ n2_ n3_ n4_ n5_ n6_ n7_ n8_ n9_ n10_ n11_ n12_ n13_ n14_ n15_; (try clear hb); (try clear hb2); (try clear hk); (try clear hi); (try clear ho0)))
            (try simp only [Act.put, List.setIfInBounds_toArray, List.set_cons_zero, List.set_cons_succ])
            go_cut [130] (fun v130 wc => ∃ (kq : Nat) (x130_55 : Bool), v130 = .bool x130_55 ∧ Aside0 (epitometop_TopLeast.j2 kq x11_2 t351 t355 x130_55 t330 t331 t334 t341 t342 t345 = some r) ∧ Aside0 (kq ≤ k2) ∧ Aside0 (Kd.R (Kd.int .i64) 3 wc w.heap.size (fun k_ => some k_ ≠ ((.slice (some ad350) t342.length co25) : Value).ownBlock) (.slice Ao15 t331.length co15) t331) ∧ Aside0 (Kd.S (Kd.slice 25 k25) 27 wc w.heap.size (fun k_ => some k_ ≠ ((.slice (some ad358) t345.length co27) : Value).ownBlock) (.slice Ao16 t334.length co16) t334) ∧ Aside0 (Kd.R (Kd.int .i64) 3 wc w.heap.size (fun k_ => some k_ ≠ ((.slice Ao15 t331.length co15) : Value).ownBlock) (.slice (some ad350) t342.length co25) t342) ∧ Aside0 (Kd.S (Kd.slice 25 k25) 27 wc w.heap.size (fun k_ => some k_ ≠ ((.slice Ao16 t334.length co16) : Value).ownBlock) (.slice (some ad358) t345.length co27) t345) ∧ Aside0 (Kd.R Kd.string 105 wc w.heap.size (fun _ => True) (.slice Ao69 t361.length co69) t361) ∧ Aside0 (Kd.R Kd.bool 106 wc w.heap.size (fun _ => True) (.slice Ao74 t364.length co74) t364) ∧ Aside0 (wc.heap[gb328]? = some (.cells #[(.slice A2_0 l2_0.length c2_0), .int .i64 a2_1] 40 (0, 0))) ∧ Aside0 (wc.heap[gb337]? = some (.cells #[.string t330, (.slice Ao15 t331.length co15), (.slice Ao16 t334.length co16)] 42 (0, 0))) ∧ Aside0 (wc.heap[gb349]? = some (.cells #[.string t341, (.slice (some ad350) t342.length co25), (.slice (some ad358) t345.length co27)] 42 (0, 0))) ∧ Aside0 (wc.heap[gb368]? = some (.cells #[(.slice Ao69 t361.length co69), (.slice Ao74 t364.length co74)] 53 (0, 0))) ∧ Aside0 (Kd.C k25 wc A358_0 (rd_L3 t345 x11_2).length (rd_L3 t345 x11_2)) ∧ Aside0 (Kd.C k25 wc A360_0 (rd_L3 t345 x11_2).length (rd_L3 t345 x11_2)) ∧ Aside0 (Below w.heap.size w wc))
            case first =>
             have H := HC56.out
             clear HC56
             by_cases c76 : t353 = 0
             ·rw [if_pos c76] at H
              have c76b0 : (t353 == 0) = true := beq_iff_eq.mpr c76
              have c76b1 : (t353 != 0) = false := bne_eq_false_iff_eq.mpr c76
              clear c76
              (first | rw [c76b0] | (simp only [i64_w, i32_w]; rw [c76b0]) | skip)
              by_cases c77 : t357 = 0
              ·rw [if_pos c77] at H
               have c77b0 : (t357 == 0) = true := beq_iff_eq.mpr c77
               have c77b1 : (t357 != 0) = false := bne_eq_false_iff_eq.mpr c77
               clear c77
               by_cases c78 : t367 = 0
               ·rw [if_pos c78] at H
                have c78b0 : (t367 == 0) = true := beq_iff_eq.mpr c78
                have c78b1 : (t367 != 0) = false := bne_eq_false_iff_eq.mpr c78
                clear c78
                by_cases c79 : t372 = 0
                ·rw [if_pos c79] at H
                 have c79b0 : (t372 == 0) = true := beq_iff_eq.mpr c79
                 have c79b1 : (t372 != 0) = false := bne_eq_false_iff_eq.mpr c79
                 clear c79
                 replace H := Option.bind_eq_some_iff.mp H
                 obtain ⟨t374, A800, H⟩ := H
                 replace H : (epitometop_TopLeast.j2 k2 x11_2 t351 t355 (!t374) t330 t331 t334 t341 t342 t345) = some r := H
                 have A80 := am A800
                 clear A800
                 have H' := am H
                 clear H
                 have hnb81 := NB349_328.out
                 have hnc81 := NB328_349.out
                 have hnb82 := NB349_337.out
                 have hnc82 := NB337_349.out
                 have hnb83 := NB349_368.out
                 have hnc83 := NB368_349.out
                 have hcz84_0 : w75.cell? ⟨gb349, 0, none⟩ = some (.string t341) := (blk_cell BK349.out 0).trans rfl
                 have hcz84_1 : w75.cell? ⟨gb349, 1, none⟩ = some (.slice (some ad350) t342.length co25) := (blk_cell BK349.out 1).trans rfl
                 have hcz84_2 : w75.cell? ⟨gb349, 2, none⟩ = some (.slice (some ad358) t345.length co27) := (blk_cell BK349.out 2).trans rfl
                 have hfz84_0 := blk_frozen BK349.out 0
                 have hfz84_1 := blk_frozen BK349.out 1
                 have hfz84_2 := blk_frozen BK349.out 2
                 have p373 : 0 ≤ (x11_2 : Int) := of_decide_eq_true as0
                 have q373 : x11_2 < (t345.length : Int) := of_decide_eq_true as0
                 obtain ⟨ad373, A373_0, c373_0, e373, hx373_0, hl373_0, hi373_0⟩ := at_L3 (Kd.S_reads' HO_350002.out).2.2 x11_2 p373 q373
                 obtain rfl : ad358 = ad373 := (by injection e373)
                 obtain ⟨ce373, hce373, hMe373, hcc373⟩ := Kd.S_get HO_350002.out [] x11_2 p373 (by first | exact q373 | exact of_decide_eq_true as0 | (have e_ := (Kd.S_reads' HO_350002.out).1; omega))
                 obtain ⟨ve373_0, rfl, ge373_0⟩ := hMe373
                 have hv373_0 := hcc373 0 _ rfl
                 rw [Nat.add_zero, show ((Kd.slice 25 k25)).sz = 1 from rfl, Nat.mul_one] at hv373_0
                 replace hv373_0 := Option.some.inj (hv373_0.symm.trans hx373_0)
                 rw [hv373_0] at ge373_0
                 have HL373_0 := am (show Kd.R k25 25 _ _ _ _ (rd_L3 t345 x11_2) from ge373_0)
                 clear hv373_0 ge373_0
                 clear hcc373 hce373
                 have HR373_0 := am hi373_0
                 have HC373_0 := am hl373_0
                 clear hi373_0 hl373_0
                 replace p373 := eq_true p373
                 replace q373 := eq_true q373
                 obtain ⟨Ao85, co85, eo85⟩ := Kd.R_slice HO371.out
                 subst eo85
                 go_wp2_with (first | (go_at_call 15; (with_reducible refine (epitomeref04_Same.calls k2 _ _ t369 _ _ (rd_L3 t345 x11_2) t374 _ ?side1 ?side2 ?side3 ?side4 A80.out).mono ?_); (case side1 => repeat (first | exact (Kd.R_reads' HO371.out).2.2 | (with_reducible refine Kd.C_alloc ?_ _) | (with_reducible refine Kd.C_drewN ?_ _) | (with_reducible refine Kd.C_drew ?_))); (case side2 => exact (Kd.R_reads' HO371.out).2.1); (case side3 => repeat (first | exact (by repeat (first | (with_reducible exact HR373_0.out) | (with_reducible refine Kd.C_alloc ?_ _) | (with_reducible refine Kd.C_drewN ?_ _) | (with_reducible refine Kd.C_drew ?_) | exact HR373_0.out)) | (with_reducible refine Kd.C_alloc ?_ _) | (with_reducible refine Kd.C_drewN ?_ _) | (with_reducible refine Kd.C_drew ?_))); (case side4 => exact HC373_0.out); rintro e w' ⟨rfl, ⟨nd, rfl⟩⟩))
                 go_meet
                 case rel => exact ⟨_, (!t374), pj, H', ⟨by have := HJ7.out; have := HK2.out; first | omega | exact Nat.le_refl _⟩, ⟨by refine kR ?_; exact HO_338001.out⟩, ⟨by refine kS ?_; exact Kd.S_mono HO_338002.out (fun _ hk => hk.1)⟩, ⟨by refine kR ?_; exact HO_350001.out⟩, ⟨by refine kS ?_; exact Kd.S_mono HO_350002.out (fun _ hk => hk.1)⟩, ⟨by refine kR ?_; exact HO363.out⟩, ⟨by refine kR ?_; exact HO366.out⟩, ⟨by refine bk ?_; exact BK328.out⟩, ⟨by refine bk ?_; exact BK337.out⟩, ⟨by refine bk ?_; exact BK349.out⟩, ⟨by refine bk ?_; exact BK368.out⟩, ⟨by repeat (first | (with_reducible exact HR358_0.out) | (with_reducible refine Kd.C_alloc ?_ _) | (with_reducible refine Kd.C_drewN ?_ _) | (with_reducible refine Kd.C_drew ?_) | exact HR358_0.out)⟩, ⟨by repeat (first | (with_reducible exact HR360_0.out) | (with_reducible refine Kd.C_alloc ?_ _) | (with_reducible refine Kd.C_drewN ?_ _) | (with_reducible refine Kd.C_drew ?_) | exact HR360_0.out)⟩, ⟨bl⟩⟩
                ·rw [if_neg c79] at H
                 have c79b0 : (t372 == 0) = false := beq_eq_false_iff_ne.mpr c79
                 have c79b1 : (t372 != 0) = true := bne_iff_ne.mpr c79
                 have H' := am H
                 clear H
                 go_wp2
                 go_meet
                 case rel => exact ⟨_, (true), pj, H', ⟨by have := HJ7.out; have := HK2.out; first | omega | exact Nat.le_refl _⟩, ⟨by refine kR ?_; exact HO_338001.out⟩, ⟨by refine kS ?_; exact Kd.S_mono HO_338002.out (fun _ hk => hk.1)⟩, ⟨by refine kR ?_; exact HO_350001.out⟩, ⟨by refine kS ?_; exact Kd.S_mono HO_350002.out (fun _ hk => hk.1)⟩, ⟨by refine kR ?_; exact HO363.out⟩, ⟨by refine kR ?_; exact HO366.out⟩, ⟨by refine bk ?_; exact BK328.out⟩, ⟨by refine bk ?_; exact BK337.out⟩, ⟨by refine bk ?_; exact BK349.out⟩, ⟨by refine bk ?_; exact BK368.out⟩, ⟨by repeat (first | (with_reducible exact HR358_0.out) | (with_reducible refine Kd.C_alloc ?_ _) | (with_reducible refine Kd.C_drewN ?_ _) | (with_reducible refine Kd.C_drew ?_) | exact HR358_0.out)⟩, ⟨by repeat (first | (with_reducible exact HR360_0.out) | (with_reducible refine Kd.C_alloc ?_ _) | (with_reducible refine Kd.C_drewN ?_ _) | (with_reducible refine Kd.C_drew ?_) | exact HR360_0.out)⟩, ⟨bl⟩⟩
               ·rw [if_neg c78] at H
                have c78b0 : (t367 == 0) = false := beq_eq_false_iff_ne.mpr c78
                have c78b1 : (t367 != 0) = true := bne_iff_ne.mpr c78
                have H' := am H
                clear H
                go_wp2
                go_meet
                case rel => exact ⟨_, (true), pj, H', ⟨by have := HJ7.out; have := HK2.out; first | omega | exact Nat.le_refl _⟩, ⟨by refine kR ?_; exact HO_338001.out⟩, ⟨by refine kS ?_; exact Kd.S_mono HO_338002.out (fun _ hk => hk.1)⟩, ⟨by refine kR ?_; exact HO_350001.out⟩, ⟨by refine kS ?_; exact Kd.S_mono HO_350002.out (fun _ hk => hk.1)⟩, ⟨by refine kR ?_; exact HO363.out⟩, ⟨by refine kR ?_; exact HO366.out⟩, ⟨by refine bk ?_; exact BK328.out⟩, ⟨by refine bk ?_; exact BK337.out⟩, ⟨by refine bk ?_; exact BK349.out⟩, ⟨by refine bk ?_; exact BK368.out⟩, ⟨by repeat (first | (with_reducible exact HR358_0.out) | (with_reducible refine Kd.C_alloc ?_ _) | (with_reducible refine Kd.C_drewN ?_ _) | (with_reducible refine Kd.C_drew ?_) | exact HR358_0.out)⟩, ⟨by repeat (first | (with_reducible exact HR360_0.out) | (with_reducible refine Kd.C_alloc ?_ _) | (with_reducible refine Kd.C_drewN ?_ _) | (with_reducible refine Kd.C_drew ?_) | exact HR360_0.out)⟩, ⟨bl⟩⟩
              ·rw [if_neg c77] at H
               have c77b0 : (t357 == 0) = false := beq_eq_false_iff_ne.mpr c77
               have c77b1 : (t357 != 0) = true := bne_iff_ne.mpr c77
               have H' := am H
               clear H
               go_wp2
               go_meet
               case rel => exact ⟨_, (true), pj, H', ⟨by have := HJ7.out; have := HK2.out; first | omega | exact Nat.le_refl _⟩, ⟨by refine kR ?_; exact HO_338001.out⟩, ⟨by refine kS ?_; exact Kd.S_mono HO_338002.out (fun _ hk => hk.1)⟩, ⟨by refine kR ?_; exact HO_350001.out⟩, ⟨by refine kS ?_; exact Kd.S_mono HO_350002.out (fun _ hk => hk.1)⟩, ⟨by refine kR ?_; exact HO363.out⟩, ⟨by refine kR ?_; exact HO366.out⟩, ⟨by refine bk ?_; exact BK328.out⟩, ⟨by refine bk ?_; exact BK337.out⟩, ⟨by refine bk ?_; exact BK349.out⟩, ⟨by refine bk ?_; exact BK368.out⟩, ⟨by repeat (first | (with_reducible exact HR358_0.out) | (with_reducible refine Kd.C_alloc ?_ _) | (with_reducible refine Kd.C_drewN ?_ _) | (with_reducible refine Kd.C_drew ?_) | exact HR358_0.out)⟩, ⟨by repeat (first | (with_reducible exact HR360_0.out) | (with_reducible refine Kd.C_alloc ?_ _) | (with_reducible refine Kd.C_drewN ?_ _) | (with_reducible refine Kd.C_drew ?_) | exact HR360_0.out)⟩, ⟨bl⟩⟩
             ·rw [if_neg c76] at H
              have c76b0 : (t353 == 0) = false := beq_eq_false_iff_ne.mpr c76
              have c76b1 : (t353 != 0) = true := bne_iff_ne.mpr c76
              (first | rw [c76b0] | (simp only [i64_w, i32_w]; rw [c76b0]) | skip)
              have H' := am H
              clear H
              go_wp2
              go_meet
              case rel => exact ⟨_, (true), pj, H', ⟨by have := HJ7.out; have := HK2.out; first | omega | exact Nat.le_refl _⟩, ⟨by refine kR ?_; exact HO_338001.out⟩, ⟨by refine kS ?_; exact Kd.S_mono HO_338002.out (fun _ hk => hk.1)⟩, ⟨by refine kR ?_; exact HO_350001.out⟩, ⟨by refine kS ?_; exact Kd.S_mono HO_350002.out (fun _ hk => hk.1)⟩, ⟨by refine kR ?_; exact HO363.out⟩, ⟨by refine kR ?_; exact HO366.out⟩, ⟨by refine bk ?_; exact BK328.out⟩, ⟨by refine bk ?_; exact BK337.out⟩, ⟨by refine bk ?_; exact BK349.out⟩, ⟨by refine bk ?_; exact BK368.out⟩, ⟨by repeat (first | (with_reducible exact HR358_0.out) | (with_reducible refine Kd.C_alloc ?_ _) | (with_reducible refine Kd.C_drewN ?_ _) | (with_reducible refine Kd.C_drew ?_) | exact HR358_0.out)⟩, ⟨by repeat (first | (with_reducible exact HR360_0.out) | (with_reducible refine Kd.C_alloc ?_ _) | (with_reducible refine Kd.C_drewN ?_ _) | (with_reducible refine Kd.C_drew ?_) | exact HR360_0.out)⟩, ⟨bl⟩⟩
            case rest =>
             clear HC56
             try clear c1
             try clear c2
             try clear p2
             try clear c3
             try clear p3
             try clear q3
             try clear hx3
             try clear c4
             try clear c5
             try clear c7
             try clear c8
             try clear c19
             try clear c20
             try clear c21
             try clear c22
             try clear c35
             try clear p35
             try clear q35
             try clear hx35
             try clear c36
             try clear p36
             try clear q36
             try clear hx36
             try clear c37
             try clear p37
             try clear q37
             try clear hx37
             try clear c44
             try clear c44b0
             try clear c57
             try clear c58
             try clear c70
             try clear c71
             try clear c72
             try clear c76
             try clear c76b0
             try clear c76b1
             try clear c77
             try clear c77b0
             try clear c77b1
             try clear c78
             try clear c78b0
             try clear c78b1
             try clear c79
             try clear c79b0
             try clear c79b1
             try clear c81
             try clear c82
             try clear c83
             try clear hcz52_0
             try clear hcz52_1
             try clear hcz52_2
             try clear hcz59_0
             try clear hcz59_1
             try clear hcz59_2
             try clear hcz64_0
             try clear hcz64_1
             try clear hcz64_2
             try clear hcz66_0
             try clear hcz66_1
             try clear hcz66_2
             try clear hcz73_0
             try clear hcz73_1
             try clear hcz84_0
             try clear hcz84_1
             try clear hcz84_2
             try clear hfz52_0
             try clear hfz52_1
             try clear hfz52_2
             try clear hfz59_0
             try clear hfz59_1
             try clear hfz59_2
             try clear hfz64_0
             try clear hfz64_1
             try clear hfz64_2
             try clear hfz66_0
             try clear hfz66_1
             try clear hfz66_2
             try clear hfz73_0
             try clear hfz73_1
             try clear hfz84_0
             try clear hfz84_1
             try clear hfz84_2
             try clear hx350_0
             try clear hx354_0
             try clear hx358_0
             try clear hx360_0
             try clear hx373_0
             try clear p350
             try clear p354
             try clear p358
             try clear p360
             try clear p373
             try clear q350
             try clear q354
             try clear q358
             try clear q360
             try clear q373
             obtain ⟨kq, x130_55, rfl, HA, HJ55, HO_338001, HO_338002, HO_350001, HO_350002, HO_369000, HO_369001, BK328, BK337, BK349, BK368, HR358_0, HR360_0, HB⟩ := hcut
             cases kq with
             | zero => exact absurd HA.out (by simp [epitometop_TopLeast.j2])
             | succ kj55 =>
              have H := HA.out
              clear HA
              simp only [epitometop_TopLeast.j2] at H
              by_cases c86 : x130_55 = true
              ·subst c86
               have H1 : (some false) = some r := by rw [if_pos rfl] at H; exact H
               clear H
               have H := H1
               clear H1
               obtain rfl := Option.some.inj H
               exact absurd HLAW.out (by decide)
              ·replace c86 := Bool.eq_false_iff.mpr c86
               subst c86
               have H1 : (epitometop_TopLeast.l1 kj55 x11_2 t355 0 t351 t330 t331 t334 t341 t342 t345) = some r := by rw [if_neg (show ¬ (false = true) by decide)] at H; exact H
               clear H
               have H := H1
               clear H1
               have H' := am H
               clear H
               go_wp2
               go_loopg [22, 23] kj55 (fun kq v22 v23 w' => ∃ (x22_4 : Int) (x23_4 : Int), v22 = .int .i64 x22_4 ∧ v23 = .int .i64 x23_4 ∧ Aside0 (epitometop_TopLeast.l1 kq x11_2 t355 x22_4 x23_4 t330 t331 t334 t341 t342 t345 = some r) ∧ Aside0 (kq ≤ kj55) ∧ Aside0 (Kd.R (Kd.int .i64) 3 w' w.heap.size (fun k_ => some k_ ≠ ((.slice (some ad350) t342.length co25) : Value).ownBlock) (.slice Ao15 t331.length co15) t331) ∧ Aside0 (Kd.S (Kd.slice 25 k25) 27 w' w.heap.size (fun k_ => some k_ ≠ ((.slice (some ad358) t345.length co27) : Value).ownBlock) (.slice Ao16 t334.length co16) t334) ∧ Aside0 (Kd.R (Kd.int .i64) 3 w' w.heap.size (fun k_ => some k_ ≠ ((.slice Ao15 t331.length co15) : Value).ownBlock) (.slice (some ad350) t342.length co25) t342) ∧ Aside0 (Kd.S (Kd.slice 25 k25) 27 w' w.heap.size (fun k_ => some k_ ≠ ((.slice Ao16 t334.length co16) : Value).ownBlock) (.slice (some ad358) t345.length co27) t345) ∧ Aside0 (Kd.R Kd.string 105 w' w.heap.size (fun _ => True) (.slice Ao69 t361.length co69) t361) ∧ Aside0 (Kd.R Kd.bool 106 w' w.heap.size (fun _ => True) (.slice Ao74 t364.length co74) t364) ∧ Aside0 (w'.heap[gb328]? = some (.cells #[(.slice A2_0 l2_0.length c2_0), .int .i64 a2_1] 40 (0, 0))) ∧ Aside0 (w'.heap[gb337]? = some (.cells #[.string t330, (.slice Ao15 t331.length co15), (.slice Ao16 t334.length co16)] 42 (0, 0))) ∧ Aside0 (w'.heap[gb349]? = some (.cells #[.string t341, (.slice (some ad350) t342.length co25), (.slice (some ad358) t345.length co27)] 42 (0, 0))) ∧ Aside0 (w'.heap[gb368]? = some (.cells #[(.slice Ao69 t361.length co69), (.slice Ao74 t364.length co74)] 53 (0, 0))) ∧ Aside0 (Kd.C k25 w' A358_0 (rd_L3 t345 x11_2).length (rd_L3 t345 x11_2)) ∧ Aside0 (Kd.C k25 w' A360_0 (rd_L3 t345 x11_2).length (rd_L3 t345 x11_2)) ∧ Aside0 (Below w.heap.size w w'))
               case atStart => exact ⟨(0), (t351), pj, pj, H', ⟨Nat.le_refl _⟩, ⟨by refine kR ?_; exact HO_338001.out⟩, ⟨by refine kS ?_; exact HO_338002.out⟩, ⟨by refine kR ?_; exact HO_350001.out⟩, ⟨by refine kS ?_; exact HO_350002.out⟩, ⟨by refine kR ?_; exact HO_369000.out⟩, ⟨by refine kR ?_; exact HO_369001.out⟩, ⟨by refine bk ?_; exact BK328.out⟩, ⟨by refine bk ?_; exact BK337.out⟩, ⟨by refine bk ?_; exact BK349.out⟩, ⟨by refine bk ?_; exact BK368.out⟩, ⟨by repeat (first | (with_reducible exact HR358_0.out) | (with_reducible refine Kd.C_alloc ?_ _) | (with_reducible refine Kd.C_drewN ?_ _) | (with_reducible refine Kd.C_drew ?_) | exact HR358_0.out)⟩, ⟨by repeat (first | (with_reducible exact HR360_0.out) | (with_reducible refine Kd.C_alloc ?_ _) | (with_reducible refine Kd.C_drewN ?_ _) | (with_reducible refine Kd.C_drew ?_) | exact HR360_0.out)⟩, ⟨bl⟩⟩
               case round =>
                clear H'
                try clear c1
                try clear c2
                try clear p2
                try clear c3
                try clear p3
                try clear q3
                try clear hx3
                try clear c4
                try clear c5
                try clear c7
                try clear c8
                try clear c19
                try clear c20
                try clear c21
                try clear c22
                try clear c35
                try clear p35
                try clear q35
                try clear hx35
                try clear c36
                try clear p36
                try clear q36
                try clear hx36
                try clear c37
                try clear p37
                try clear q37
                try clear hx37
                try clear c44
                try clear c44b0
                try clear c57
                try clear c58
                try clear c70
                try clear c71
                try clear c72
                try clear c76
                try clear c76b0
                try clear c76b1
                try clear c77
                try clear c77b0
                try clear c77b1
                try clear c78
                try clear c78b0
                try clear c78b1
                try clear c79
                try clear c79b0
                try clear c79b1
                try clear c81
                try clear c82
                try clear c83
                try clear c86
                try clear hcz52_0
                try clear hcz52_1
                try clear hcz52_2
                try clear hcz59_0
                try clear hcz59_1
                try clear hcz59_2
                try clear hcz64_0
                try clear hcz64_1
                try clear hcz64_2
                try clear hcz66_0
                try clear hcz66_1
                try clear hcz66_2
                try clear hcz73_0
                try clear hcz73_1
                try clear hcz84_0
                try clear hcz84_1
                try clear hcz84_2
                try clear hfz52_0
                try clear hfz52_1
                try clear hfz52_2
                try clear hfz59_0
                try clear hfz59_1
                try clear hfz59_2
                try clear hfz64_0
                try clear hfz64_1
                try clear hfz64_2
                try clear hfz66_0
                try clear hfz66_1
                try clear hfz66_2
                try clear hfz73_0
                try clear hfz73_1
                try clear hfz84_0
                try clear hfz84_1
                try clear hfz84_2
                try clear hx350_0
                try clear hx354_0
                try clear hx358_0
                try clear hx360_0
                try clear hx373_0
                try clear p2
                try clear p3
                try clear p35
                try clear p350
                try clear p354
                try clear p358
                try clear p36
                try clear p360
                try clear p37
                try clear p373
                try clear q3
                try clear q35
                try clear q350
                try clear q354
                try clear q358
                try clear q36
                try clear q360
                try clear q37
                try clear q373
                obtain ⟨x22_4, x23_4, rfl, rfl, HA, HK4, HO_338001, HO_338002, HO_350001, HO_350002, HO_369000, HO_369001, BK328, BK337, BK349, BK368, HR358_0, HR360_0, HB⟩ := hrel
                cases gk with
                | zero => exact absurd HA.out (by simp [epitometop_TopLeast.l1])
                | succ k4 =>
                 have H := HA.out
                 clear HA
                 simp only [epitometop_TopLeast.l1] at H
                 by_cases c87 : x23_4 < t355
                 ·rw [if_pos c87] at H
                  have c87b0 : decide (x23_4 < t355) = true := decide_eq_true c87
                  clear c87
                  by_cases c88 : 0 ≤ x23_4
                  ·rw [if_pos c88] at H
                   have c88b0 : decide (0 ≤ x23_4) = true := decide_eq_true c88
                   clear c88
                   by_cases c89 : x23_4 < (t334.length : Int)
                   ·rw [if_pos c89] at H
                    have c89b0 : decide (x23_4 < (t334.length : Int)) = true := decide_eq_true c89
                    clear c89
                    have H' := am H
                    clear H
                    have hnb90 := NB337_328.out
                    have hnc90 := NB328_337.out
                    have hnb91 := NB337_349.out
                    have hnc91 := NB349_337.out
                    have hnb92 := NB337_368.out
                    have hnc92 := NB368_337.out
                    have hcz93_0 : wr.cell? ⟨gb337, 0, none⟩ = some (.string t330) := (blk_cell BK337.out 0).trans rfl
                    have hcz93_1 : wr.cell? ⟨gb337, 1, none⟩ = some (.slice Ao15 t331.length co15) := (blk_cell BK337.out 1).trans rfl
                    have hcz93_2 : wr.cell? ⟨gb337, 2, none⟩ = some (.slice Ao16 t334.length co16) := (blk_cell BK337.out 2).trans rfl
                    have hfz93_0 := blk_frozen BK337.out 0
                    have hfz93_1 := blk_frozen BK337.out 1
                    have hfz93_2 := blk_frozen BK337.out 2
                    have p375 : 0 ≤ (x23_4 : Int) := of_decide_eq_true as0
                    have q375 : x23_4 < (t334.length : Int) := of_decide_eq_true as0
                    obtain ⟨ad375, A375_0, c375_0, e375, hx375_0, hl375_0, hi375_0⟩ := at_L3 (Kd.S_reads' HO_338002.out).2.2 x23_4 p375 q375
                    cases e375
                    obtain ⟨ce375, hce375, hMe375, hcc375⟩ := Kd.S_get HO_338002.out [] x23_4 p375 (by first | exact q375 | exact of_decide_eq_true as0 | (have e_ := (Kd.S_reads' HO_338002.out).1; omega))
                    obtain ⟨ve375_0, rfl, ge375_0⟩ := hMe375
                    have hv375_0 := hcc375 0 _ rfl
                    rw [Nat.add_zero, show ((Kd.slice 25 k25)).sz = 1 from rfl, Nat.mul_one] at hv375_0
                    replace hv375_0 := Option.some.inj (hv375_0.symm.trans hx375_0)
                    rw [hv375_0] at ge375_0
                    have HL375_0 := am (show Kd.R k25 25 _ _ _ _ (rd_L3 t334 x23_4) from ge375_0)
                    clear hv375_0 ge375_0
                    clear hcc375 hce375
                    have HR375_0 := am hi375_0
                    have HC375_0 := am hl375_0
                    clear hi375_0 hl375_0
                    replace p375 := eq_true p375
                    replace q375 := eq_true q375
                    go_wp2
                    go_roundg k4
                    case measure => have := HJ7.out; have := HK2.out; have := HJ55.out; have := HK4.out; omega
                    case rel => exact ⟨(wrap64 (x22_4 + ((rd_L3 t334 x23_4).length : Int))), (wrap64 (x23_4 + 1)), pj, pj, H', ⟨by have := HJ7.out; have := HK2.out; have := HJ55.out; have := HK4.out; omega⟩, ⟨by refine kR ?_; exact HO_338001.out⟩, ⟨by refine kS ?_; exact HO_338002.out⟩, ⟨by refine kR ?_; exact HO_350001.out⟩, ⟨by refine kS ?_; exact HO_350002.out⟩, ⟨by refine kR ?_; exact HO_369000.out⟩, ⟨by refine kR ?_; exact HO_369001.out⟩, ⟨by refine bk ?_; exact BK328.out⟩, ⟨by refine bk ?_; exact BK337.out⟩, ⟨by refine bk ?_; exact BK349.out⟩, ⟨by refine bk ?_; exact BK368.out⟩, ⟨by repeat (first | (with_reducible exact HR358_0.out) | (with_reducible refine Kd.C_alloc ?_ _) | (with_reducible refine Kd.C_drewN ?_ _) | (with_reducible refine Kd.C_drew ?_) | exact HR358_0.out)⟩, ⟨by repeat (first | (with_reducible exact HR360_0.out) | (with_reducible refine Kd.C_alloc ?_ _) | (with_reducible refine Kd.C_drewN ?_ _) | (with_reducible refine Kd.C_drew ?_) | exact HR360_0.out)⟩, ⟨bl⟩⟩
                   ·rw [if_neg c89] at H
                    exact absurd H (by simp)
                  ·rw [if_neg c88] at H
                   exact absurd H (by simp)
                 ·rw [if_neg c87] at H
                  have c87b0 : decide (x23_4 < t355) = false := decide_eq_false c87
                  clear c87
                  by_cases c94 : 0 ≤ x11_2
                  ·rw [if_pos c94] at H
                   have c94b0 : decide (0 ≤ x11_2) = true := decide_eq_true c94
                   clear c94
                   by_cases c95 : x11_2 < (t345.length : Int)
                   ·rw [if_pos c95] at H
                    have c95b0 : decide (x11_2 < (t345.length : Int)) = true := decide_eq_true c95
                    clear c95
                    by_cases c96 : ((rd_L3 t345 x11_2).length : Int) > x22_4
                    ·rw [if_pos c96] at H
                     have c96b0 : decide (x22_4 < ((rd_L3 t345 x11_2).length : Int)) = true := decide_eq_true c96
                     clear c96
                     obtain rfl := Option.some.inj H
                     exact absurd HLAW.out (by decide)
                    ·rw [if_neg c96] at H
                     have c96b0 : decide (x22_4 < ((rd_L3 t345 x11_2).length : Int)) = false := decide_eq_false c96
                     clear c96
                     have H' := am H
                     clear H
                     have hnb97 := NB349_328.out
                     have hnc97 := NB328_349.out
                     have hnb98 := NB349_337.out
                     have hnc98 := NB337_349.out
                     have hnb99 := NB349_368.out
                     have hnc99 := NB368_349.out
                     have hcz100_0 : wr.cell? ⟨gb349, 0, none⟩ = some (.string t341) := (blk_cell BK349.out 0).trans rfl
                     have hcz100_1 : wr.cell? ⟨gb349, 1, none⟩ = some (.slice (some ad350) t342.length co25) := (blk_cell BK349.out 1).trans rfl
                     have hcz100_2 : wr.cell? ⟨gb349, 2, none⟩ = some (.slice (some ad358) t345.length co27) := (blk_cell BK349.out 2).trans rfl
                     have hfz100_0 := blk_frozen BK349.out 0
                     have hfz100_1 := blk_frozen BK349.out 1
                     have hfz100_2 := blk_frozen BK349.out 2
                     have p376 : 0 ≤ (x11_2 : Int) := of_decide_eq_true as0
                     have q376 : x11_2 < (t345.length : Int) := of_decide_eq_true as0
                     obtain ⟨ad376, A376_0, c376_0, e376, hx376_0, hl376_0, hi376_0⟩ := at_L3 (Kd.S_reads' HO_350002.out).2.2 x11_2 p376 q376
                     obtain rfl : ad358 = ad376 := (by injection e376)
                     obtain ⟨ce376, hce376, hMe376, hcc376⟩ := Kd.S_get HO_350002.out [] x11_2 p376 (by first | exact q376 | exact of_decide_eq_true as0 | (have e_ := (Kd.S_reads' HO_350002.out).1; omega))
                     obtain ⟨ve376_0, rfl, ge376_0⟩ := hMe376
                     have hv376_0 := hcc376 0 _ rfl
                     rw [Nat.add_zero, show ((Kd.slice 25 k25)).sz = 1 from rfl, Nat.mul_one] at hv376_0
                     replace hv376_0 := Option.some.inj (hv376_0.symm.trans hx376_0)
                     rw [hv376_0] at ge376_0
                     have HL376_0 := am (show Kd.R k25 25 _ _ _ _ (rd_L3 t345 x11_2) from ge376_0)
                     clear hv376_0 ge376_0
                     clear hcc376 hce376
                     have HR376_0 := am hi376_0
                     have HC376_0 := am hl376_0
                     clear hi376_0 hl376_0
                     replace p376 := eq_true p376
                     replace q376 := eq_true q376
                     go_wp2
                     go_roundg k4
                     case measure => have := HJ7.out; have := HK2.out; have := HJ55.out; have := HK4.out; omega
                     case rel => exact ⟨(wrap64 (x11_2 + 1)), pj, H', ⟨by have := HJ7.out; have := HK2.out; have := HJ55.out; have := HK4.out; omega⟩, ⟨by refine kR ?_; exact HO_338001.out⟩, ⟨by refine kS ?_; exact HO_338002.out⟩, ⟨by refine kR ?_; exact HO_350001.out⟩, ⟨by refine kS ?_; exact HO_350002.out⟩, ⟨by refine bk ?_; exact BK328.out⟩, ⟨by refine bk ?_; exact BK337.out⟩, ⟨by refine bk ?_; exact BK349.out⟩, ⟨bl⟩⟩
                   ·rw [if_neg c95] at H
                    exact absurd H (by simp)
                  ·rw [if_neg c94] at H
                   exact absurd H (by simp)
          ·rw [if_neg c41] at H
           exact absurd H (by simp)
         ·rw [if_neg c40] at H
          exact absurd H (by simp)
        ·rw [if_neg c37] at H
         exact absurd H (by simp)
       ·rw [if_neg c36] at H
        exact absurd H (by simp)
      ·rw [if_neg c35] at H
       have c35b0 : decide (x11_2 < (t345.length : Int)) = false := decide_eq_false c35
       clear c35
       obtain rfl := Option.some.inj H
       simp only [Option.some.injEq, Prod.mk.injEq] at H
       obtain ⟨rfl⟩ := H
       have hnb101 := NB349_328.out
       have hnc101 := NB328_349.out
       have hnb102 := NB349_337.out
       have hnc102 := NB337_349.out
       have hcz103_0 : wr.cell? ⟨gb349, 0, none⟩ = some (.string t341) := (blk_cell BK349.out 0).trans rfl
       have hcz103_1 : wr.cell? ⟨gb349, 1, none⟩ = some (.slice Ao25 t342.length co25) := (blk_cell BK349.out 1).trans rfl
       have hcz103_2 : wr.cell? ⟨gb349, 2, none⟩ = some (.slice Ao27 t345.length co27) := (blk_cell BK349.out 2).trans rfl
       have hfz103_0 := blk_frozen BK349.out 0
       have hfz103_1 := blk_frozen BK349.out 1
       have hfz103_2 := blk_frozen BK349.out 2
       go_wp2
       go_ret
       exact ⟨by first | rfl | (simp [errW_none, errW_some] <;> rfl) | (simp [*, errW_none, errW_some] <;> rfl), bl⟩
end Go.Proofs.YtegjegihcebimaaDoor.P
end
section
namespace Go.Proofs.YtegjegihcebimaaDoor.Pure
open Go.RowKit Go.Proofs.YtegjegihcebimaaDoor.P Go.Proofs.YtegjegihcebimaaDoorW.PrintWords Go.Proofs.YtegjegihcebimaaDoorW.PrintLast Go.Proofs.YtegjegihcebimaaDoorW.PrintMore
set_option linter.unusedVariables false
set_option linter.unusedSimpArgs false
theorem w64 {x : Int} (h0 : -9223372036854775808 ≤ x) (h1 : x ≤ 9223372036854775807) : wrap64 x = x := by unfold wrap64; omega
def sizeS (n : Int) : Int := if n < 0 ∨ 1114111 < n ∨ (55296 ≤ n ∧ n ≤ 57343) then 0 else if n < 128 then 1 else if n < 2048 then 2 else if n < 65536 then 3 else 4
theorem size_f (k : Nat) (n : Int) : epitomeref01_size.f (k + 1) n = some (sizeS n) := by
 have e : ∀ b, epitomeref01_size.j0 (k + 1) n b = if b = true then some 0 else some (if n < 128 then 1 else if n < 2048 then 2 else if n < 65536 then 3 else 4) := by
  intro b
  simp only [epitomeref01_size.j0]
  cases b
  ·simp only [Bool.false_eq_true, if_false]
   repeat' split
   all_goals rfl
  ·simp only [if_true]
 unfold epitomeref01_size.f sizeS
 by_cases c : n < 0
 ·rw [if_pos c, if_pos (.inl c), e, if_pos rfl]
 ·rw [if_neg c]
  by_cases c1 : n > 1114111
  ·rw [if_pos c1, if_pos (.inr (.inl c1)), e, if_pos rfl]
  ·rw [if_neg c1]
   by_cases c2 : n ≥ 55296
   ·rw [if_pos c2, e]
    by_cases c3 : n ≤ 57343
    ·rw [if_pos (by simpa using c3), if_pos (.inr (.inr ⟨c2, c3⟩))]
    ·rw [if_neg (by simpa using c3), if_neg (show ¬ (n < 0 ∨ 1114111 < n ∨ (55296 ≤ n ∧ n ≤ 57343)) by omega)]
   ·rw [if_neg c2, e, if_neg (by decide), if_neg (show ¬ (n < 0 ∨ 1114111 < n ∨ (55296 ≤ n ∧ n ≤ 57343)) by omega)]
def ofB (l : List Int) : List Int := (l.filter fun c => decide (isRune c)).flatMap Lib.encodeRuneZ
theorem ofB_len : ∀ l : List Int, (ofB l).length ≤ 4 * l.length
 | [] => by simp [ofB]
 | c :: l => by
  have ih := ofB_len l
  have hc := Lib.encodeRuneZ_length c
  unfold ofB at *
  rw [List.filter_cons]
  split
  ·rw [List.flatMap_cons, List.length_append, List.length_cons]; omega
  ·rw [List.length_cons]; omega
theorem ofB_next (l : List Int) (k : Nat) (h : k < l.length) : ofB (l.take (k + 1)) = ofB (l.take k) ++ (if isRune (l.getD k 0) then Lib.encodeRuneZ (l.getD k 0) else []) := by
 have e : l.getD k 0 = l[k] := by rw [List.getD_eq_getElem?_getD, List.getElem?_eq_getElem h]; rfl
 rw [e, List.take_succ_eq_append_getElem h]
 unfold ofB
 rw [List.filter_append, List.flatMap_append]
 congr 1
 by_cases c : isRune l[k]
 ·rw [if_pos c, List.filter_cons, if_pos (by simpa using c)]; simp
 ·rw [if_neg c, List.filter_cons, if_neg (by simpa using c)]; simp
theorem ofB_str (l : List Int) : strOfNums (ofB l) = enc (l.filter fun c => decide (isRune c)) := by
 apply bytes_ext
 rw [strOfNums_data, enc_list, encB, ofB, List.map_flatMap, List.flatMap_def]
 rfl
set_option maxHeartbeats 1000000 in
theorem of_l (l : List Int) (hl : 4 * l.length < 140737488355000) (hw : ∀ x ∈ l, -2147483648 ≤ x ∧ x ≤ 2147483647) :
  ∀ (d i k : Nat), l.length - i = d → i ≤ l.length → d + 3 ≤ k → epitomeref01_Of.l0 k l (ofB (l.take i)) (i : Int) = some (enc (l.filter fun c => decide (isRune c))) := by
 intro d
 induction d with
 | zero =>
  intro i k hd hi hk
  obtain ⟨k, rfl⟩ : ∃ m, k = m + 1 := ⟨k - 1, by omega⟩
  simp only [epitomeref01_Of.l0]
  rw [if_neg (by omega), List.take_of_length_le (by omega), ofB_str]
 | succ d ih =>
  intro i k hd hi hk
  obtain ⟨k, rfl⟩ : ∃ m, k = m + 2 := ⟨k - 2, by omega⟩
  have hb := ofB_len (l.take i)
  rw [List.length_take] at hb
  have hn := ofB_next l i (by omega)
  have hx : -2147483648 ≤ l.getD i 0 ∧ l.getD i 0 ≤ 2147483647 := by
   rw [List.getD_eq_getElem?_getD, List.getElem?_eq_getElem (by omega)]
   exact hw _ (List.getElem_mem _)
  have next := ih (i + 1) (k + 1) (by omega) (by omega) (by omega)
  rw [hn] at next
  simp only [epitomeref01_Of.l0]
  rw [if_pos (by omega), if_pos (by omega), size_f, Option.bind_some, w64 (x := (i : Int) + 1) (by omega) (by omega)]
  rw [show (i : Int) + 1 = ((i + 1 : Nat) : Int) by omega]
  unfold rd
  rw [Int.toNat_natCast]
  generalize l.getD i 0 = x at *
  simp only [w64 (x := x) (by omega) (by omega)]
  by_cases r : isRune x
  ·rw [if_pos r] at next
   unfold isRune at r
   rcases (by omega : (0 ≤ x ∧ x ≤ 127) ∨ (128 ≤ x ∧ x ≤ 2047) ∨ ((2048 ≤ x ∧ x < 55296) ∨ (57343 < x ∧ x ≤ 65535)) ∨ (65536 ≤ x ∧ x ≤ 1114111)) with g | g | g | g
   ·have z : sizeS x = 1 := by unfold sizeS; rw [if_neg (by omega), if_pos (by omega)]
    rw [Lib.encodeRuneZ_one g.1 g.2] at next
    rw [z, if_pos rfl, if_pos (by omega), Int.emod_eq_of_lt (by omega) (by omega)]
    exact next
   ·have z : sizeS x = 2 := by unfold sizeS; rw [if_neg (by omega), if_neg (by omega), if_pos (by omega)]
    rw [Lib.encodeRuneZ_two g.1 g.2] at next
    rw [z, if_neg (by decide), if_pos rfl, Option.bind_some, if_pos (by simp only [List.length_cons, List.length_nil]; omega)]
    rw [Int.tdiv_eq_ediv_of_nonneg (by omega), Int.tmod_eq_emod_of_nonneg (by omega), w64 (x := x / 64) (by omega) (by omega), w64 (x := 192 + x / 64) (by omega) (by omega), w64 (x := 128 + x % 64) (by omega) (by omega), Int.emod_eq_of_lt (a := 192 + x / 64) (by omega) (by omega), Int.emod_eq_of_lt (a := 128 + x % 64) (by omega) (by omega)]
    exact next
   ·have z : sizeS x = 3 := by unfold sizeS; rw [if_neg (by omega), if_neg (by omega), if_neg (by omega), if_pos (by omega)]
    have e : Lib.encodeRuneZ x = [224 + x / 4096, 128 + x / 64 % 64, 128 + x % 64] := by
     unfold Lib.encodeRuneZ; rw [if_neg (by omega), if_neg (by omega), if_pos g]
    rw [e] at next
    rw [z, if_neg (by decide), if_neg (by decide), if_pos rfl, Option.bind_some, if_pos (by simp only [List.length_cons, List.length_nil]; omega)]
    rw [Int.tdiv_eq_ediv_of_nonneg (b := 4096) (by omega), Int.tdiv_eq_ediv_of_nonneg (b := 64) (by omega), w64 (x := x / 64) (by omega) (by omega), Int.tmod_eq_emod_of_nonneg (a := x) (by omega), Int.tmod_eq_emod_of_nonneg (a := x / 64) (by omega), w64 (x := x / 4096) (by omega) (by omega), w64 (x := 224 + x / 4096) (by omega) (by omega), w64 (x := 128 + x / 64 % 64) (by omega) (by omega), w64 (x := 128 + x % 64) (by omega) (by omega),
     Int.emod_eq_of_lt (a := 224 + x / 4096) (by omega) (by omega), Int.emod_eq_of_lt (a := 128 + x / 64 % 64) (by omega) (by omega), Int.emod_eq_of_lt (a := 128 + x % 64) (by omega) (by omega)]
    exact next
   ·have z : sizeS x = 4 := by unfold sizeS; rw [if_neg (by omega), if_neg (by omega), if_neg (by omega), if_neg (by omega)]
    have e : Lib.encodeRuneZ x = [240 + x / 262144, 128 + x / 4096 % 64, 128 + x / 64 % 64, 128 + x % 64] := by
     unfold Lib.encodeRuneZ; rw [if_neg (by omega), if_neg (by omega), if_neg (by omega), if_pos g]
    rw [e] at next
    rw [z, if_neg (by decide), if_neg (by decide), if_neg (by decide), if_pos rfl, Option.bind_some, if_pos (by simp only [List.length_cons, List.length_nil]; omega)]
    rw [Int.tdiv_eq_ediv_of_nonneg (b := 262144) (by omega), Int.tdiv_eq_ediv_of_nonneg (b := 4096) (by omega), Int.tdiv_eq_ediv_of_nonneg (b := 64) (by omega), w64 (x := x / 64) (by omega) (by omega), w64 (x := x / 4096) (by omega) (by omega), Int.tmod_eq_emod_of_nonneg (a := x) (by omega), Int.tmod_eq_emod_of_nonneg (a := x / 64) (by omega), Int.tmod_eq_emod_of_nonneg (a := x / 4096) (by omega), w64 (x := x / 262144) (by omega) (by omega), w64 (x := 240 + x / 262144) (by omega) (by omega), w64 (x := 128 + x / 4096 % 64) (by omega) (by omega), w64 (x := 128 + x / 64 % 64) (by omega) (by omega), w64 (x := 128 + x % 64) (by omega) (by omega),
     Int.emod_eq_of_lt (a := 240 + x / 262144) (by omega) (by omega), Int.emod_eq_of_lt (a := 128 + x / 4096 % 64) (by omega) (by omega), Int.emod_eq_of_lt (a := 128 + x / 64 % 64) (by omega) (by omega), Int.emod_eq_of_lt (a := 128 + x % 64) (by omega) (by omega)]
    exact next
  ·rw [if_neg r, List.append_nil] at next
   have z : sizeS x = 0 := by unfold isRune at r; unfold sizeS; rw [if_pos (by omega)]
   rw [z, if_neg (by decide), if_neg (by decide), if_neg (by decide), if_neg (by decide)]
   exact next
theorem refOf (l : List Int) (hl : 4 * l.length < 140737488355000) (hw : ∀ x ∈ l, -2147483648 ≤ x ∧ x ≤ 2147483647) (k : Nat) (hk : l.length + 3 ≤ k) :
  epitomeref01_Of.f k l = some (enc (l.filter fun c => decide (isRune c))) := by
 unfold epitomeref01_Of.f
 exact of_l l hl hw l.length 0 k rfl (Nat.zero_le _) hk
theorem fit_rune (s : ByteArray) : Runes (epitomeref01_Fit.l s) := by
 intro c hc
 unfold epitomeref01_Fit.l at hc
 obtain ⟨b, _, rfl⟩ := List.mem_map.mp hc
 have h8 : b.toNat % 8 < 8 := Nat.mod_lt _ (by decide)
 generalize b.toNat % 8 = m at *
 rcases (by omega : m = 0 ∨ m = 1 ∨ m = 2 ∨ m = 3 ∨ m = 4 ∨ m = 5 ∨ m = 6 ∨ m = 7) with rfl | rfl | rfl | rfl | rfl | rfl | rfl | rfl <;> decide
theorem filter_runes {l : List Int} (h : Runes l) : (l.filter fun c => decide (isRune c)) = l := List.filter_eq_self.mpr fun c hc => by simpa using h c hc
theorem valid_ok {l : List Int} (h : Runes l) (hs : (enc l).size ≤ 9999) : points_Valid.f (enc l) = some true := by
 unfold points_Valid.f; rw [if_pos (by omega), validT_enc h]
theorem bt_get (s : ByteArray) (i : Nat) : bt s (i : Int) = ((s.data.toList.getD i 0).toNat : Int) := by
 unfold bt
 rw [Int.toNat_natCast]
 split
 ·rename_i h
  rw [List.getD_eq_getElem?_getD, List.getElem?_eq_getElem (by rw [Array.length_toList]; exact h)]
  rfl
 ·rename_i h
  rw [List.getD_eq_getElem?_getD, List.getElem?_eq_none (by rw [Array.length_toList]; exact Nat.le_of_not_lt h)]
  rfl
theorem size_list (s : ByteArray) : s.data.toList.length = s.size := by rw [Array.length_toList]; rfl
def firstS (n b0 b1 b2 b3 : Nat) : Int × Int := if Lib.decodeN n b0 b1 b2 b3 = (65533, 1) then (0, 0) else (((Lib.decodeN n b0 b1 b2 b3).1 : Int), ((Lib.decodeN n b0 b1 b2 b3).2 : Int))
theorem first_round (k : Nat) (s : ByteArray) (m c : Int) (i : Nat) (hs : s.size ≤ 9223372036854775806) (hi : (i : Int) ≤ m) (hl : i < s.size) (hc0 : 0 ≤ c) (hc : c < 16777216) :
  epitomeref01_first.l0 (k + 1) s m c (i : Int) = if bt s (i : Int) < 128 ∨ 191 < bt s (i : Int) then some (0, 0) else epitomeref01_first.l0 k s m (c * 64 + bt s (i : Int) - 128) ((i + 1 : Nat) : Int) := by
 have hb := bt_range s (i : Int)
 simp only [epitomeref01_first.l0]
 rw [if_pos hi, if_pos (by omega), if_pos (by omega), w64 (x := bt s (i : Int)) (by omega) (by omega), w64 (x := c * 64) (by omega) (by omega), w64 (x := c * 64 + bt s (i : Int)) (by omega) (by omega), w64 (x := c * 64 + bt s (i : Int) - 128) (by omega) (by omega), w64 (x := (i : Int) + 1) (by omega) (by omega)]
 by_cases c1 : bt s (i : Int) < 128
 ·rw [if_pos c1, if_pos (.inl c1)]
 ·rw [if_neg c1]
  by_cases c2 : bt s (i : Int) > 191
  ·rw [if_pos c2, if_pos (.inr c2)]
  ·rw [if_neg c2, if_neg (by omega)]; rfl
theorem first_end (k : Nat) (s : ByteArray) (m : Nat) (c : Int) (i : Int) (hm : m < 8) (hi : ¬ i ≤ (m : Int)) :
  epitomeref01_first.l0 (k + 2) s (m : Int) c i = if sizeS c = (m : Int) + 1 then some (c, (m : Int) + 1) else some (0, 0) := by
 simp only [epitomeref01_first.l0]
 rw [if_neg hi, size_f, w64 (by omega) (by omega)]
 rfl
set_option maxHeartbeats 2000000 in
theorem first_f (k : Nat) (s : ByteArray) (h0 : 0 < s.size) (hs : s.size ≤ 9223372036854775806) :
  epitomeref01_first.f (k + 12) s = some (firstS s.size (s.data.toList.getD 0 0).toNat (s.data.toList.getD 1 0).toNat (s.data.toList.getD 2 0).toNat (s.data.toList.getD 3 0).toNat) := by
 have e0 := bt_get s 0
 have e1 := bt_get s 1
 have e2 := bt_get s 2
 have e3 := bt_get s 3
 have hb0 : (s.data.toList.getD 0 0).toNat < 256 := (s.data.toList.getD 0 0).toNat_lt
 have hb1 : (s.data.toList.getD 1 0).toNat < 256 := (s.data.toList.getD 1 0).toNat_lt
 have hb2 : (s.data.toList.getD 2 0).toNat < 256 := (s.data.toList.getD 2 0).toNat_lt
 have hb3 : (s.data.toList.getD 3 0).toNat < 256 := (s.data.toList.getD 3 0).toNat_lt
 generalize (s.data.toList.getD 0 0).toNat = b0 at *
 generalize (s.data.toList.getD 1 0).toNat = b1 at *
 generalize (s.data.toList.getD 2 0).toNat = b2 at *
 generalize (s.data.toList.getD 3 0).toNat = b3 at *
 unfold epitomeref01_first.f
 rw [if_neg (by omega), if_pos (by omega), show (0 : Int) = ((0 : Nat) : Int) from rfl, e0, w64 (by omega) (by omega)]
 have lead : (if (b0 : Int) ≥ 240 then epitomeref01_first.j0 (k + 12) s (b0 : Int) ((0 : Nat) : Int) (b0 : Int) (decide ((b0 : Int) < 248)) else epitomeref01_first.j0 (k + 12) s (b0 : Int) ((0 : Nat) : Int) (b0 : Int) false) =
   if 240 ≤ b0 ∧ b0 < 248 then epitomeref01_first.j3 (k + 11) s 3 ((b0 : Int) - 240)
   else if 224 ≤ b0 ∧ b0 < 240 then epitomeref01_first.j3 (k + 10) s 2 ((b0 : Int) - 224)
   else if 192 ≤ b0 ∧ b0 < 224 then epitomeref01_first.j3 (k + 9) s 1 ((b0 : Int) - 192)
   else if 128 ≤ b0 then some (0, 0) else epitomeref01_first.j3 (k + 9) s 0 (b0 : Int) := by
  rcases (by omega : b0 < 128 ∨ (128 ≤ b0 ∧ b0 < 192) ∨ (192 ≤ b0 ∧ b0 < 224) ∨ (224 ≤ b0 ∧ b0 < 240) ∨ (240 ≤ b0 ∧ b0 < 248) ∨ 248 ≤ b0) with g | g | g | g | g | g
  ·rw [if_neg (by omega), if_neg (by omega), if_neg (by omega), if_neg (by omega), if_neg (by omega)]
   simp only [epitomeref01_first.j0, Bool.false_eq_true, if_false]
   rw [if_neg (by omega)]
   simp only [epitomeref01_first.j1, Bool.false_eq_true, if_false]
   rw [if_neg (by omega)]
   simp only [epitomeref01_first.j2, Bool.false_eq_true, if_false]
   rw [if_neg (by omega)]; rfl
  ·rw [if_neg (by omega), if_neg (by omega), if_neg (by omega), if_neg (by omega), if_pos (by omega)]
   simp only [epitomeref01_first.j0, Bool.false_eq_true, if_false]
   rw [if_neg (by omega)]
   simp only [epitomeref01_first.j1, Bool.false_eq_true, if_false]
   rw [if_neg (by omega)]
   simp only [epitomeref01_first.j2, Bool.false_eq_true, if_false]
   rw [if_pos (by omega)]
  ·rw [if_neg (by omega), if_neg (by omega), if_neg (by omega), if_pos (by omega)]
   simp only [epitomeref01_first.j0, Bool.false_eq_true, if_false]
   rw [if_neg (by omega)]
   simp only [epitomeref01_first.j1, Bool.false_eq_true, if_false]
   rw [if_pos (by omega), decide_eq_true (by omega)]
   simp only [epitomeref01_first.j2, if_true]
   rw [w64 (by omega) (by omega)]
  ·rw [if_neg (by omega), if_neg (by omega), if_pos (by omega)]
   simp only [epitomeref01_first.j0, Bool.false_eq_true, if_false]
   rw [if_pos (by omega), decide_eq_true (by omega)]
   simp only [epitomeref01_first.j1, if_true]
   rw [w64 (by omega) (by omega)]
  ·rw [if_pos (by omega), if_pos (by omega), decide_eq_true (by omega)]
   simp only [epitomeref01_first.j0, if_true]
   rw [w64 (by omega) (by omega)]
  ·rw [if_pos (by omega), if_neg (by omega), if_neg (by omega), if_neg (by omega), if_pos (by omega), decide_eq_false (by omega)]
   simp only [epitomeref01_first.j0, Bool.false_eq_true, if_false]
   rw [if_pos (by omega), decide_eq_false (by omega)]
   simp only [epitomeref01_first.j1, Bool.false_eq_true, if_false]
   rw [if_pos (by omega), decide_eq_false (by omega)]
   simp only [epitomeref01_first.j2, Bool.false_eq_true, if_false]
   rw [if_pos (by omega)]
 rw [lead]
 clear lead
 unfold firstS
 rcases (by omega : b0 < 128 ∨ (128 ≤ b0 ∧ b0 < 192) ∨ (192 ≤ b0 ∧ b0 < 224) ∨ (224 ≤ b0 ∧ b0 < 240) ∨ (240 ≤ b0 ∧ b0 < 248) ∨ 248 ≤ b0) with g | g | g | g | g | g
 ·rw [if_neg (by omega), if_neg (by omega), if_neg (by omega), if_neg (by omega)]
  simp only [epitomeref01_first.j3]
  rw [w64 (by omega) (by omega), if_neg (by omega), show (0 : Int) = ((0 : Nat) : Int) from rfl]
  rw [show epitomeref01_first.l0 (k + 8) s ((0 : Nat) : Int) (b0 : Int) 1 = _ from first_end (k + 6) s 0 (b0 : Int) 1 (by omega) (by omega)]
  have e : Lib.decodeN s.size b0 b1 b2 b3 = (b0, 1) := Lib.decodeN_ascii _ _ _ _ _ g
  have z : sizeS (b0 : Int) = 1 := by unfold sizeS; rw [if_neg (by omega), if_pos (by omega)]
  rw [z, if_pos (by rfl), e, if_neg (by simp; omega)]
  rfl
 ·rw [if_neg (by omega), if_neg (by omega), if_neg (by omega), if_pos (by omega)]
  have e : Lib.decodeN s.size b0 b1 b2 b3 = (65533, 1) := by unfold Lib.decodeN; rw [if_neg (by omega), if_neg (by omega), if_neg (by omega), if_neg (by omega)]
  rw [e, if_pos rfl]
 ·rw [if_neg (by omega), if_neg (by omega), if_pos (by omega)]
  simp only [epitomeref01_first.j3]
  rw [w64 (by omega) (by omega)]
  by_cases n1 : s.size < 2
  ·rw [if_pos (by omega)]
   have e : Lib.decodeN s.size b0 b1 b2 b3 = (65533, 1) := by unfold Lib.decodeN; rw [if_neg (by omega), if_neg (by omega), if_neg (by omega), if_neg (by omega)]
   rw [e, if_pos rfl]
  ·rw [if_neg (by omega), show (1 : Int) = ((1 : Nat) : Int) from rfl, first_round _ s _ _ 1 hs (by omega) (by omega) (by omega) (by omega), e1]
   by_cases c1 : (b1 : Int) < 128 ∨ 191 < (b1 : Int)
   ·rw [if_pos c1]
    have e : Lib.decodeN s.size b0 b1 b2 b3 = (65533, 1) := by unfold Lib.decodeN; rw [if_neg (by omega), if_neg (by omega), if_neg (by omega), if_neg (by omega)]
    rw [e, if_pos rfl]
   ·rw [if_neg c1, first_end _ s 1 _ _ (by omega) (by omega)]
    have e : Lib.decodeN s.size b0 b1 b2 b3 = if b0 % 32 * 64 + b1 % 64 ≥ 128 then (b0 % 32 * 64 + b1 % 64, 2) else (65533, 1) := by unfold Lib.decodeN; rw [if_neg (by omega), if_pos (by omega)]
    rw [e]
    clear e
    by_cases v : b0 % 32 * 64 + b1 % 64 ≥ 128
    ·have z : sizeS (((b0 : Int) - 192) * 64 + (b1 : Int) - 128) = ((1 : Nat) : Int) + 1 := by unfold sizeS; rw [if_neg (by omega), if_neg (by omega), if_pos (by omega)]; rfl
     rw [if_pos z, if_pos v, if_neg (by simp)]
     refine congrArg some (Prod.ext ?_ ?_) <;> simp only [] <;> omega
    ·have z : ¬ sizeS (((b0 : Int) - 192) * 64 + (b1 : Int) - 128) = ((1 : Nat) : Int) + 1 := by unfold sizeS; rw [if_neg (by omega), if_pos (by omega)]; omega
     rw [if_neg z, if_neg v, if_pos rfl]
 ·rw [if_neg (by omega), if_pos (by omega)]
  simp only [epitomeref01_first.j3]
  rw [w64 (by omega) (by omega)]
  by_cases n1 : s.size < 3
  ·rw [if_pos (by omega)]
   have e : Lib.decodeN s.size b0 b1 b2 b3 = (65533, 1) := by unfold Lib.decodeN; rw [if_neg (by omega), if_neg (by omega), if_neg (by omega), if_neg (by omega)]
   rw [e, if_pos rfl]
  ·rw [if_neg (by omega), show (1 : Int) = ((1 : Nat) : Int) from rfl, first_round _ s _ _ 1 hs (by omega) (by omega) (by omega) (by omega), e1]
   by_cases c1 : (b1 : Int) < 128 ∨ 191 < (b1 : Int)
   ·rw [if_pos c1]
    have e : Lib.decodeN s.size b0 b1 b2 b3 = (65533, 1) := by unfold Lib.decodeN; rw [if_neg (by omega), if_neg (by omega), if_neg (by omega), if_neg (by omega)]
    rw [e, if_pos rfl]
   ·rw [if_neg c1, show ((1 + 1 : Nat) : Int) = ((2 : Nat) : Int) from rfl, first_round _ s _ _ 2 hs (by omega) (by omega) (by omega) (by omega), e2]
    by_cases c2 : (b2 : Int) < 128 ∨ 191 < (b2 : Int)
    ·rw [if_pos c2]
     have e : Lib.decodeN s.size b0 b1 b2 b3 = (65533, 1) := by unfold Lib.decodeN; rw [if_neg (by omega), if_neg (by omega), if_neg (by omega), if_neg (by omega)]
     rw [e, if_pos rfl]
    ·rw [if_neg c2, show (2 : Int) = ((2 : Nat) : Int) from rfl, first_end _ s 2 _ _ (by omega) (by omega)]
     have e : Lib.decodeN s.size b0 b1 b2 b3 = if b0 % 16 * 4096 + b1 % 64 * 64 + b2 % 64 ≥ 2048 ∧ (b0 % 16 * 4096 + b1 % 64 * 64 + b2 % 64 < 55296 ∨ (57344 ≤ b0 % 16 * 4096 + b1 % 64 * 64 + b2 % 64 ∧ b0 % 16 * 4096 + b1 % 64 * 64 + b2 % 64 ≤ 1114111)) then (b0 % 16 * 4096 + b1 % 64 * 64 + b2 % 64, 3) else (65533, 1) := by unfold Lib.decodeN; rw [if_neg (by omega), if_neg (by omega), if_pos (by omega)]
     rw [e]
     clear e
     by_cases v : b0 % 16 * 4096 + b1 % 64 * 64 + b2 % 64 ≥ 2048 ∧ (b0 % 16 * 4096 + b1 % 64 * 64 + b2 % 64 < 55296 ∨ (57344 ≤ b0 % 16 * 4096 + b1 % 64 * 64 + b2 % 64 ∧ b0 % 16 * 4096 + b1 % 64 * 64 + b2 % 64 ≤ 1114111))
     ·have z : sizeS ((((b0 : Int) - 224) * 64 + (b1 : Int) - 128) * 64 + (b2 : Int) - 128) = ((2 : Nat) : Int) + 1 := by unfold sizeS; rw [if_neg (by omega), if_neg (by omega), if_neg (by omega), if_pos (by omega)]; rfl
      rw [if_pos z, if_pos v, if_neg (by simp)]
      refine congrArg some (Prod.ext ?_ ?_) <;> simp only [] <;> omega
     ·have z : ¬ sizeS ((((b0 : Int) - 224) * 64 + (b1 : Int) - 128) * 64 + (b2 : Int) - 128) = ((2 : Nat) : Int) + 1 := by
       unfold sizeS
       split
       ·omega
       ·split
        ·omega
        ·rw [if_pos (by omega)]; omega
      rw [if_neg z, if_neg v, if_pos rfl]
 ·rw [if_pos (by omega)]
  simp only [epitomeref01_first.j3]
  rw [w64 (by omega) (by omega)]
  by_cases n1 : s.size < 4
  ·rw [if_pos (by omega)]
   have e : Lib.decodeN s.size b0 b1 b2 b3 = (65533, 1) := by unfold Lib.decodeN; rw [if_neg (by omega), if_neg (by omega), if_neg (by omega), if_neg (by omega)]
   rw [e, if_pos rfl]
  ·rw [if_neg (by omega), show (1 : Int) = ((1 : Nat) : Int) from rfl, first_round _ s _ _ 1 hs (by omega) (by omega) (by omega) (by omega), e1]
   by_cases c1 : (b1 : Int) < 128 ∨ 191 < (b1 : Int)
   ·rw [if_pos c1]
    have e : Lib.decodeN s.size b0 b1 b2 b3 = (65533, 1) := by unfold Lib.decodeN; rw [if_neg (by omega), if_neg (by omega), if_neg (by omega), if_neg (by omega)]
    rw [e, if_pos rfl]
   ·rw [if_neg c1, show ((1 + 1 : Nat) : Int) = ((2 : Nat) : Int) from rfl, first_round _ s _ _ 2 hs (by omega) (by omega) (by omega) (by omega), e2]
    by_cases c2 : (b2 : Int) < 128 ∨ 191 < (b2 : Int)
    ·rw [if_pos c2]
     have e : Lib.decodeN s.size b0 b1 b2 b3 = (65533, 1) := by unfold Lib.decodeN; rw [if_neg (by omega), if_neg (by omega), if_neg (by omega), if_neg (by omega)]
     rw [e, if_pos rfl]
    ·rw [if_neg c2, show ((2 + 1 : Nat) : Int) = ((3 : Nat) : Int) from rfl, first_round _ s _ _ 3 hs (by omega) (by omega) (by omega) (by omega), e3]
     by_cases c3 : (b3 : Int) < 128 ∨ 191 < (b3 : Int)
     ·rw [if_pos c3]
      have e : Lib.decodeN s.size b0 b1 b2 b3 = (65533, 1) := by unfold Lib.decodeN; rw [if_neg (by omega), if_neg (by omega), if_neg (by omega), if_neg (by omega)]
      rw [e, if_pos rfl]
     ·rw [if_neg c3, show (3 : Int) = ((3 : Nat) : Int) from rfl, first_end _ s 3 _ _ (by omega) (by omega)]
      have e : Lib.decodeN s.size b0 b1 b2 b3 = if b0 % 8 * 262144 + b1 % 64 * 4096 + b2 % 64 * 64 + b3 % 64 ≥ 65536 ∧ (b0 % 8 * 262144 + b1 % 64 * 4096 + b2 % 64 * 64 + b3 % 64 < 55296 ∨ (57344 ≤ b0 % 8 * 262144 + b1 % 64 * 4096 + b2 % 64 * 64 + b3 % 64 ∧ b0 % 8 * 262144 + b1 % 64 * 4096 + b2 % 64 * 64 + b3 % 64 ≤ 1114111)) then (b0 % 8 * 262144 + b1 % 64 * 4096 + b2 % 64 * 64 + b3 % 64, 4) else (65533, 1) := by unfold Lib.decodeN; rw [if_neg (by omega), if_neg (by omega), if_neg (by omega), if_pos (by omega)]
      rw [e]
      clear e
      by_cases v : b0 % 8 * 262144 + b1 % 64 * 4096 + b2 % 64 * 64 + b3 % 64 ≥ 65536 ∧ (b0 % 8 * 262144 + b1 % 64 * 4096 + b2 % 64 * 64 + b3 % 64 < 55296 ∨ (57344 ≤ b0 % 8 * 262144 + b1 % 64 * 4096 + b2 % 64 * 64 + b3 % 64 ∧ b0 % 8 * 262144 + b1 % 64 * 4096 + b2 % 64 * 64 + b3 % 64 ≤ 1114111))
      ·have z : sizeS (((((b0 : Int) - 240) * 64 + (b1 : Int) - 128) * 64 + (b2 : Int) - 128) * 64 + (b3 : Int) - 128) = ((3 : Nat) : Int) + 1 := by unfold sizeS; rw [if_neg (by omega), if_neg (by omega), if_neg (by omega), if_neg (by omega)]; rfl
       rw [if_pos z, if_pos v, if_neg (by simp)]
       refine congrArg some (Prod.ext ?_ ?_) <;> simp only [] <;> omega
      ·have z : ¬ sizeS (((((b0 : Int) - 240) * 64 + (b1 : Int) - 128) * 64 + (b2 : Int) - 128) * 64 + (b3 : Int) - 128) = ((3 : Nat) : Int) + 1 := by
        unfold sizeS
        split
        ·omega
        ·split
         ·omega
         ·split
          ·omega
          ·rw [if_pos (by omega)]; omega
       rw [if_neg z, if_neg v, if_pos rfl]
 ·rw [if_neg (by omega), if_neg (by omega), if_neg (by omega), if_pos (by omega)]
  have e : Lib.decodeN s.size b0 b1 b2 b3 = (65533, 1) := by unfold Lib.decodeN; rw [if_neg (by omega), if_neg (by omega), if_neg (by omega), if_neg (by omega)]
  rw [e, if_pos rfl]
theorem first_at (k : Nat) (s : ByteArray) (p : Nat) (hp : p < s.size) (hs : s.size ≤ 9223372036854775806) :
  epitomeref01_first.f (k + 12) (s.extract p s.size) = some (if Utf8.decode s p = (65533, 1) then (0, 0) else (((Utf8.decode s p).1 : Int), ((Utf8.decode s p).2 : Int))) := by
 have z : (s.extract p s.size).size = s.size - p := by rw [ByteArray.size_extract]; omega
 have hl : (s.extract p s.size).data.toList = s.data.toList.drop p := by
  rw [extract_list, List.take_of_length_le (by rw [size_list]; omega)]
 rw [first_f k _ (by omega) (by omega), firstS, hl]
 have e : Lib.decodeN (s.extract p s.size).size ((s.data.toList.drop p).getD 0 0).toNat ((s.data.toList.drop p).getD 1 0).toNat ((s.data.toList.drop p).getD 2 0).toNat ((s.data.toList.drop p).getD 3 0).toNat = Utf8.decode s p := by
  rw [← Lib.decodeL_drop, Lib.decodeL_N, z]
  rw [show (s.data.toList.drop p).length = s.size - p by rw [List.length_drop, size_list]]
 rw [e]
theorem valid_at (s : ByteArray) (p : Nat) (hp : p < s.size) :
  Lib.validD (s.data.toList.drop p) = if Utf8.decode s p = (65533, 1) then false else Lib.validD (s.data.toList.drop (p + (Utf8.decode s p).2)) := by
 have hne : s.data.toList.drop p ≠ [] := by
  intro e0
  have := congrArg List.length e0
  rw [List.length_drop, size_list, List.length_nil] at this
  omega
 rw [Lib.validD_step _ hne, Lib.decodeL_drop, List.drop_drop]
 by_cases c : Utf8.decode s p = (65533, 1)
 ·rw [if_pos c, c]; rfl
 ·rw [if_neg c, if_neg]
  rintro ⟨h1, h2⟩
  exact c (Prod.ext h1 h2)
def startsL (s : ByteArray) (n : Nat) : List Int := (List.range n).map fun k => (posT s k : Int)
theorem startsL_len (s : ByteArray) (n : Nat) : (startsL s n).length = n := by simp [startsL]
theorem startsL_succ (s : ByteArray) (n : Nat) : startsL s (n + 1) = startsL s n ++ [(posT s n : Int)] := by simp [startsL, List.range_succ]
def startsS (s : ByteArray) : List Int × Bool := if validT s then (startsL s (Lib.runeCount s + 1), true) else ([], false)
theorem starts_l (s : ByteArray) (hs : s.size ≤ 17592186044414) : ∀ (d j k : Nat), s.size - posT s j = d → d + 14 ≤ k → j ≤ posT s j → validT s = Lib.validD (s.data.toList.drop (posT s j)) →
  (∃ b, j + Lib.runeCountFrom s b (posT s j) = Lib.runeCount s ∧ s.size ≤ posT s j + b) → epitomeref01_Starts.l0 k s (startsL s (j + 1)) (posT s j : Int) = some (startsS s) := by
 intro d
 induction d using Nat.strongRecOn with
 | _ d ih =>
  intro j k hd hk hj hv hb
  obtain ⟨k, rfl⟩ : ∃ m, k = m + 1 := ⟨k - 1, by omega⟩
  have hp0 := posT_le s j
  simp only [epitomeref01_Starts.l0]
  by_cases c : posT s j < s.size
  ·rw [if_pos (by omega), if_pos (by omega), if_pos (by omega), Int.toNat_natCast]
   obtain ⟨m, rfl⟩ : ∃ m, k = m + 12 := ⟨k - 12, by omega⟩
   rw [first_at m s _ c (by omega), Option.bind_some]
   have hw := Lib.decode_width_pos s _ c
   have hpos : posT s (j + 1) = posT s j + (Utf8.decode s (posT s j)).2 := by rw [posT, if_pos c]
   have hle := posT_le s (j + 1)
   rw [valid_at s _ c] at hv
   by_cases g : Utf8.decode s (posT s j) = (65533, 1)
   ·rw [if_pos g] at hv ⊢
    rw [if_pos rfl]
    unfold startsS
    rw [hv]; rfl
   ·rw [if_neg g] at hv ⊢
    rw [if_neg (show ¬ (((Utf8.decode s (posT s j)).2 : Int) = 0) by omega), if_pos (by rw [startsL_len]; omega)]
    rw [w64 (by omega) (by omega), show ((posT s j : Int) + ((Utf8.decode s (posT s j)).2 : Int)) = (posT s (j + 1) : Int) by omega, ← startsL_succ]
    obtain ⟨b, hb1, hb2⟩ := hb
    obtain ⟨r1, r2⟩ := runeCount_from s j b hb1 hb2 c
    exact ih _ (by omega) (j + 1) _ rfl (by omega) (by omega) (by rw [hv, hpos]) ⟨b - 1, r1, r2⟩
  ·rw [if_neg (by omega)]
   obtain ⟨b, hb1, hb2⟩ := hb
   have he := posT_end s c
   have hz : Lib.runeCountFrom s b (posT s j) = 0 := by
    cases b with
    | zero => rfl
    | succ b => simp only [Lib.runeCountFrom]; rw [if_neg c]
   rw [hz] at hb1
   rw [List.drop_of_length_le (by rw [size_list]; omega)] at hv
   unfold startsS
   rw [hv, show j = Lib.runeCount s by omega]; rfl
theorem starts_f (s : ByteArray) (hs : s.size ≤ 17592186044414) (k : Nat) (hk : s.size + 14 ≤ k) : epitomeref01_Starts.f k s = some (startsS s) :=
 starts_l s hs s.size 0 k (by rw [posT]; omega) (by omega) (Nat.zero_le _) (by rw [posT]; rfl) ⟨s.size, by rw [posT]; simp only [Nat.zero_add]; rfl, by rw [posT]; omega⟩
theorem refCount (s : ByteArray) (hs : s.size ≤ 17592186044414) (k : Nat) (hk : s.size + 14 ≤ k) : epitomeref01_Count.f k s = some (countT s) := by
 have hc := runeCount_lt s
 unfold epitomeref01_Count.f countT
 rw [starts_f s hs k hk, Option.bind_some, startsS]
 cases validT s
 ·simp only [Bool.false_eq_true, if_false, List.length_nil]; rw [w64 (by omega) (by omega)]; rfl
 ·simp only [if_true, startsL_len]
  rw [w64 (by omega) (by omega)]
  refine congrArg some ?_
  omega
theorem ref_count {l : List Int} (h : Runes l) (hs : (enc l).size ≤ 1000000000) (k : Nat) (hk : (enc l).size + 14 ≤ k) : epitomeref01_Count.f k (enc l) = some (l.length : Int) := by
 rw [refCount _ (by omega) k hk, countT_enc h]
end Go.Proofs.YtegjegihcebimaaDoor.Pure
end
