/- Part 15 of the proof of topLogs_holds: out of the texts that this session's programs wrote, what the theorem reaches. -/
import Derived.Test.YtegjegihcebimaaDoorZ13
import Derived.Test.YtegjegihcebimaaDoorZ14
import Derived.Test.YtegjegihcebimaaDoorZ3
import Derived.Test.YtegjegihcebimaaDoorZ7
section
namespace Go.Proofs.YtegjegihcebimaaDoor.P
open Go.RowKit Go.Proofs.YtegjegihcebimaaDoorW.PrintWords Go.Proofs.YtegjegihcebimaaDoorW.PrintLast Go.Proofs.YtegjegihcebimaaDoorW.PrintMore
set_option linter.unusedVariables false
set_option linter.unusedSimpArgs false
def OpAt (w : World) (a : Addr) (o : OpV) : Prop :=
 ∃ AL cL AS cS, w.cell? a = some (.int .i64 o.kind) ∧ w.cell? (a.add 1) = some (.int .i64 o.rev) ∧ w.cell? (a.add 2) = some (.int .i64 o.floor) ∧ w.cell? (a.add 3) = some (.int .i64 o.who) ∧ w.cell? (a.add 4) = some (.slice AL o.l.length cL) ∧ w.cell? (a.add 5) = some (.slice AS o.set.length cS) ∧
  o.l.length ≤ cL ∧ Kd.C k25 w AL o.l.length o.l ∧ o.set.length ≤ cS ∧ Kd.C (Kd.int .i64) w AS o.set.length o.set
def OpsAt (w : World) (A : Option Addr) (l : List OpV) : Prop := 0 < l.length → ∃ ad, A = some ad ∧ ∀ (j : Nat) (h : j < l.length), OpAt w (ad.add (j * 6)) l[j]
structure LS where
 sb : ByteArray
 sr : List Int
 sl : List (List S25)
 sz : List Int
 ar : List Int
 al : List (List S25)
 az : List Int
inductive RoundOk (k : Nat) (u : ByteArray) (x : LS) (o : OpV) (y : LS) : Prop where
 | comp (kd q0 : Int) (q : Nat) (st : List Int) (rv : Int) (xx : List S25) (t : ByteArray) (nt : Int) (h : FitOk k u x.ar x.al o kd q0 q st rv xx t nt) (hk : (kd == 3) = true ∨ ((kd == 3) = false ∧ (kd == 1) = true))
   (h1 : compact_Of.f k x.sb x.sr x.sl st o.floor = some (y.sb, y.sr, y.sl, 0)) (h2 : chain_Sizes.f k y.sb y.sr y.sl = some (y.sz, 0)) (h3 : 0 < y.sr.length) (ha : y.ar = x.ar) (hl : y.al = x.al) (hz : y.az = x.az)
 | sub (kd q0 : Int) (q : Nat) (st : List Int) (rv : Int) (xx : List S25) (t : ByteArray) (nt : Int) (h : FitOk k u x.ar x.al o kd q0 q st rv xx t nt) (h3 : (kd == 3) = false) (h1 : (kd == 1) = false)
   (i : Nat) (near m hd v : Int) (yy : List S25) (qq : Int) (hs : SubOk k x.sr x.sl x.sz rv xx i near m hd v yy qq) (i2 : Nat) (near2 m2 hd2 v2 : Int) (yy2 : List S25) (qq2 : Int) (ha : SubOk k x.ar x.al x.az rv xx i2 near2 m2 hd2 v2 yy2 qq2)
   (e : y = ⟨x.sb, x.sr ++ [v], x.sl ++ [yy], x.sz ++ [qq], x.ar ++ [v2], x.al ++ [yy2], x.az ++ [qq2]⟩)
 | no (kd q0 : Int) (q : Nat) (st : List Int) (rv : Int) (xx : List S25) (t : ByteArray) (nt : Int) (h : FitOk k u x.ar x.al o kd q0 q st rv xx t nt) (h3 : (kd == 3) = false) (h1 : (kd == 1) = false)
   (h5 : op_May.f k xx = some 0) (i near er : Int) (h6 : seek_Find.f x.sr rv = some (i, near, er)) (he : er ≠ 0) (e : y = x)
structure LogsOk (k : Nat) (a0 : ByteArray) (l : List OpV) (u : ByteArray) (n : Int) (st : Nat → LS) (m : Nat) (b : ByteArray) (R : List Int) (os : List (List S25)) : Prop where
 sh : epitometop_shown.f k = some true
 ft : epitomeref01_Fit.f k (a0.extract 0 ((mn (a0.size : Int) 20) : Int).toNat) = some u
 cn : points_Count.f u = some n
 c0 : 0 ≤ n
 c1 : n ≤ 1048576
 sz : chain_Sizes.f k u [0] [] = some ([n], 0)
 s0 : st 0 = ⟨u, [0], [], [n], [0], [], [n]⟩
 ml : m ≤ l.length
 mt : m ≤ 12
 me : m = l.length ∨ m = 12
 rd_ : ∀ j (h : j < l.length), j < m → RoundOk k u (st j) l[j] (st (j + 1))
 r0 : 0 < (st m).sr.length
 r1 : (st m).sr.length < 1000000
 r2 : (st m).sl.length < 100000
 r3 : ∀ x ∈ (st m).sl, x.length < 1000000
 r4 : (st m).ar.length < 1000000
 r5 : (st m).al.length < 100000
 r6 : ∀ x ∈ (st m).al, x.length < 1000000
 co : compact_Of.f k u (st m).ar (st m).al (st m).sr (rd (st m).sr 0) = some (b, R, os, 0)
 sm : epitomeref16_Same.f k (st m).sb (st m).sr (st m).sl b R os = some true
structure TL (w W : World) (P1 P2 : Nat → Prop) (g1 g2 : Nat) (u : ByteArray) (x : LS) : Prop where
 S1 : SI W P1 g1 x.sb x.sr x.sl x.sz
 S2 : SI W P2 g2 u x.ar x.al x.az
 D : ∀ k, P1 k → ¬ P2 k
 B1 : ∀ k, P1 k → w.heap.size ≤ k
 B2 : ∀ k, P2 k → w.heap.size ≤ k
 HB : Below w.heap.size w W
section
variable {w W W1 : World} {P1 P2 : Nat → Prop} {g1 g2 : Nat} {u : ByteArray} {x y : LS}
theorem TL.below (T : TL w W P1 P2 g1 g2 u x) (hb : Below W.heap.size W W1) : TL w W1 P1 P2 g1 g2 u x := ⟨T.S1.below hb, T.S2.below hb, T.D, T.B1, T.B2, below_step T.HB hb⟩
theorem TL.sub1 (T : TL w W P1 P2 g1 g2 u x) {b : ByteArray} {r z : List Int} {l : List (List S25)} (hs : SI W1 (fun k => P1 k ∨ (W.heap.size ≤ k ∧ k < W1.heap.size)) g1 b r l z) (hk : Kf W W1 P1) : TL w W1 (fun k => P1 k ∨ (W.heap.size ≤ k ∧ k < W1.heap.size)) P2 g1 g2 u ⟨b, r, l, z, x.ar, x.al, x.az⟩ := by
 have hw := T.HB.size
 refine ⟨hs, T.S2.kf hk (fun k h2 h1 => T.D k h1 h2), fun k hk1 h2 => ?_, fun k hk1 => ?_, T.B2, T.HB.trans (hk.below hw T.B1)⟩
 ·rcases hk1 with h | h
  ·exact T.D k h h2
  ·have := T.S2.2.1 k h2; omega
 ·rcases hk1 with h | h
  ·exact T.B1 k h
  ·omega
theorem TL.sub2 (T : TL w W P1 P2 g1 g2 u x) {r z : List Int} {l : List (List S25)} (hs : SI W1 (fun k => P2 k ∨ (W.heap.size ≤ k ∧ k < W1.heap.size)) g2 u r l z) (hk : Kf W W1 P2) : TL w W1 P1 (fun k => P2 k ∨ (W.heap.size ≤ k ∧ k < W1.heap.size)) g1 g2 u ⟨x.sb, x.sr, x.sl, x.sz, r, l, z⟩ := by
 have hw := T.HB.size
 refine ⟨T.S1.kf hk (fun k h2 h1 => T.D k h2 h1), hs, fun k h1 hk1 => ?_, T.B1, fun k hk1 => ?_, T.HB.trans (hk.below hw T.B2)⟩
 ·rcases hk1 with h | h
  ·exact T.D k h1 h
  ·have := T.S1.2.1 k h1; omega
 ·rcases hk1 with h | h
  ·exact T.B2 k h
  ·omega
theorem TL.new (hb : Below w.heap.size w W) (h1 : SI W (fun k => w.heap.size ≤ k ∧ k < W.heap.size) g1 x.sb x.sr x.sl x.sz) (hb2 : Below W.heap.size W W1) (h2 : SI W1 (fun k => W.heap.size ≤ k ∧ k < W1.heap.size) g2 u x.ar x.al x.az) : TL w W1 (fun k => w.heap.size ≤ k ∧ k < W.heap.size) (fun k => W.heap.size ≤ k ∧ k < W1.heap.size) g1 g2 u x :=
 ⟨h1.below hb2, h2, fun k h1 h2 => by omega, fun k h => h.1, fun k h => Nat.le_trans hb.size h.1, below_step hb hb2⟩
end
structure LF (r : List Int) (l : List (List S25)) (K : List Int) (os : List (List S25)) (w W : World) (gd : Nat) (dL dC dA : Bool) (AL : Option Addr) (cL : Nat) (AS : Option Addr) (cS : Nat) (AK : Option Addr) (cK : Nat) (AO : Option Addr) (cO : Nat) : Prop where
 HB : Below w.heap.size w W
 L : dL = true → r.length ≤ cL ∧ Kd.C (Kd.int .i64) W AL r.length r ∧ l.length ≤ cS ∧ Kd.C (Kd.slice 25 k25) W AS l.length l
 C : dC = true → Kd.R (Kd.int .i64) 3 W w.heap.size (fun _ => True) (.slice AK K.length cK) K ∧ Kd.S (Kd.slice 25 k25) 27 W w.heap.size (fun _ => True) (.slice AO os.length cO) os
 A : dA = true → W.heap[gd]? = some (.cells #[.string ⟨#[]⟩, .slice none 0 0, .slice none 0 0] 42 (0, 0)) ∧ w.heap.size ≤ gd
section
variable {r K : List Int} {l os : List (List S25)} {w W W1 : World} {gd : Nat} {dL dC dA : Bool} {AL AS AK AO : Option Addr} {cL cS cK cO : Nat}
theorem LF.start (w : World) : LF r l K os w w 0 false false false none 0 none 0 none 0 none 0 := ⟨Below.refl _ _, fun e => (by cases e), fun e => (by cases e), fun e => (by cases e)⟩
theorem LF.below (J : LF r l K os w W gd dL dC dA AL cL AS cS AK cK AO cO) (hb : Below W.heap.size W W1) : LF r l K os w W1 gd dL dC dA AL cL AS cS AK cK AO cO :=
 ⟨below_step J.HB hb, fun e => ⟨(J.L e).1, Kd.C_below (J.L e).2.1 hb, (J.L e).2.2.1, Kd.C_below (J.L e).2.2.2 hb⟩, fun e => ⟨Kd.R_below (J.C e).1 hb, Kd.S_below (J.C e).2 hb⟩, fun e => ⟨blk_below (J.A e).1 hb, (J.A e).2⟩⟩
theorem LF.eL (J : LF r l K os w W gd false dC dA AL cL AS cS AK cK AO cO) {A1 A2 : Option Addr} {c1 c2 : Nat} (hb : Below W.heap.size W W1) (h3 : Kd.R (Kd.int .i64) 3 W1 W.heap.size (fun _ => True) (.slice A1 r.length c1) r) (h4 : Kd.S (Kd.slice 25 k25) 27 W1 W.heap.size (fun _ => True) (.slice A2 l.length c2) l) : LF r l K os w W1 gd true dC dA A1 c1 A2 c2 AK cK AO cO := by
 have J1 := J.below hb
 exact ⟨J1.HB, fun _ => ⟨(Kd.R_reads' h3).2.1, (Kd.R_reads' h3).2.2, (Kd.S_reads' h4).2.1, (Kd.S_reads' h4).2.2⟩, J1.C, J1.A⟩
theorem LF.eC (J : LF r l K os w W gd dL false dA AL cL AS cS AK cK AO cO) {A1 A2 : Option Addr} {c1 c2 : Nat} (hb : Below W.heap.size W W1) (h : Kd.R (Kd.int .i64) 3 W1 W.heap.size (fun _ => True) (.slice A1 K.length c1) K) (h2 : Kd.S (Kd.slice 25 k25) 27 W1 W.heap.size (fun _ => True) (.slice A2 os.length c2) os) : LF r l K os w W1 gd dL true dA AL cL AS cS A1 c1 A2 c2 := by
 have J1 := J.below hb
 exact ⟨J1.HB, J1.L, fun _ => ⟨Kd.R_lower h J.HB.size, Kd.S_lower h2 J.HB.size⟩, J1.A⟩
theorem LF.eA (J : LF r l K os w W gd dL dC false AL cL AS cS AK cK AO cO) : LF r l K os w (W.alloc (.cells #[.string ⟨#[]⟩, .slice none 0 0, .slice none 0 0] 42)) W.heap.size dL dC true AL cL AS cS AK cK AO cO := by
 have J1 := J.below (below_alloc (Below.refl W.heap.size W) (.cells #[.string ⟨#[]⟩, .slice none 0 0, .slice none 0 0] 42))
 exact ⟨J1.HB, J1.L, J1.C, fun _ => ⟨heap_alloc_new W _, J.HB.size⟩⟩
end
end Go.Proofs.YtegjegihcebimaaDoor.P
end
