/- Part 17 of the proof of topReplays_holds: out of the texts that this session's programs wrote, what the theorem reaches. -/
import Derived.Test.YtegjegihcebimaaDoorZ10
import Derived.Test.YtegjegihcebimaaDoorZ12
import Derived.Test.YtegjegihcebimaaDoorZ14
import Derived.Test.YtegjegihcebimaaDoorZ16
import Derived.Test.YtegjegihcebimaaDoorZ4
import Derived.Test.YtegjegihcebimaaDoorZ5
import Derived.Test.YtegjegihcebimaaDoorZ9
section
namespace Go.Proofs.YtegjegihcebimaaDoor.P
open Go.RowKit Go.Proofs.YtegjegihcebimaaDoorW.PrintWords Go.Proofs.YtegjegihcebimaaDoorW.PrintLast Go.Proofs.YtegjegihcebimaaDoorW.PrintMore
attribute [local go_sem] max2_int min2_int max_two min_two max_three min_three max_four min_four
set_option linter.unusedVariables false
set_option linter.unusedSimpArgs false
structure RepAt (k : Nat) (b b' : ByteArray) (segs os : List (List S25)) (Z K : List Int) (l1 : List (List S25)) (i : Nat) (r : Nat) (t : ByteArray) (n : Int) (a0 a q q' : List S25) : Prop where
 kr : rd K (i : Int) = (r : Int)
 rs : r ≤ segs.length
 at1 : apply_All.f k b (segs.take r) = some (t, 0)
 at2 : chain_At.f k b' K os (i : Int) = some (t, 0)
 cn : points_Count.f t = some n
 f0 : epitomeref04_Fit.f k [] n = some a0
 f1 : 0 < l1.length → epitomeref04_Fit.f k (rd_L3 l1 0) n = some a
 f2 : l1.length = 0 → a = a0
 ma : op_May.f k a = some 0
 ia : op_In.f a = some (rd Z (r : Int))
 t1 : through_Of.f k a (segs.drop r) = some (q, 0)
 t2 : through_Of.f k a (os.drop i) = some (q', 0)
 sm : epitomeref04_Same.f k q q' = some true
structure RepOk (k : Nat) (a0 : ByteArray) (l1 : List (List S25)) (l2 : List Int) (fl : Int) (b b' : ByteArray) (R : List Int) (segs os : List (List S25)) (Z K set : List Int) (n0 : Int) : Prop where
 sh : epitometop_shown.f k = some true
 ft : epitomeref16_Fit.f k a0 l1 = some (b, R, segs)
 cn : points_Count.f b = some n0
 c0 : 0 ≤ n0
 c1 : n0 ≤ 1048576
 zl : Z.length = segs.length + 1
 z0 : Z.take 1 = [n0]
 sl : segs.length < 90000
 sx : ∀ x ∈ segs, x.length < 1000000
 sg : ∀ j, j < segs.length → op_May.f k (rd_L3 segs (j : Int)) = some 0 ∧ op_In.f (rd_L3 segs (j : Int)) = some (rd Z (j : Int)) ∧ op_Out.f (rd_L3 segs (j : Int)) = some (rd Z ((j + 1 : Nat) : Int)) ∧ rd Z ((j + 1 : Nat) : Int) ≤ 1048576 ∧ normal_Of.f (rd_L3 segs (j : Int)) = some (rd_L3 segs (j : Int))
 fw : epitometop_few.f l2 = some set
 co : compact_Of.f k b (hrevs segs.length) segs set fl = some (b', K, os, 0)
 kl : K.length = os.length + 1
 ks : K.length < 90000
 at_ : ∀ i, i < K.length → ∃ r t n x0 x q q', RepAt k b b' segs os Z K l1 i r t n x0 x q q'
theorem take_next {α : Type} (l : List α) (j : Nat) (x : α) (h : l[j]? = some x) : l.take j ++ [x] = l.take (j + 1) := by
 obtain ⟨hl, rfl⟩ := List.getElem?_eq_some_iff.1 h
 rw [List.take_succ_eq_append_getElem hl]
theorem rd_get (l : List Int) (j : Nat) (h : j < l.length) : l[j]? = some (rd l (j : Int)) := by
 unfold rd; rw [Int.toNat_natCast, List.getD_eq_getElem?_getD, List.getElem?_eq_getElem h]; rfl
theorem rdL_get (l : List (List S25)) (j : Nat) (h : j < l.length) : l[j]? = some (rd_L3 l (j : Int)) := by
 unfold rd_L3; rw [Int.toNat_natCast, List.getD_eq_getElem?_getD, List.getElem?_eq_getElem h]; rfl
theorem rd_take (l : List Int) (j n : Nat) (h : j < n) : rd (l.take n) (j : Int) = rd l (j : Int) := by
 unfold rd; rw [Int.toNat_natCast, List.getD_eq_getElem?_getD, List.getD_eq_getElem?_getD, List.getElem?_take, if_pos h]
theorem replays_step {k : Nat} {a0 : ByteArray} {l1 : List (List S25)} {l2 : List Int} {fl : Int} {b b' : ByteArray} {R : List Int} {segs os : List (List S25)} {Z K set : List Int} {n0 : Int} (H : RepOk k a0 l1 l2 fl b b' R segs os Z K set n0) {w4 wr : World} {g j : Nat} (hj : j < segs.length) (hT : Tabs wr)
  (hi : HI wr w4.heap.size g b (segs.take j) (Z.take (j + 1))) (hb : Below w4.heap.size w4 wr) {Ax : Option Addr} {cx : Nat} (rx : Kd.C k25 w4 Ax (rd_L3 segs (j : Int)).length (rd_L3 segs (j : Int))) (lx : (rd_L3 segs (j : Int)).length ≤ cx) :
  Calls Tryd.prog 24 #[.pointer (some ⟨g, 0, none⟩), .slice Ax (rd_L3 segs (j : Int)).length cx] wr fun e w' => e = .returned (.int .i64 0) ∧ HI w' w4.heap.size g b (segs.take (j + 1)) (Z.take (j + 1 + 1)) ∧ Below w4.heap.size w4 w' := by
 obtain ⟨s1, s2, s3, s4, s5⟩ := H.sg j hj
 have zl := H.zl
 have sl := H.sl
 refine (history_Append.calls k wr w4.heap.size g b (segs.take j) (Z.take (j + 1)) Ax cx _ _ _ _ hT hi hb.size (by rw [List.length_take, List.length_take]; omega) (by rw [List.length_take]; omega) (Kd.C_below rx hb) lx s1 s2 s3 (by rw [List.length_take, show min j segs.length = j by omega]; exact rd_take Z j (j + 1) (by omega)) s4 s5).mono ?_
 rintro e w' ⟨h1, h2, h3⟩
 rw [take_next segs j _ (rdL_get segs j hj), take_next Z (j + 1) _ (rd_get Z (j + 1) (by omega))] at h2
 exact ⟨h1, h2, hb.trans h3⟩
structure RJ (R : List Int) (segs : List (List S25)) (set K : List Int) (os : List (List S25)) (wr W : World) (gz : Nat) (dL dF dC dA : Bool) (AL : Option Addr) (cL : Nat) (AS : Option Addr) (cS : Nat) (AF : Option Addr) (cF : Nat) (AK : Option Addr) (cK : Nat) (AO : Option Addr) (cO : Nat) : Prop where
 HB : Below wr.heap.size wr W
 L : dL = true → R.length ≤ cL ∧ Kd.C (Kd.int .i64) W AL R.length R ∧ segs.length ≤ cS ∧ Kd.C (Kd.slice 25 k25) W AS segs.length segs
 F : dF = true → set.length ≤ cF ∧ Kd.C (Kd.int .i64) W AF set.length set
 C : dC = true → Kd.R (Kd.int .i64) 3 W wr.heap.size (fun _ => True) (.slice AK K.length cK) K ∧ Kd.S (Kd.slice 25 k25) 27 W wr.heap.size (fun _ => True) (.slice AO os.length cO) os
 A : dA = true → W.heap[gz]? = some (.cells #[.string ⟨#[]⟩, .slice none 0 0, .slice none 0 0] 42 (0, 0)) ∧ wr.heap.size ≤ gz
section
variable {R : List Int} {segs os : List (List S25)} {set K : List Int} {wr W W1 : World} {gz cL cS cF cK cO : Nat} {AL AS AF AK AO : Option Addr} {dL dF dC dA : Bool}
theorem RJ.start (wr : World) : RJ R segs set K os wr wr 0 false false false false none 0 none 0 none 0 none 0 none 0 :=
 ⟨Below.refl _ _, fun e => (by cases e), fun e => (by cases e), fun e => (by cases e), fun e => (by cases e)⟩
theorem RJ.below (J : RJ R segs set K os wr W gz dL dF dC dA AL cL AS cS AF cF AK cK AO cO) (hb : Below W.heap.size W W1) : RJ R segs set K os wr W1 gz dL dF dC dA AL cL AS cS AF cF AK cK AO cO :=
 ⟨below_step J.HB hb, fun e => ⟨(J.L e).1, Kd.C_below (J.L e).2.1 hb, (J.L e).2.2.1, Kd.C_below (J.L e).2.2.2 hb⟩, fun e => ⟨(J.F e).1, Kd.C_below (J.F e).2 hb⟩, fun e => ⟨Kd.R_below (J.C e).1 hb, Kd.S_below (J.C e).2 hb⟩, fun e => ⟨blk_below (J.A e).1 hb, (J.A e).2⟩⟩
theorem RJ.eL (J : RJ R segs set K os wr W gz false dF dC dA AL cL AS cS AF cF AK cK AO cO) {A1 A2 : Option Addr} {c1 c2 : Nat} (hb : Below W.heap.size W W1) (h1 : R.length ≤ c1) (h2 : segs.length ≤ c2) (h3 : Kd.C (Kd.int .i64) W1 A1 R.length R) (h4 : Kd.C (Kd.slice 25 k25) W1 A2 segs.length segs) : RJ R segs set K os wr W1 gz true dF dC dA A1 c1 A2 c2 AF cF AK cK AO cO := by
 have J1 := J.below hb
 exact ⟨J1.HB, fun _ => ⟨h1, h3, h2, h4⟩, J1.F, J1.C, J1.A⟩
theorem RJ.eF (J : RJ R segs set K os wr W gz dL false dC dA AL cL AS cS AF cF AK cK AO cO) {A1 : Option Addr} {c1 : Nat} (hb : Below W.heap.size W W1) (h : set.length ≤ c1 ∧ Kd.C (Kd.int .i64) W1 A1 set.length set) : RJ R segs set K os wr W1 gz dL true dC dA AL cL AS cS A1 c1 AK cK AO cO := by
 have J1 := J.below hb
 exact ⟨J1.HB, J1.L, fun _ => h, J1.C, J1.A⟩
theorem RJ.eC (J : RJ R segs set K os wr W gz dL dF false dA AL cL AS cS AF cF AK cK AO cO) {A1 A2 : Option Addr} {c1 c2 : Nat} (hb : Below W.heap.size W W1) (h : Kd.R (Kd.int .i64) 3 W1 W.heap.size (fun _ => True) (.slice A1 K.length c1) K) (h2 : Kd.S (Kd.slice 25 k25) 27 W1 W.heap.size (fun _ => True) (.slice A2 os.length c2) os) : RJ R segs set K os wr W1 gz dL dF true dA AL cL AS cS AF cF A1 c1 A2 c2 := by
 have J1 := J.below hb
 exact ⟨J1.HB, J1.L, J1.F, fun _ => ⟨Kd.R_lower h J.HB.size, Kd.S_lower h2 J.HB.size⟩, J1.A⟩
theorem RJ.eA (J : RJ R segs set K os wr W gz dL dF dC false AL cL AS cS AF cF AK cK AO cO) : RJ R segs set K os wr (W.alloc (.cells #[.string ⟨#[]⟩, .slice none 0 0, .slice none 0 0] 42)) W.heap.size dL dF dC true AL cL AS cS AF cF AK cK AO cO := by
 have J1 := J.below (below_alloc (Below.refl W.heap.size W) (.cells #[.string ⟨#[]⟩, .slice none 0 0, .slice none 0 0] 42))
 exact ⟨J1.HB, J1.L, J1.F, J1.C, fun _ => ⟨heap_alloc_new W _, J.HB.size⟩⟩
end
end Go.Proofs.YtegjegihcebimaaDoor.P
end
