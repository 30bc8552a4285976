-- WRITTEN BY A PROGRAM OF THIS SESSION (wip/pp in its repo), made after the kit's print
import Derived.Test.YtolljobehfmffaaDoorPx0
namespace Go.Proofs.YtolljobehfmffaaDoor.P
open Go.RowKit Go.Proofs.YtolljobehfmffaaDoorW.PrintWords Go.Proofs.YtolljobehfmffaaDoorW.PrintLast Go.Proofs.YtolljobehfmffaaDoorW.PrintMore
attribute [local go_sem] max2_int min2_int max_two min_two max_three min_three max_four min_four   -- for this text's walks alone
set_option linter.unusedVariables false
set_option linter.unusedSimpArgs false

/-! ### points_Of: function 23 -/
/-- The bytes of the code points among some numbers. -/
def points_Of.b (l : List Int) : List Int := (l.filter fun c => decide (isRune c)).flatMap Lib.encodeRuneZ
def points_Of.f (l0 : List Int) : Option ByteArray := if 4 * l0.length + 8 < 140737488355328 then some (enc (l0.filter fun c => decide (isRune c))) else none
theorem points_Of.b_len : ∀ l : List Int, (points_Of.b l).length ≤ 4 * l.length
  | [] => by simp [points_Of.b]
  | c :: l => by
    have ih := points_Of.b_len l
    have hc := Lib.encodeRuneZ_length c
    unfold points_Of.b at *
    by_cases h : isRune c
    · rw [List.filter_cons_of_pos (by simpa using h), List.flatMap_cons, List.length_append, List.length_cons]; omega
    · rw [List.filter_cons_of_neg (by simpa using h), List.length_cons]; omega
theorem points_Of.b_next (l : List Int) (k : Nat) (h : k < l.length) : points_Of.b (l.take (k + 1)) = points_Of.b (l.take k) ++ (if isRune (l.getD k 0) then Lib.encodeRuneZ (l.getD k 0) else []) := by
  rw [List.take_succ_eq_append_getElem h, List.getD_eq_getElem?_getD, List.getElem?_eq_getElem h, Option.getD_some]
  unfold points_Of.b
  rw [List.filter_append, List.flatMap_append]
  congr 1
  by_cases c : isRune l[k]
  · rw [if_pos c, List.filter_cons_of_pos (by simpa using c)]; simp
  · rw [if_neg c, List.filter_cons_of_neg (by simpa using c)]; simp
theorem points_Of.str (l : List Int) : strOfNums (points_Of.b l) = enc (l.filter fun c => decide (isRune c)) := by
  apply bytes_ext
  unfold points_Of.b
  generalize l.filter (fun c => decide (isRune c)) = q
  have e : (strOfNums (q.flatMap Lib.encodeRuneZ)).data.toList = (q.flatMap Lib.encodeRuneZ).map fun x => x.toNat.toUInt8 := by
    simp [strOfNums]
  rw [e, enc_list]
  unfold encB Lib.encodeRune
  rw [List.map_flatMap, List.flatMap_def]
theorem points_Of.rune (c : Int) : Lib.validRune c = decide (isRune c) := by
  unfold Lib.validRune isRune; rfl
set_option maxHeartbeats 8000000 in
set_option maxRecDepth 100000 in
theorem points_Of.calls (A0 : Option Addr) (c0 : Nat) (l0 : List Int) (r : ByteArray) (w : World) (hr0 : Kd.C (Kd.int .i32) w A0 l0.length l0) (hc0 : l0.length ≤ c0) (h : points_Of.f l0 = some r) :
    Calls Tryd.prog 23 #[.slice A0 l0.length c0] w fun e w' => e = .returned (.string r) ∧ Below w.heap.size w w' := by
  unfold points_Of.f at h
  by_cases c : 4 * l0.length + 8 < 140737488355328
  · rw [if_pos c, ← points_Of.str] at h
    have h2 := Option.some.inj h
    clear h
    have H2 := Aside0.mk h2
    have HS := Aside0.mk c
    have HR0 := Aside0.mk hr0
    clear hr0 hc0 h2 c
    go_enter Tryd.func23, Tryd.ntmps23
    go_wp2
    go_loopw [3, 8] (fun v3 v8 wr => ∃ k : Nat, v8 = .int .i64 k ∧ k ≤ l0.length ∧ Aside0 (wr.ownsRow w.heap.size 5 1 v3 (points_Of.b (l0.take k)).length (nums .u8 (points_Of.b (l0.take k)))) ∧ Aside0 (Below w.heap.size w wr)) (fun _ v8 _ => l0.length - (intOf v8).toNat)
    case atStart => exact ⟨0, rfl, Nat.zero_le _, ⟨own_nil _ _ _ _⟩, ⟨Below.refl _ _⟩⟩
    case round =>
      obtain ⟨k, rfl, hk, HO, HB⟩ := hrel
      have hsz := HS.out
      have HBL := Aside0.mk (points_Of.b_len (l0.take k))
      by_cases hlt : k < l0.length
      · have hltz : (k : Int) < (l0.length : Int) := by omega
        obtain ⟨ad, e, hx⟩ := Kd.at_int (Kd.C_below HR0.out HB.out) (k : Int) (by omega) (by omega)
        have hrd : rd l0 (k : Int) = l0.getD k 0 := by simp [rd]
        rw [hrd] at hx
        replace hx : wr.cell? (ad.add k) = some (.int .i32 (l0.getD k 0)) := hx
        have hN := points_Of.b_next l0 k hlt
        generalize l0.getD k 0 = x at hx hN
        have HN := Aside0.mk hN
        clear hN hrd
        cases e
        by_cases v : isRune x
        · have hV : Lib.validRune x = true := by rw [points_Of.rune]; exact decide_eq_true v
          have hx0 : -2147483648 ≤ x := by unfold isRune at v; omega
          have hx1 : x ≤ 2147483647 := by unfold isRune at v; omega
          have HV := Aside0.mk hV
          have V := Aside0.mk v
          clear hV v
          have CV : Aside0 (∀ W, Calls Tryd.prog 39 #[.int .i32 x] W fun e w' => e = .returned (.bool true) ∧ w' = W) := ⟨fun W => by rw [← HV.out]; exact validRune_calls x W⟩
          have CA := Aside0.mk (appendRune_calls w.heap.size u3 (points_Of.b (l0.take k)).length (nums .u8 (points_Of.b (l0.take k))) x hx0 hx1 wr HO.out (by have := HBL.out; rw [List.length_take] at this; omega) HB.out.size)
          clear hx0 hx1
          go_wp2_with (first | (go_at_call 39; (with_reducible refine (CV.out _).mono ?_); rintro e w1 ⟨rfl, rfl⟩) | (go_at_call 40; (with_reducible refine (CA.out).mono ?_); rintro e w1 ⟨v', rfl, ho, o, hg⟩; have HO1 := Aside0.mk ho; have HB1 := Aside0.mk (pw_below_grown (below_alloc HB.out o) u3.ownBlock (by have := HB.out.size; simp; omega) hg (own_base HO.out)); clear ho hg))
          go_roundw
          case rel =>
            refine ⟨k + 1, by go_num, by omega, ⟨?_⟩, HB1⟩
            have e1 := HN.out
            rw [if_pos V.out] at e1
            rw [e1, nums_append, List.length_append]
            have e2 := HO1.out
            have e3 : (Lib.runeCells x).length = (Lib.encodeRuneZ x).length := by simp [Lib.runeCells]
            rw [e3] at e2
            exact e2
          case measure => simp [intOf]; omega
        · have hV : Lib.validRune x = false := by rw [points_Of.rune]; exact decide_eq_false v
          have HV := Aside0.mk hV
          have V := Aside0.mk v
          clear hV v
          have CV : Aside0 (∀ W, Calls Tryd.prog 39 #[.int .i32 x] W fun e w' => e = .returned (.bool false) ∧ w' = W) := ⟨fun W => by rw [← HV.out]; exact validRune_calls x W⟩
          go_wp2_with (go_at_call 39; (with_reducible refine (CV.out _).mono ?_); rintro e w1 ⟨rfl, rfl⟩)
          go_roundw
          case rel =>
            refine ⟨k + 1, by go_num, by omega, ⟨?_⟩, HB⟩
            have e1 := HN.out
            rw [if_neg V.out, List.append_nil] at e1
            rw [e1]
            exact HO.out
          case measure => simp [intOf]; omega
      · obtain rfl : k = l0.length := by omega
        have e0 : l0.take l0.length = l0 := List.take_length
        rw [e0] at HO
        have hcv := own_string (P := Tryd.prog) Tryd.underlying32 Tryd.underlying5 Tryd.underlying9 HO.out
        clear e0
        go_wp2
        go_ret
        exact ⟨by rw [← H2.out]; rfl, HB.out⟩
  · rw [if_neg c] at h; cases h

end Go.Proofs.YtolljobehfmffaaDoor.P
