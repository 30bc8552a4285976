-- WRITTEN BY A PROGRAM OF THIS SESSION (wip/pp in its repo), made after the kit's print
import Derived.Test.YtegjegihcebimaaDoorPx0
import Derived.Test.YtegjegihcebimaaDoorPx2
import Derived.Test.YtegjegihcebimaaDoorPx7
namespace Go.Proofs.YtegjegihcebimaaDoor.P
open Go.RowKit Go.Proofs.YtegjegihcebimaaDoorW.PrintWords Go.Proofs.YtegjegihcebimaaDoorW.PrintLast Go.Proofs.YtegjegihcebimaaDoorW.PrintMore
attribute [local go_sem] max2_int min2_int max_two min_two max_three min_three max_four min_four   -- for this text's walks alone
set_option linter.unusedVariables false
set_option linter.unusedSimpArgs false

/-! ### op_Out: function 62 -/
set_option maxHeartbeats 8000000 in
set_option maxRecDepth 100000 in
theorem op_sum.callsspan_Out (A0 : Option Addr) (c0 : Nat) (l0 : List S25) (r : Int) (w : World) (hr0 : Kd.C k25 w A0 l0.length l0) (hc0 : l0.length ≤ c0) (hs : l0.length < 9223372036854775807) (hT : Tabs w) (h : op_sum.l (fun x : S25 => span_Out.f x.f0 x.f1 x.f2) 0 l0 = some r) :
    Calls Tryd.prog 59 #[.slice A0 l0.length c0, .func (Fn.func 48) #[] #[]] w fun e w' => e = .returned (.int .i64 r) ∧ Below w.heap.size w w' := by
  have HR0 := Aside0.mk hr0; have HC0 := Aside0.mk hc0; have HT := Aside0.mk hT; have HZ := Aside0.mk hs; have H := Aside0.mk h
  clear hr0 hc0 hT hs h
  go_enter Tryd.func59, Tryd.ntmps59
  go_wp2
  go_loopw [5, 10] (fun v5 v10 wr => ∃ j : Nat, v10 = .int .i64 j ∧ j ≤ l0.length ∧ ∃ n : Int, v5 = .int .i64 n ∧ Aside0 (op_sum.l (fun x : S25 => span_Out.f x.f0 x.f1 x.f2) n (l0.drop j) = some r) ∧ Aside0 (Below w.heap.size w wr)) (fun _ v10 _ => l0.length - (intOf v10).toNat)
  case atStart => exact ⟨0, rfl, Nat.zero_le _, 0, rfl, H, ⟨Below.refl _ _⟩⟩
  case round =>
    clear H
    obtain ⟨j, rfl, hj, n, rfl, HA, HB⟩ := hrel
    by_cases hlt : j < l0.length
    · have hltb : decide ((j : Int) < (l0.length : Int)) = true := decide_eq_true (by omega)
      have HL := Aside0.mk hlt
      have h := HA.out
      clear HA
      rw [op_sum.next l0 j hlt, op_sum.l] at h
      obtain ⟨v, hv, h⟩ := Option.bind_eq_some_iff.mp h
      obtain ⟨ad, rfl, hx0, hx1, hx2⟩ := at_T25 (Kd.C_below HR0.out HB.out) (j : Int) (by omega) (by omega)
      rw [Int.toNat_natCast] at hx0 hx1 hx2
      have p1 : (0 ≤ (j : Int)) = True := eq_true (by omega)
      have p2 : ((j : Int) < (l0.length : Int)) = True := eq_true (by omega)
      have p3 : (j < l0.length) = True := eq_true hlt
      have HV := Aside0.mk hv
      have HE := Aside0.mk h
      have ew : wrap64 ((j : Int) + 1) = ((j + 1 : Nat) : Int) := by have := HZ.out; unfold wrap64; omega
      clear h hv hlt
      go_wp2_with (go_at_call 48; (with_reducible refine (span_Out.calls _ _ _ v _ (Tabs.below HT.out (below_alloc HB.out _)) HV.out).mono ?_); rintro e w1 ⟨rfl, hb⟩; have HB1 := Aside0.mk (below_then (below_alloc HB.out _) (below_alloc HB.out _).size hb); clear hb)
      go_round
      case measure => exact op_sum.less HL.out ew
      case rel => exact ⟨j + 1, by rw [ew], HL.out, _, rfl, HE, HB1⟩
    · have hltb : decide ((j : Int) < (l0.length : Int)) = false := decide_eq_false (by omega)
      have h := HA.out
      clear HA
      rw [List.drop_of_length_le (by omega), op_sum.l] at h
      obtain rfl := Option.some.inj h
      go_wp2
      go_ret
      exact ⟨rfl, HB.out⟩
def op_Out.f (l0 : List S25) : Option Int := if l0.length < 9223372036854775807 then op_sum.l (fun x : S25 => span_Out.f x.f0 x.f1 x.f2) 0 l0 else none
set_option maxHeartbeats 8000000 in
set_option maxRecDepth 100000 in
theorem op_Out.calls (A0 : Option Addr) (c0 : Nat) (l0 : List S25) (r : Int) (w : World) (hr0 : Kd.C k25 w A0 l0.length l0) (hc0 : l0.length ≤ c0) (hT : Tabs w) (h : op_Out.f l0 = some r) :
    Calls Tryd.prog 62 #[.slice A0 l0.length c0] w fun e w' => e = .returned (.int .i64 r) ∧ Below w.heap.size w w' := by
  unfold op_Out.f at h
  by_cases c : l0.length < 9223372036854775807
  · rw [if_pos c] at h
    have HW := Aside0.mk (op_sum.callsspan_Out A0 c0 l0 r w hr0 hc0 c hT h)
    clear hr0 hc0 c hT h
    go_enter Tryd.func62, Tryd.ntmps62
    go_wp2_with (go_at_call 59; (with_reducible refine HW.out.mono ?_); rintro e w1 ⟨rfl, hb⟩; have HB1 := Aside0.mk hb; clear hb)
    go_ret
    exact ⟨rfl, HB1.out⟩
  · rw [if_neg c] at h; cases h

end Go.Proofs.YtegjegihcebimaaDoor.P
