/- Texts as the code reads them: whether a string is one, how many code points it has, where each begins. Plain functions and laws, no program. -/
import Derived.Lib.ValidLaws
import Derived.Lib.RuneCount
import Derived.Lib.MapLaws
namespace Go.Proofs.YtegjegihcebimaaDoor

/-- Is the string a text? -/
def validT (s : ByteArray) : Bool := Lib.validD s.data.toList
/-- How many code points it has; -1: it is none. -/
def countT (s : ByteArray) : Int := if validT s then (Lib.runeCount s : Int) else -1
/-- Where the code point number k begins. -/
def posT (s : ByteArray) : Nat → Nat
  | 0 => 0
  | k + 1 => if posT s k < s.size then posT s k + (Utf8.decode s (posT s k)).2 else posT s k
/-- What is cut from it. -/
def cutT (s : ByteArray) (a b : Int) : ByteArray := s.extract (posT s a.toNat) (posT s b.toNat)
/-- points.Cut. -/
def cutF (s : ByteArray) (a b : Int) : ByteArray × Int :=
  if countT s < 0 then (⟨#[]⟩, 3) else if a < 0 ∨ b < a ∨ countT s < b then (⟨#[]⟩, 6) else (cutT s a b, 0)

theorem decode_le_size (s : ByteArray) (p : Nat) (h : p < s.size) : p + (Utf8.decode s p).2 ≤ s.size := by
  have e := Lib.decodeL_drop s p
  have hl : s.data.toList.length = s.size := by rw [Array.length_toList]; rfl
  have hne : s.data.toList.drop p ≠ [] := by
    intro e0
    have := congrArg List.length e0
    simp only [List.length_drop, List.length_nil] at this
    omega
  have h2 := Lib.decodeL_le _ hne
  rw [e, List.length_drop] at h2
  omega
theorem posT_le (s : ByteArray) : ∀ k, posT s k ≤ s.size
  | 0 => Nat.zero_le _
  | k + 1 => by
    unfold posT
    split
    · exact decode_le_size s _ (by assumption)
    · exact posT_le s k
theorem posT_mono (s : ByteArray) (k : Nat) : posT s k ≤ posT s (k + 1) := by
  rw [posT]; split <;> omega
theorem posT_mono' (s : ByteArray) {j k : Nat} (h : j ≤ k) : posT s j ≤ posT s k := by
  induction h with
  | refl => exact Nat.le_refl _
  | step _ ih => exact Nat.le_trans ih (posT_mono s _)
theorem posT_end (s : ByteArray) {k : Nat} (h : ¬ posT s k < s.size) : posT s k = s.size := by
  have := posT_le s k; omega
/-- What the loop 'for range s' counts from a place on. -/
theorem runeCount_from (s : ByteArray) : ∀ (k b : Nat), k + Lib.runeCountFrom s b (posT s k) = Lib.runeCount s → s.size ≤ posT s k + b → posT s k < s.size →
    k + 1 + Lib.runeCountFrom s (b - 1) (posT s (k + 1)) = Lib.runeCount s ∧ s.size ≤ posT s (k + 1) + (b - 1) := by
  intro k b h hb hp
  cases b with
  | zero => omega
  | succ b =>
    have hw := Lib.decode_width_pos s _ hp
    have e : posT s (k + 1) = posT s k + (Utf8.decode s (posT s k)).2 := by rw [posT, if_pos hp]
    simp only [Lib.runeCountFrom, if_pos hp] at h
    rw [e]
    exact ⟨by simp only [Nat.add_sub_cancel]; omega, by omega⟩
theorem runeCount_lt (s : ByteArray) : Lib.runeCount s ≤ s.size := Lib.runeCount_le s
end Go.Proofs.YtegjegihcebimaaDoor
