/- The walk of slices.Reverse over the bytes of a row of the call's own. -/
import Derived.Test.YtgohhojoahlfiaaOctP
import Derived.Deep.LoopGhost
namespace Go.Proofs.Ytgohhojoahlfiaa
open Go.RowKit
set_option linter.unusedVariables false

/-- Turned round up to i from both ends. -/
def RevAt (l : List UInt8) (i : Nat) (xs : List UInt8) : Prop :=
  xs.length = l.length ∧ ∀ j, j < l.length → xs[j]? = if j < i ∨ l.length - 1 - i < j then l[l.length - 1 - j]? else l[j]?
theorem revAt_start (l : List UInt8) : RevAt l 0 l := ⟨rfl, fun j hj => by rw [if_neg (by omega)]⟩
theorem revAt_end {l xs : List UInt8} {i : Nat} (h : RevAt l i xs) (hi : l.length ≤ 2 * i + 1) : xs = l.reverse := by
  apply List.ext_getElem?
  intro j
  by_cases hj : j < l.length
  · rw [h.2 j hj, List.getElem?_reverse hj]
    split
    · rfl
    · congr 1
      omega
  · rw [List.getElem?_eq_none (by rw [h.1]; omega), List.getElem?_eq_none (by rw [List.length_reverse]; omega)]
theorem revAt_step {l xs : List UInt8} {i : Nat} (h : RevAt l i xs) (hi : 2 * i + 1 < l.length) (h1 : i < xs.length) (h2 : l.length - 1 - i < xs.length) : RevAt l (i + 1) ((xs.set i xs[l.length - 1 - i]).set (l.length - 1 - i) xs[i]) := by
  refine ⟨by rw [List.length_set, List.length_set]; exact h.1, fun j hj => ?_⟩
  have e1 : xs[i]? = l[i]? := by rw [h.2 i (by omega), if_neg (by omega)]
  have e2 : xs[l.length - 1 - i]? = l[l.length - 1 - i]? := by rw [h.2 _ (by omega), if_neg (by omega)]
  rw [List.getElem?_set, List.getElem?_set, List.length_set]
  by_cases ha : l.length - 1 - i = j
  · subst ha
    rw [if_pos rfl, if_pos h2, if_pos (by omega), ← List.getElem?_eq_getElem h1, e1]
    congr 1
    omega
  · rw [if_neg ha]
    by_cases hb : i = j
    · subst hb
      rw [if_pos rfl, if_pos h1, if_pos (by omega), ← List.getElem?_eq_getElem h2, e2]
    · rw [if_neg hb, h.2 j hj]
      have : (j < i ∨ l.length - 1 - i < j) ↔ (j < i + 1 ∨ l.length - 1 - (i + 1) < j) := by omega
      simp only [this]
end Go.Proofs.Ytgohhojoahlfiaa
