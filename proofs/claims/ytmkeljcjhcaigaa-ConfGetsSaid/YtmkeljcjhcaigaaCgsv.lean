/- Numbers read in rows: one more behind, two rows joined; the idle numbers as they come. No program in sight. -/
import Derived.Test.YtmkeljcjhcaigaaCgsu
namespace Go.Proofs.Ytmkeljcjhcaigaa
open Go.RowKit
set_option linter.unusedVariables false
set_option linter.unusedSimpArgs false

theorem numsS_add (l : List UInt8) : ∀ (a b : Nat) (s : St), numsS l (a + b) s = ((numsS l b (numsS l a s).1).1, (numsS l a s).2 ++ (numsS l b (numsS l a s).1).2)
  | 0, b, s => by simp [numsS]
  | a + 1, b, s => by
    rw [show a + 1 + b = (a + b) + 1 by omega, numsS, numsS_add l a b]
    simp [numsS]
theorem numsS_one (l : List UInt8) (s : St) : numsS l 1 s = ((numberS l s).1, [(numberS l s).2]) := rfl
theorem numsS_snoc (l : List UInt8) (k : Nat) (s : St) : numsS l (k + 1) s = ((numberS l (numsS l k s).1).1, (numsS l k s).2 ++ [(numberS l (numsS l k s).1).2]) := by
  rw [numsS_add, numsS_one]
/-- The idle numbers, some of them read. -/
def idleOf (ms : List Nat) : List Int := 0 :: (ms.map Int.ofNat ++ List.replicate (5 - ms.length) 0)
theorem idleOf_len {ms : List Nat} (h : ms.length ≤ 5) : (idleOf ms).length = 6 := by simp [idleOf]; omega
theorem idleOf_set {ms : List Nat} (h : ms.length < 5) (m : Nat) : (idleOf ms).set (1 + ms.length) (m : Int) = idleOf (ms ++ [m]) := by
  unfold idleOf
  rw [show 1 + ms.length = ms.length + 1 by omega, List.set_cons_succ, List.set_append_right _ _ (by simp)]
  rw [show 5 - ms.length = (5 - (ms.length + 1)) + 1 by omega, List.replicate_succ]
  simp
theorem idleOf_full {ms : List Nat} (h : ms.length = 5) : idleOf ms = 0 :: ms.map Int.ofNat := by simp [idleOf, h]
theorem number_le (l : List UInt8) (s : St) : (numberS l s).2 ≤ 1048577 := Nat.min_le_right _ _
end Go.Proofs.Ytmkeljcjhcaigaa
