/- The document's Scan, in plain Lean: an item that may be is asked as it is read; one that may not be is refused at its place. -/
import Derived.Test.YtpeknjbcjpdmnabRefAsk
import Derived.Test.YtpeknjbcjpdmnabCurP
namespace Go.Proofs.Ytpeknjbcjpdmnab
set_option linter.unusedVariables false

theorem fail_stays {s : St} (h : s.2.2 ≠ 0) (e : Nat) : failS s e = s := if_neg h
theorem cut_stays {l : List UInt8} {s : St} (h : s.2.2 ≠ 0) (k n : Nat) : (cutS l s k n).1 = s ∧ (cutS l s k n).2 = [] := by rw [cut_fault h]; exact ⟨rfl, rfl⟩
theorem peek_stays {l : List UInt8} {s : St} (h : s.2.2 ≠ 0) : peekS l s = (s, 0, 0) := if_pos h
theorem num_stays {l : List UInt8} {s : St} (h : s.2.2 ≠ 0) (n : Int) (big : Bool) : numS l s n big = (s, 0) := by
  unfold numS
  split
  · rw [fail_stays h]
  · rw [cut_fault h]
    unfold getS
    split <;> rfl
theorem take_stays {l : List UInt8} {s : St} (h : s.2.2 ≠ 0) (n : Int) : takeS l s n = (s, []) := by
  unfold takeS
  split
  · rw [fail_stays h]
  · rw [cut_fault h]
theorem var_stays {l : List UInt8} {s : St} (h : s.2.2 ≠ 0) : varS l s = (s, 0) := by
  unfold varS
  rw [peek_stays h]
  rfl
theorem text_stays {l : List UInt8} {s : St} (h : s.2.2 ≠ 0) (n : Int) : textS l s n = (s, []) := by
  unfold textS
  rw [peek_stays h]
  split
  · rw [fail_stays h]
  · rw [cut_fault h]
theorem end_stays {l : List UInt8} {s : St} (h : s.2.2 ≠ 0) : endS l s = s := by
  unfold endS
  split
  · exact fail_stays h 3
  · rfl

/-- Whatever is asked of a reader with a fault: nothing, and it stays as it is. -/
theorem ask_stays {l : List UInt8} {s : St} (h : s.2.2 ≠ 0) (kd n : Int) (big : Bool) : askS l s kd n big = (s, 0, []) := if_pos h

theorem read_bad {l : List UInt8} {s : St} {x : Item} (h0 : s.2.2 = 0) (h : mayB x = false) : (readS l s x).1 = (s.1, s.1, 1) := by
  have hp : preS s x = (s.1, s.1, 1) := by
    unfold preS failS
    rw [h, if_pos h0]
    rfl
  have hf : (preS s x).2.2 ≠ 0 := fault_pre h
  unfold readS
  split
  · rw [num_stays hf, hp]
  · split
    · rw [var_stays hf, hp]
    · split
      · rw [take_stays hf, hp]
      · split
        · rw [text_stays hf, hp]
        · exact hp
theorem read_ask {l : List UInt8} {s : St} {x : Item} (h0 : s.2.2 = 0) (h : mayB x = true) : askS l s x.1 x.2.1 x.2.2 = ((readS l s x).1, (readS l s x).2.1, (readS l s x).2.2) := by
  obtain ⟨k, n, big⟩ := x
  have hp : preS s (k, n, big) = s := by unfold preS; rw [h]; rfl
  unfold askS readS
  rw [if_neg (by omega), hp]
  simp only
  rcases may_kind h with rfl | rfl | rfl | rfl <;> simp
end Go.Proofs.Ytpeknjbcjpdmnab
