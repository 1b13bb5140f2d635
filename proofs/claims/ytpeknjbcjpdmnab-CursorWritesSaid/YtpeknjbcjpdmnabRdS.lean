/- The reader, in plain Lean: what each method answers, and the state behind it (the place, the fault's place, the fault). No program in sight. -/
import Derived.Test.YtpeknjbcjpdmnabVarintS
import Derived.Test.YtpeknjbcjpdmnabVarintW
import Derived.Test.YtpeknjbcjpdmnabOctG
namespace Go.Proofs.Ytpeknjbcjpdmnab
open Go.RowKit

/-- The place, the fault's place, the fault. -/
abbrev St : Type := Nat × Nat × Nat
def failS (s : St) (e : Nat) : St := if s.2.2 = 0 then (s.1, s.1, e) else s
def cutS (l : List UInt8) (s : St) (skip n : Nat) : St × List UInt8 :=
  if s.2.2 ≠ 0 then (s, []) else if l.length < s.1 + skip + n then (failS s 2, []) else ((s.1 + skip + n, s.2.1, s.2.2), (l.drop (s.1 + skip)).take n)
def peekS (l : List UInt8) (s : St) : St × Nat × Nat :=
  if s.2.2 ≠ 0 then (s, 0, 0) else if (vgetS (l.drop s.1)).2.2 ≠ 0 then (failS s (vgetS (l.drop s.1)).2.2, 0, 0) else (s, (vgetS (l.drop s.1)).1, (vgetS (l.drop s.1)).2.1)
def getS (b : List UInt8) (big : Bool) : Nat := if big then beN b else val b
def takeS (l : List UInt8) (s : St) (n : Int) : St × List UInt8 := if n < 0 then (failS s 1, []) else cutS l s 0 n.toNat
def numS (l : List UInt8) (s : St) (n : Int) (big : Bool) : St × Nat := if n < 1 ∨ 8 < n then (failS s 1, 0) else ((cutS l s 0 n.toNat).1, getS (cutS l s 0 n.toNat).2 big)
def varS (l : List UInt8) (s : St) : St × Nat := (((peekS l s).1.1 + (peekS l s).2.2, (peekS l s).1.2), (peekS l s).2.1)
def textS (l : List UInt8) (s : St) (m : Int) : St × List UInt8 :=
  if m < 0 ∨ m < ((peekS l s).2.1 : Int) then (failS (peekS l s).1 4, []) else cutS l (peekS l s).1 (peekS l s).2.2 (peekS l s).2.1
def endS (l : List UInt8) (s : St) : St := if s.1 < l.length then failS s 3 else s

/-- What a state may be: its place lies within the text. -/
def okS (l : List UInt8) (s : St) : Prop := s.1 ≤ l.length ∧ s.2.1 ≤ l.length ∧ s.2.2 ≤ 4
section
variable {l : List UInt8} {s : St}
theorem failS_fst (s : St) (e : Nat) : (failS s e).1 = s.1 := by unfold failS; split <;> rfl
theorem ok_fail (h : okS l s) {e : Nat} (he : e ≤ 4) : okS l (failS s e) := by
  obtain ⟨h1, h2, h3⟩ := h
  unfold failS okS
  split <;> simp_all
theorem ok_cut (h : okS l s) (k n : Nat) : okS l (cutS l s k n).1 := by
  have h' := h
  obtain ⟨h1, h2, h3⟩ := h
  unfold cutS
  split
  · exact h'
  · split
    · exact ok_fail h' (by omega)
    · refine ⟨by simp only; omega, h2, h3⟩
theorem vget_le {l : List UInt8} (h : (vgetS l).2.2 = 0) : (vgetS l).2.1 ≤ l.length ∧ (vgetS l).1 < 18446744073709551616 := by
  rcases hv : vgetS l with ⟨a, b, e⟩
  rw [hv] at h
  simp only at h
  subst h
  have := vget_only hv
  exact ⟨this.2.2.1, this.1⟩
theorem vget_e (l : List UInt8) : (vgetS l).2.2 ≤ 3 := by
  rcases hv : vgetS l with ⟨a, b, e⟩
  by_cases h : e = 0
  · subst h
    exact Nat.zero_le _
  · have := (vget_bad hv h).2.2
    show e ≤ 3
    omega
theorem ok_peek (h : okS l s) : okS l (peekS l s).1 ∧ (peekS l s).1.1 = s.1 ∧ s.1 + (peekS l s).2.2 ≤ l.length ∧ (peekS l s).2.1 < 18446744073709551616 := by
  have h' := h
  obtain ⟨h1, h2, h3⟩ := h
  unfold peekS
  split
  · exact ⟨h', rfl, by simp only; omega, by simp⟩
  · split
    · exact ⟨ok_fail h' (by have := vget_e (l.drop s.1); omega), failS_fst _ _, by simp only; omega, by simp⟩
    · rename_i h5
      have := vget_le (l := l.drop s.1) (by omega)
      rw [List.length_drop] at this
      exact ⟨h', rfl, by simp only; omega, this.2⟩
theorem ok_take (h : okS l s) (n : Int) : okS l (takeS l s n).1 := by
  unfold takeS
  split
  · exact ok_fail h (by omega)
  · exact ok_cut h _ _
theorem ok_num (h : okS l s) (n : Int) (big : Bool) : okS l (numS l s n big).1 := by
  unfold numS
  split
  · exact ok_fail h (by omega)
  · exact ok_cut h _ _
theorem ok_var (h : okS l s) : okS l (varS l s).1 := by
  obtain ⟨⟨_, h2, h3⟩, h4, h5, _⟩ := ok_peek h
  exact ⟨by simp only [varS]; omega, h2, h3⟩
theorem ok_text (h : okS l s) (m : Int) : okS l (textS l s m).1 := by
  unfold textS
  split
  · exact ok_fail (ok_peek h).1 (by omega)
  · exact ok_cut (ok_peek h).1 _ _
theorem ok_end (h : okS l s) : okS l (endS l s) := by
  unfold endS
  split
  · exact ok_fail h (by omega)
  · exact h
theorem beN_lt8 {b : List UInt8} (h : b.length ≤ 8) : beN b < 18446744073709551616 := by
  have h1 := beN_lt b
  have h2 : 256 ^ b.length ≤ 256 ^ 8 := Nat.pow_le_pow_right (by omega) h
  omega
theorem getS_lt {b : List UInt8} (h : b.length ≤ 8) (big : Bool) : getS b big < 18446744073709551616 := by
  unfold getS
  split
  · exact beN_lt8 h
  · rw [← beN_reverse]; exact beN_lt8 (by simpa using h)
theorem cut_len (l : List UInt8) (s : St) (k n : Nat) : (cutS l s k n).2.length ≤ n := by
  unfold cutS
  split
  · simp
  · split
    · simp
    · simp only [List.length_take]; omega
end
end Go.Proofs.Ytpeknjbcjpdmnab
