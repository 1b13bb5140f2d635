/- What a reader is asked, in plain Lean: the same by its own methods and by the document's Ask. -/
import Derived.Test.YtpeknjbcjpdmnabRScP
import Derived.Test.YtpeknjbcjpdmnabAsks
namespace Go.Proofs.Ytpeknjbcjpdmnab
set_option linter.unusedVariables false

/-- The kind that is asked: one of the four, else the end. -/
def kindN (k : Int) : Int := if k = 1 ∨ k = 2 ∨ k = 3 ∨ k = 4 then k else 5
section
variable (l : List UInt8) (s : St) (n : Int) (big : Bool)
theorem askN_1 : askS l s 1 n big = ((numS l s n big).1, (numS l s n big).2, []) := by
  unfold askS
  by_cases h : s.2.2 ≠ 0
  · rw [if_pos h, num_stays h]
  · rw [if_neg h, if_pos rfl]
theorem askN_2 : askS l s 2 n big = ((varS l s).1, (varS l s).2, []) := by
  unfold askS
  by_cases h : s.2.2 ≠ 0
  · rw [if_pos h, var_stays h]
  · rw [if_neg h, if_neg (by decide), if_neg (by decide), if_neg (by decide), if_pos rfl]
theorem askN_3 : askS l s 3 n big = ((takeS l s n).1, 0, (takeS l s n).2) := by
  unfold askS
  by_cases h : s.2.2 ≠ 0
  · rw [if_pos h, take_stays h]
  · rw [if_neg h, if_neg (by decide), if_pos rfl]
theorem askN_4 : askS l s 4 n big = ((textS l s n).1, 0, (textS l s n).2) := by
  unfold askS
  by_cases h : s.2.2 ≠ 0
  · rw [if_pos h, text_stays h]
  · rw [if_neg h, if_neg (by decide), if_neg (by decide), if_neg (by decide), if_neg (by decide)]
theorem askN_5 : askS l s 5 n big = (endS l s, 0, []) := by
  unfold askS
  by_cases h : s.2.2 ≠ 0
  · rw [if_pos h, end_stays h]
  · rw [if_neg h, if_neg (by decide), if_neg (by decide), if_pos rfl]
theorem ok_askN {l : List UInt8} {s : St} (h : okS l s) (k n : Int) (big : Bool) : okS l (askS l s (kindN k) n big).1 := by
  unfold kindN
  by_cases h1 : k = 1
  · subst h1
    rw [if_pos (by simp), askN_1]
    exact ok_num h n big
  · by_cases h2 : k = 2
    · subst h2
      rw [if_pos (by simp), askN_2]
      exact ok_var h
    · by_cases h3 : k = 3
      · subst h3
        rw [if_pos (by simp), askN_3]
        exact ok_take h n
      · by_cases h4 : k = 4
        · subst h4
          rw [if_pos (by simp), askN_4]
          exact ok_text h n
        · rw [if_neg (by simp [h1, h2, h3, h4]), askN_5]
          exact ok_end h
end
end Go.Proofs.Ytpeknjbcjpdmnab
