/- All records of a row, in plain Lean; and the document's way to tell a record. No program in sight. -/
import Derived.Test.YtpeknjbcjpdmnaaRecW
namespace Go.Proofs.Ytpeknjbcjpdmnaa

theorem nextS_ok {b body : List UInt8} {k : Nat} (h : nextS b = (body, k, 0)) :
    ∃ n j, vgetS b = (n, j, 0) ∧ n ≤ 1048576 ∧ j + n + 4 = k ∧ k ≤ b.length ∧ body = (b.drop j).take n ∧ body.length = n ∧ b.take k = recB body ∧ 1 ≤ j := by
  rcases hv : vgetS b with ⟨n, j, e⟩
  unfold nextS at h
  rw [hv] at h
  by_cases he : e = 0
  · subst he
    rw [if_neg (by simp)] at h
    by_cases hn : 1048576 < n
    · rw [if_pos hn] at h
      simp at h
    · rw [if_neg hn] at h
      by_cases hl : b.length < j + n + 4
      · rw [if_pos hl] at h
        simp at h
      · rw [if_neg hl] at h
        by_cases hs : val ((b.drop (j + n)).take 4) ≠ ofS (b.take (j + n))
        · rw [if_pos hs] at h
          simp at h
        · rw [if_neg hs] at h
          simp only [Prod.mk.injEq, and_true] at h
          obtain ⟨h1, h2⟩ := h
          obtain ⟨g1, g2, g3, g4, g5⟩ := vget_only hv
          have hs' : val ((b.drop (j + n)).take 4) = ofS (b.take (j + n)) := by
            rcases Nat.decEq (val ((b.drop (j + n)).take 4)) (ofS (b.take (j + n))) with hh | hh
            · exact absurd hh hs
            · exact hh
          have hbl : body.length = n := by rw [← h1, List.length_take, List.length_drop]; omega
          refine ⟨n, j, rfl, by omega, h2, by omega, h1.symm, hbl, ?_, g2⟩
          have hH : recH body = b.take (j + n) := by
            rw [recH, hbl, g5, ← h1, List.take_add]
          have h4 : leB 4 (ofS (recH body)) = (b.drop (j + n)).take 4 := by
            apply val_inj
            · rw [leB_length, List.length_take, List.length_drop]; omega
            · rw [leB_val 4 _ (ofS_lt _), hs', hH]
          rw [recB, h4, hH, ← h2, List.take_add (i := j + n)]
  · rw [if_pos he] at h
    simp only [Prod.mk.injEq] at h
    exact absurd h.2.2 he

/-- A record is told by laying it anew. -/
theorem sum_iff {b : List UInt8} {n j : Nat} (hv : vgetS b = (n, j, 0)) (hl : j + n + 4 ≤ b.length) :
    (recB ((b.drop j).take n) = b.take (j + n + 4)) ↔ val ((b.drop (j + n)).take 4) = ofS (b.take (j + n)) := by
  obtain ⟨g1, g2, g3, g4, g5⟩ := vget_only hv
  have hbl : ((b.drop j).take n).length = n := by rw [List.length_take, List.length_drop]; omega
  have hH : recH ((b.drop j).take n) = b.take (j + n) := by rw [recH, hbl, g5, List.take_add]
  have hs4 : b.take (j + n + 4) = b.take (j + n) ++ (b.drop (j + n)).take 4 := List.take_add
  rw [recB, hH, hs4, List.append_cancel_left_eq]
  constructor
  · intro h
    rw [← h, leB_val 4 _ (ofS_lt _)]
  · intro h
    apply val_inj
    · rw [leB_length, List.length_take, List.length_drop]; omega
    · rw [leB_val 4 _ (ofS_lt _), h]

/-- All records, so far as there are any; how many bytes they have; why not on. -/
def allGo : Nat → List UInt8 → List (List UInt8) × Nat × Nat
  | 0, _ => ([], 0, 0)
  | f + 1, b =>
    if b.length = 0 then ([], 0, 0)
    else if (nextS b).2.2 ≠ 0 then ([], 0, (nextS b).2.2)
    else ((nextS b).1 :: (allGo f (b.drop (nextS b).2.1)).1, (nextS b).2.1 + (allGo f (b.drop (nextS b).2.1)).2.1, (allGo f (b.drop (nextS b).2.1)).2.2)
def allS (b : List UInt8) : List (List UInt8) × Nat × Nat := allGo b.length b

/-- From place a on, xs having come. -/
def AllAt (b : List UInt8) (a : Nat) (xs : List (List UInt8)) : Prop :=
  ∃ f, b.length - a ≤ f ∧ allS b = (xs ++ (allGo f (b.drop a)).1, a + (allGo f (b.drop a)).2.1, (allGo f (b.drop a)).2.2)
theorem allAt_start (b : List UInt8) : AllAt b 0 [] := ⟨b.length, by omega, by simp [allS]⟩
theorem allAt_end {b : List UInt8} {a : Nat} {xs : List (List UInt8)} (h : AllAt b a xs) (ha : b.length ≤ a) : allS b = (xs, a, 0) := by
  obtain ⟨f, _, h⟩ := h
  have e : (allGo f (b.drop a)) = ([], 0, 0) := by
    cases f with
    | zero => rfl
    | succ f => rw [allGo, if_pos (by rw [List.length_drop]; omega)]
  rw [h, e]
  simp
theorem allAt_err {b : List UInt8} {a e : Nat} {xs : List (List UInt8)} (h : AllAt b a xs) (ha : a < b.length) (hn : nextS (b.drop a) = ([], 0, e)) (he : e ≠ 0) : allS b = (xs, a, e) := by
  obtain ⟨f, hf, h⟩ := h
  obtain ⟨f, rfl⟩ : ∃ f', f = f' + 1 := ⟨f - 1, by omega⟩
  have e1 : (allGo (f + 1) (b.drop a)) = ([], 0, e) := by
    rw [allGo, if_neg (by rw [List.length_drop]; omega), hn, if_pos he]
  rw [h, e1]
  simp
theorem allAt_step {b body : List UInt8} {a k : Nat} {xs : List (List UInt8)} (h : AllAt b a xs) (ha : a < b.length) (hn : nextS (b.drop a) = (body, k, 0)) (hk : 1 ≤ k) : AllAt b (a + k) (xs ++ [body]) := by
  obtain ⟨f, hf, h⟩ := h
  obtain ⟨f, rfl⟩ : ∃ f', f = f' + 1 := ⟨f - 1, by omega⟩
  refine ⟨f, by omega, ?_⟩
  rw [h, allGo, if_neg (by rw [List.length_drop]; omega), hn, if_neg (by simp), List.drop_drop]
  simp [Nat.add_assoc]
theorem nextS_bad {b : List UInt8} (h : (nextS b).2.2 ≠ 0) : (nextS b).1 = [] ∧ (nextS b).2.1 = 0 := by
  unfold nextS at h ⊢
  split
  · exact ⟨rfl, rfl⟩
  · rename_i h1
    rw [if_neg h1] at h
    split
    · exact ⟨rfl, rfl⟩
    · rename_i h2
      rw [if_neg h2] at h
      split
      · exact ⟨rfl, rfl⟩
      · rename_i h3
        rw [if_neg h3] at h
        split
        · exact ⟨rfl, rfl⟩
        · rename_i h4
          rw [if_neg h4] at h
          exact absurd rfl h
end Go.Proofs.Ytpeknjbcjpdmnaa
