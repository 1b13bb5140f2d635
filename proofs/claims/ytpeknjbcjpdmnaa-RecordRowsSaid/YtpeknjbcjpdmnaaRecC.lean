/- A row of records, cut off anywhere: plain Lean. No program in sight. -/
import Derived.Test.YtpeknjbcjpdmnaaRecA
import Derived.Test.YtpeknjbcjpdmnaaRow
namespace Go.Proofs.Ytpeknjbcjpdmnaa

theorem next_rec {l : List UInt8} (h : l.length ≤ 1048576) (t : List UInt8) : nextS (recB l ++ t) = (l, (recB l).length, 0) := by
  have e0 : recB l ++ t = vput l.length ++ (l ++ (leB 4 (ofS (recH l)) ++ t)) := by simp [recB, recH]
  have hv : vgetS (recB l ++ t) = (l.length, (vput l.length).length, 0) := by rw [e0]; exact vget_back _ (by omega) _
  have hlen : (vput l.length).length + l.length + 4 ≤ (recB l ++ t).length := by rw [List.length_append, recB_length]; omega
  have e1 : ((recB l ++ t).drop (vput l.length).length).take l.length = l := by rw [e0, List.drop_left, List.take_left]
  have e2 : (recB l ++ t).take ((vput l.length).length + l.length + 4) = recB l := by rw [← recB_length, List.take_left]
  have hs := (sum_iff hv hlen).1 (by rw [e1, e2])
  unfold nextS
  rw [hv, if_neg (by simp), if_neg (by simp; omega), if_neg (by simp only; omega), if_neg (fun h => h hs), e1, recB_length]

theorem next_cut {l : List UInt8} (h : l.length ≤ 1048576) {j : Nat} (hj : j < (recB l).length) : nextS ((recB l).take j) = ([], 0, 2) := by
  have hl := recB_length l
  by_cases hv : j < (vput l.length).length
  · have e : (recB l).take j = (vput l.length).take j := by
      rw [recB, recH, List.append_assoc, List.take_append_of_le_length (by omega)]
    have : vgetS ((recB l).take j) = (0, 0, 2) := by rw [e]; exact vget_cut _ 0 0 j (by omega) (by omega) hv
    unfold nextS
    rw [this, if_pos (by simp)]
  · have e : (recB l).take j = vput l.length ++ (l ++ leB 4 (ofS (recH l))).take (j - (vput l.length).length) := by
      rw [recB, recH, List.append_assoc, List.take_append, List.take_of_length_le (l := vput l.length) (by omega)]
    have : vgetS ((recB l).take j) = (l.length, (vput l.length).length, 0) := by rw [e]; exact vget_back _ (by omega) _
    unfold nextS
    rw [this, if_neg (by simp), if_neg (by simp; omega), if_pos (by simp only [List.length_take]; omega)]

theorem rowB_append (a b : List (List UInt8)) : rowB (a ++ b) = rowB a ++ rowB b := by simp [rowB]
theorem rowB_cons (a : List UInt8) (b : List (List UInt8)) : rowB (a :: b) = recB a ++ rowB b := by simp [rowB]
theorem rowB_split {ls : List (List UInt8)} {i : Nat} (h : i < ls.length) : rowB ls = rowB (ls.take i) ++ (recB ls[i] ++ rowB (ls.drop (i + 1))) := by
  conv => lhs; rw [← List.take_append_drop i ls, List.drop_eq_getElem_cons h, rowB_append, rowB_cons]
theorem rowB_step {ls : List (List UInt8)} {i : Nat} (h : i < ls.length) : (rowB (ls.take (i + 1))).length = (rowB (ls.take i)).length + (recB ls[i]).length := by
  rw [take_step h, rowB_snoc, List.length_append]
theorem rowB_take_le {ls : List (List UInt8)} : ∀ {i : Nat}, (rowB (ls.take i)).length ≤ (rowB ls).length := by
  intro i
  have h : rowB ls = rowB (ls.take i) ++ rowB (ls.drop i) := by rw [← rowB_append, List.take_append_drop]
  rw [h, List.length_append]
  omega
theorem row_drop {ls : List (List UInt8)} {i k : Nat} (h : i < ls.length) : ((rowB ls).take k).drop (rowB (ls.take i)).length = (recB ls[i] ++ rowB (ls.drop (i + 1))).take (k - (rowB (ls.take i)).length) := by
  rw [List.drop_take]
  conv => lhs; rw [rowB_split h]
  rw [List.drop_left]

theorem allAt_row {ls : List (List UInt8)} (ok : rowOk ls) {k : Nat} (hk : k ≤ (rowB ls).length) : ∀ i, i ≤ ls.length → (rowB (ls.take i)).length ≤ k → AllAt ((rowB ls).take k) (rowB (ls.take i)).length (ls.take i)
  | 0, _, _ => by
    have := allAt_start ((rowB ls).take k)
    simpa [rowB] using this
  | i + 1, hi, hle => by
    have hi' : i < ls.length := by omega
    have hs := rowB_step hi'
    have hp : 1 ≤ (recB ls[i]).length := by rw [recB_length]; omega
    have ih := allAt_row ok hk i (by omega) (by omega)
    have hbl : ((rowB ls).take k).length = k := by rw [List.length_take]; omega
    have hn : nextS (((rowB ls).take k).drop (rowB (ls.take i)).length) = (ls[i], (recB ls[i]).length, 0) := by
      rw [row_drop hi', List.take_append, List.take_of_length_le (l := recB ls[i]) (by omega)]
      exact next_rec (ok _ (List.getElem_mem hi')) _
    have := allAt_step ih (by omega) hn hp
    rw [hs, take_step hi']
    exact this

/-- How far a row that is cut off reads: i records, of which the last ends where no other ends wholly. -/
theorem all_cut {ls : List (List UInt8)} (ok : rowOk ls) {k i : Nat} (hk : k ≤ (rowB ls).length) (hi : i ≤ ls.length) (hle : (rowB (ls.take i)).length ≤ k) (hmax : i < ls.length → k < (rowB (ls.take (i + 1))).length) :
    allS ((rowB ls).take k) = (ls.take i, (rowB (ls.take i)).length, if (rowB (ls.take i)).length = k then 0 else 2) := by
  have h := allAt_row ok hk i hi hle
  have hbl : ((rowB ls).take k).length = k := by rw [List.length_take]; omega
  by_cases he : (rowB (ls.take i)).length = k
  · rw [if_pos he]
    exact allAt_end h (by omega)
  · rw [if_neg he]
    have hi' : i < ls.length := by
      rcases Nat.lt_or_ge i ls.length with h1 | h1
      · exact h1
      · rw [List.take_of_length_le h1] at hle he
        omega
    have hm := hmax hi'
    rw [rowB_step hi'] at hm
    refine allAt_err h (by omega) ?_ (by decide)
    rw [row_drop hi', List.take_append_of_le_length (by omega)]
    exact next_cut (ok _ (List.getElem_mem hi')) (by omega)
theorem all_row {ls : List (List UInt8)} (ok : rowOk ls) : allS (rowB ls) = (ls, (rowB ls).length, 0) := by
  have h := all_cut ok (k := (rowB ls).length) (i := ls.length) (Nat.le_refl _) (Nat.le_refl _) (by rw [List.take_length]; exact Nat.le_refl _) (fun h => absurd h (by omega))
  rw [List.take_length, List.take_length, if_pos rfl] at h
  exact h
theorem few_ok {ls : List (List UInt8)} (h : ls.length ≤ 20 ∧ ∀ l ∈ ls, l.length ≤ 300) : rowOk ls := fun l hl => by have := h.2 l hl; omega
theorem few_len {n : Nat} : ∀ {ls : List (List UInt8)}, ls.length ≤ n → (∀ l ∈ ls, l.length ≤ 300) → (rowB ls).length ≤ 400 * n ∧ room ls ≤ 400 * n
  | [], _, _ => by simp [rowB, room]
  | l :: ls, h, h2 => by
    have h3 := h2 l (by simp)
    obtain ⟨m, rfl⟩ : ∃ m, n = m + 1 := ⟨n - 1, by simp at h; omega⟩
    obtain ⟨h4, h5⟩ := few_len (n := m) (ls := ls) (by simp at h; omega) (fun x hx => h2 x (by simp [hx]))
    have h6 := recB_length l
    have h7 := vput_le (n := l.length) (by omega)
    simp only [rowB, room, List.map_cons, List.flatten_cons, List.length_append, List.sum_cons] at h4 h5 ⊢
    omega
end Go.Proofs.Ytpeknjbcjpdmnaa
