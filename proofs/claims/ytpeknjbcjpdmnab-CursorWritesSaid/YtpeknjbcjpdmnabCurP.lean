/- Cursor, plain laws: what is read by a plan is laid by it to the very bytes; what is laid is read as it was; cut off it ends too early; with more behind it, it is of no form. -/
import Derived.Test.YtpeknjbcjpdmnabScanE
import Derived.Test.YtpeknjbcjpdmnabLay
namespace Go.Proofs.Ytpeknjbcjpdmnab
set_option linter.unusedVariables false

theorem put_get (b : List UInt8) (big : Bool) : putS b.length (getS b big) big = b := by
  unfold putS getS
  rcases big with _ | _
  · exact leB_of_val
  · have h : beN b = val b.reverse := by rw [← beN_reverse, List.reverse_reverse]
    show (leB b.length (beN b)).reverse = b
    rw [h, ← (List.length_reverse : b.reverse.length = b.length), leB_of_val, List.reverse_reverse]
theorem getS_pow (b : List UInt8) (big : Bool) : getS b big < 256 ^ b.length := by
  unfold getS
  rcases big with _ | _
  · have h : val b = beN b.reverse := (beN_reverse b).symm
    show val b < _
    rw [h]
    have := beN_lt b.reverse
    rwa [List.length_reverse] at this
  · exact beN_lt b
theorem get_put {k m : Nat} (h : m < 256 ^ k) (big : Bool) : getS (putS k m big) big = m := by
  unfold putS getS
  rcases big with _ | _
  · exact leB_val k m h
  · show beN (leB k m).reverse = m
    rw [beN_reverse]; exact leB_val k m h
theorem fits_num_iff {k m : Nat} (h : m < 256 ^ k) : beN (putS k m true) = m := get_put h true
theorem leB_pow : ∀ (k m : Nat), val (leB k m) < 256 ^ k
  | k, m => by
    have := getS_pow (leB k m) false
    rw [leB_length] at this
    exact this
theorem fits_num_lt {k m : Nat} (h : beN (putS k m true) = m) : m < 256 ^ k := by
  have h2 : beN (putS k m true) = val (leB k m) := by
    show beN (leB k m).reverse = _
    rw [beN_reverse]
  rw [← h, h2]
  exact leB_pow k m

theorem fault_pre {s : St} {x : Item} (h : mayB x = false) : (preS s x).2.2 ≠ 0 := by
  unfold preS failS
  rw [h]
  simp only [Bool.false_eq_true, if_false]
  split <;> simp_all
theorem cut_keeps {l : List UInt8} {s : St} {k n : Nat} (h : (cutS l s k n).1.2.2 = 0) : s.2.2 = 0 ∧ s.1 + k + n ≤ l.length := by
  by_cases h0 : s.2.2 = 0
  · refine ⟨h0, ?_⟩
    rcases Nat.lt_or_ge l.length (s.1 + k + n) with hs | hs
    · rw [cut_short h0 hs] at h
      simp [failS, h0] at h
    · exact hs
  · rw [cut_fault h0] at h
    exact absurd h h0
theorem fail_fault (s : St) {e : Nat} (he : e ≠ 0) : (failS s e).2.2 ≠ 0 := by
  unfold failS
  split
  · exact he
  · assumption
theorem take_more {l : List UInt8} {a n : Nat} : l.take a ++ (l.drop a).take n = l.take (a + n) := (List.take_add (l := l) (i := a) (j := n)).symm
theorem peek_keeps {l : List UInt8} {s : St} (h : (peekS l s).1.2.2 = 0) : s.2.2 = 0 ∧ vgetS (l.drop s.1) = ((peekS l s).2.1, (peekS l s).2.2, 0) ∧ (peekS l s).1 = s := by
  by_cases h0 : s.2.2 = 0
  · refine ⟨h0, ?_⟩
    by_cases hv : (vgetS (l.drop s.1)).2.2 = 0
    · have e : peekS l s = (s, (vgetS (l.drop s.1)).1, (vgetS (l.drop s.1)).2.1) := by unfold peekS; rw [if_neg (by omega), if_neg (by omega)]
      rw [e]
      refine ⟨?_, rfl⟩
      rcases hg : vgetS (l.drop s.1) with ⟨a, b, c⟩
      rw [hg] at hv
      simp only at hv
      subst hv
      rfl
    · have e : peekS l s = (failS s (vgetS (l.drop s.1)).2.2, 0, 0) := by unfold peekS; rw [if_neg (by omega), if_pos hv]
      rw [e] at h
      exact absurd h (fail_fault s hv)
  · have e : peekS l s = (s, 0, 0) := if_pos h0
    rw [e] at h
    exact absurd h h0

/-- What one item's reading tells of its laying. -/
theorem read_lay {l : List UInt8} {s s' : St} {x : Item} {q : Nat} {b : List UInt8} (ok : okS l s) (h : readS l s x = (s', q, b)) (hz : s'.2.2 = 0) :
    s.2.2 = 0 ∧ mayB x = true ∧ fitsB x (q, b) = true ∧ l.take s.1 ++ pieceB x (q, b) = l.take s'.1 ∧ pOk (q, b) ∨ 1000000 < l.length := by
  by_cases hll : 1000000 < l.length
  · exact .inr hll
  left
  obtain ⟨k, n, big⟩ := x
  have hpre : mayB (k, n, big) = true → preS s (k, n, big) = s := fun h => by unfold preS; rw [h]; rfl
  have hmay : mayB (k, n, big) = true := by
    rcases hm : mayB (k, n, big) with _ | _
    · exfalso
      have hp := fault_pre (s := s) hm
      unfold readS at h
      simp only at h
      split at h
      · have := congrArg (fun r : St × Piece => r.1.2.2) h
        simp only at this
        rw [hz] at this
        unfold numS at this
        split at this
        · exact absurd this (fail_fault _ (by decide))
        · exact hp (cut_keeps this).1
      · split at h
        · have := congrArg (fun r : St × Piece => r.1.2.2) h
          simp only [varS] at this
          rw [hz] at this
          exact hp (peek_keeps this).1
        · split at h
          · have := congrArg (fun r : St × Piece => r.1.2.2) h
            simp only at this
            rw [hz] at this
            unfold takeS at this
            split at this
            · exact absurd this (fail_fault _ (by decide))
            · exact hp (cut_keeps this).1
          · split at h
            · have := congrArg (fun r : St × Piece => r.1.2.2) h
              simp only at this
              rw [hz] at this
              unfold textS at this
              split at this
              · exact absurd this (fail_fault _ (by decide))
              · exact hp (peek_keeps (cut_keeps this).1).1
            · have := congrArg (fun r : St × Piece => r.1.2.2) h
              simp only at this
              rw [hz] at this
              exact hp this
    · rfl
  have hp := hpre hmay
  rcases may_kind hmay with rfl | rfl | rfl | rfl
  · have e : readS l s (1, n, big) = ((numS l s n big).1, (numS l s n big).2, []) := by unfold readS; rw [if_pos rfl, hp]
    have hn : 1 ≤ n ∧ n ≤ 8 := by simpa [mayB] using hmay
    obtain ⟨j, rfl⟩ : ∃ j : Nat, n = (j : Int) := ⟨n.toNat, by omega⟩
    have e2 : numS l s (j : Int) big = ((cutS l s 0 j).1, getS (cutS l s 0 j).2 big) := by unfold numS; rw [if_neg (by omega)]; rfl
    rw [e, e2] at h
    injection h with h1 h2
    injection h2 with h2 h3
    simp only at h1 h2 h3
    subst h1 h2 h3
    obtain ⟨g0, g1⟩ := cut_keeps hz
    rw [cut_ok g0 (by omega)]
    have hlen : ((l.drop (s.1 + 0)).take j).length = j := by rw [List.length_take, List.length_drop]; omega
    have hpw := getS_pow ((l.drop (s.1 + 0)).take j) big
    rw [hlen] at hpw
    have hpw2 : 256 ^ j ≤ 256 ^ 8 := Nat.pow_le_pow_right (by omega) (by omega)
    refine ⟨g0, hmay, ?_, ?_, ⟨by simp only; omega, by simp⟩⟩
    · unfold fitsB
      rw [if_pos rfl]
      exact decide_eq_true ⟨rfl, fits_num_iff hpw⟩
    · show l.take s.1 ++ (putS (j : Int).toNat _ big ++ []) = _
      have := put_get ((l.drop (s.1 + 0)).take j) big
      rw [hlen] at this
      rw [List.append_nil, Int.toNat_natCast, this, Nat.add_zero, take_more]
  · have e : readS l s (2, n, big) = ((varS l s).1, (varS l s).2, []) := by unfold readS; rw [if_neg (by simp), if_pos rfl, hp]
    rw [e] at h
    injection h with h1 h2
    injection h2 with h2 h3
    have hpk : (peekS l s).1.2.2 = 0 := by rw [← h1] at hz; exact hz
    obtain ⟨g0, g1, g2⟩ := peek_keeps hpk
    have ho := vget_only g1
    subst h1 h2 h3
    refine ⟨g0, hmay, ?_, ?_, ⟨ho.1, by simp⟩⟩
    · unfold fitsB
      rw [if_neg (by simp), if_pos rfl]
      exact decide_eq_true rfl
    · show l.take s.1 ++ (vput (peekS l s).2.1 ++ []) = l.take ((peekS l s).1.1 + (peekS l s).2.2)
      rw [List.append_nil, ho.2.2.2.2, take_more, g2]
  · have e : readS l s (4, n, big) = ((textS l s n).1, 0, (textS l s n).2) := by unfold readS; rw [if_neg (by simp), if_neg (by simp), if_neg (by simp), if_pos rfl, hp]
    rw [e] at h
    injection h with h1 h2
    injection h2 with h2 h3
    have hn : ¬ (n < 0 ∨ n < ((peekS l s).2.1 : Int)) := fun hc => by
      rw [← h1] at hz
      unfold textS at hz
      rw [if_pos hc] at hz
      exact absurd hz (fail_fault _ (by decide))
    have e2 : textS l s n = cutS l (peekS l s).1 (peekS l s).2.2 (peekS l s).2.1 := by unfold textS; rw [if_neg hn]
    rw [e2] at h1 h3
    rw [← h1] at hz
    obtain ⟨c0, c1⟩ := cut_keeps hz
    obtain ⟨g0, g1, g2⟩ := peek_keeps c0
    have ho := vget_only g1
    rw [g2] at c1 h1 h3
    rw [cut_ok g0 c1] at h1 h3
    simp only at h1 h3
    subst h1 h3 h2
    have hlen : ((l.drop (s.1 + (peekS l s).2.2)).take (peekS l s).2.1).length = (peekS l s).2.1 := by rw [List.length_take, List.length_drop]; omega
    refine ⟨g0, hmay, ?_, ?_, ⟨by simp, by simp only; omega⟩⟩
    · unfold fitsB
      rw [if_neg (by simp), if_neg (by simp), if_neg (by simp)]
      exact decide_eq_true ⟨rfl, by simp only; rw [hlen]; omega⟩
    · show l.take s.1 ++ (vput ((l.drop (s.1 + (peekS l s).2.2)).take (peekS l s).2.1).length ++ (l.drop (s.1 + (peekS l s).2.2)).take (peekS l s).2.1) = _
      rw [hlen, ho.2.2.2.2, ← List.append_assoc, take_more, take_more]
  · have e : readS l s (3, n, big) = ((takeS l s n).1, 0, (takeS l s n).2) := by unfold readS; rw [if_neg (by simp), if_neg (by simp), if_pos rfl, hp]
    have hn : 0 ≤ n := by simpa [mayB] using hmay
    obtain ⟨j, rfl⟩ : ∃ j : Nat, n = (j : Int) := ⟨n.toNat, by omega⟩
    have e2 : takeS l s (j : Int) = cutS l s 0 j := by unfold takeS; rw [if_neg (by omega)]; rfl
    rw [e, e2] at h
    injection h with h1 h2
    injection h2 with h2 h3
    rw [← h1] at hz
    obtain ⟨g0, g1⟩ := cut_keeps hz
    rw [cut_ok g0 (by omega)] at h1 h3
    simp only at h1 h3
    subst h1 h3 h2
    have hlen : ((l.drop (s.1 + 0)).take j).length = j := by rw [List.length_take, List.length_drop]; omega
    refine ⟨g0, hmay, ?_, ?_, ⟨by simp, by simp only; omega⟩⟩
    · unfold fitsB
      rw [if_neg (by simp), if_neg (by simp), if_pos rfl]
      exact decide_eq_true ⟨rfl, by simp only; rw [hlen]⟩
    · show l.take s.1 ++ ([] ++ (l.drop (s.1 + 0)).take j) = _
      rw [List.nil_append, Nat.add_zero, take_more]

theorem scan_lay {l : List UInt8} (hl : l.length ≤ 1000000) : ∀ (plan : List Item) (s : St) (acc ps : List Piece), okS l s → scanGo l s acc plan = (ps, 0, 0) → s.2.2 = 0 →
    ∃ qs, ps = acc ++ qs ∧ layGo (l.take s.1) plan qs = some l ∧ ∀ p ∈ qs, pOk p
  | [], s, acc, ps, ok, h, hz => by
    unfold scanGo at h
    split at h
    · rename_i he
      injection h with h1 h2
      subst h1
      have hge : l.length ≤ s.1 := by
        rcases Nat.lt_or_ge s.1 l.length with hlt | hge
        · unfold endS at he
          rw [if_pos hlt] at he
          exact absurd he (fail_fault _ (by decide))
        · exact hge
      exact ⟨[], by simp, by unfold layGo; rw [List.take_of_length_le hge], by simp⟩
    · rename_i he
      injection h with h1 h2
      rw [h2] at he
      exact absurd rfl he
  | x :: xs, s, acc, ps, ok, h, hz => by
    unfold scanGo at h
    rcases hr : readS l s x with ⟨s', q, b⟩
    rw [hr] at h
    simp only at h
    split at h
    · rename_i he
      rcases read_lay ok hr he with ⟨_, h2, h3, h4, h5⟩ | hbad
      · have ok' := ok_read ok x
        rw [hr] at ok'
        obtain ⟨qs, e1, e2, e3⟩ := scan_lay hl xs s' (acc ++ [(q, b)]) ps ok' h he
        refine ⟨(q, b) :: qs, by rw [e1, List.append_assoc]; rfl, ?_, ?_⟩
        · unfold layGo
          rw [h2, h3, h4]
          exact e2
        · intro p hp
          rcases List.mem_cons.1 hp with rfl | hp
          · exact h5
          · exact e3 p hp
      · omega
    · rename_i he
      injection h with h1 h2
      rw [h2] at he
      exact absurd rfl he

theorem scan_only {l : List UInt8} {plan : List Item} {ps : List Piece} (hl : l.length ≤ 1000000) (h : scanS l plan = (ps, 0, 0)) : layS plan ps = some l ∧ ∀ p ∈ ps, pOk p := by
  obtain ⟨qs, e1, e2, e3⟩ := scan_lay hl plan (0, 0, 0) [] ps (by simp [okS]) h rfl
  rw [List.nil_append] at e1
  subst e1
  exact ⟨e2, e3⟩
/-- A reading by a plan: done, or nothing and a fault. -/
theorem scan_or (l : List UInt8) : ∀ (plan : List Item) (s : St) (acc : List Piece), (∃ ps, scanGo l s acc plan = (ps, 0, 0)) ∨ (∃ a e, scanGo l s acc plan = ([], a, e) ∧ e ≠ 0)
  | [], s, acc => by
    unfold scanGo
    split
    · exact .inl ⟨_, rfl⟩
    · rename_i h
      exact .inr ⟨_, _, rfl, h⟩
  | x :: xs, s, acc => by
    unfold scanGo
    split
    · exact scan_or l xs _ _
    · rename_i h
      exact .inr ⟨_, _, rfl, h⟩
theorem scan_len (l : List UInt8) : ∀ (plan : List Item) (s : St) (acc : List Piece), (scanGo l s acc plan).1.length ≤ acc.length + plan.length
  | [], s, acc => by
    unfold scanGo
    split <;> simp
  | x :: xs, s, acc => by
    unfold scanGo
    split
    · have := scan_len l xs (readS l s x).1 (acc ++ [(readS l s x).2])
      simp at this ⊢
      omega
    · simp
end Go.Proofs.Ytpeknjbcjpdmnab
