/- Plain laws of varints: what is written is read as it was; what is read is what was written; a greater number's has no fewer bytes; none begins another one's. -/
import Derived.Test.YtpeknjbcjpdmnabVarintS
namespace Go.Proofs.Ytpeknjbcjpdmnab

theorem vget_vput : ∀ (m i acc : Nat) (rest : List UInt8), m * 128 ^ i < 18446744073709551616 → i ≤ 9 → (i = 0 ∨ 0 < m) →
    vget i acc (vput m ++ rest) = (acc + m * 128 ^ i, i + (vput m).length, 0) := by
  intro m
  induction m using Nat.strongRecOn with
  | ind m ih =>
    intro i acc rest hm hi h0
    have h9 : i = 9 → m ≤ 1 := fun h => by
      subst h
      rcases Nat.lt_or_ge 1 m with h | h
      · have : 2 * 128 ^ 9 ≤ m * 128 ^ 9 := Nat.mul_le_mul_right _ h
        simp only [Nat.reducePow] at this hm
        omega
      · exact h
    rcases Nat.lt_or_ge m 128 with h | h
    · rw [vput_lo h, List.cons_append, vget, toNat_u8 (by omega), if_neg (by omega), if_pos h, if_neg (by omega)]
      rfl
    · have hs : m / 128 * 128 ^ (i + 1) ≤ m * 128 ^ i := by
        rw [Nat.pow_succ, Nat.mul_comm (128 ^ i), ← Nat.mul_assoc]
        exact Nat.mul_le_mul_right _ (Nat.div_mul_le_self m 128)
      rw [vput_hi h, List.cons_append, vget, toNat_u8 (by omega), if_neg (by omega), if_neg (by omega), ih (m / 128) (by omega) (i + 1) _ rest (by omega) (by omega) (by omega)]
      have e : acc + (m % 128 + 128 - 128) * 128 ^ i + m / 128 * 128 ^ (i + 1) = acc + m * 128 ^ i := by
        rw [Nat.add_sub_cancel, Nat.pow_succ, Nat.mul_comm (128 ^ i) 128, ← Nat.mul_assoc, Nat.add_assoc, ← Nat.add_mul]
        congr 2
        omega
      rw [e, List.length_cons, Nat.add_assoc, Nat.add_comm 1]
theorem vget_back (m : Nat) (hm : m < 18446744073709551616) (rest : List UInt8) : vgetS (vput m ++ rest) = (m, (vput m).length, 0) := by
  unfold vgetS
  rw [vget_vput m 0 0 rest (by simpa using hm) (by omega) (.inl rfl)]
  simp

theorem vget_cut : ∀ (m i acc j : Nat), m * 128 ^ i < 18446744073709551616 → i ≤ 9 → j < (vput m).length → vget i acc ((vput m).take j) = (0, 0, 2) := by
  intro m
  induction m using Nat.strongRecOn with
  | ind m ih =>
    intro i acc j hm hi hj
    rcases Nat.lt_or_ge m 128 with h | h
    · rw [vput_lo h] at hj ⊢
      simp only [List.length_singleton] at hj
      obtain rfl : j = 0 := by omega
      rfl
    · have h9 : i ≠ 9 := fun e => by
        subst e
        have : 128 * 128 ^ 9 ≤ m * 128 ^ 9 := Nat.mul_le_mul_right _ h
        simp only [Nat.reducePow] at this hm
        omega
      have hs : m / 128 * 128 ^ (i + 1) ≤ m * 128 ^ i := by
        rw [Nat.pow_succ, Nat.mul_comm (128 ^ i), ← Nat.mul_assoc]
        exact Nat.mul_le_mul_right _ (Nat.div_mul_le_self m 128)
      rw [vput_hi h] at hj ⊢
      rcases j with _ | j
      · rfl
      · rw [List.length_cons] at hj
        rw [List.take_succ_cons, vget, toNat_u8 (by omega), if_neg (by omega), if_neg (by omega)]
        exact ih (m / 128) (by omega) (i + 1) _ j (by omega) (by omega) (by omega)

theorem vget_err : ∀ (l : List UInt8) (i acc : Nat), (vget i acc l).2.2 ≠ 0 → (vget i acc l).1 = 0 ∧ (vget i acc l).2.1 = 0 ∧ ((vget i acc l).2.2 = 2 ∨ (vget i acc l).2.2 = 3)
  | [], i, acc, _ => ⟨rfl, rfl, .inl rfl⟩
  | c :: l, i, acc, h => by
    rw [vget] at h ⊢
    split
    · exact ⟨rfl, rfl, .inr rfl⟩
    · rename_i h1
      rw [if_neg h1] at h
      split
      · rename_i h2
        rw [if_pos h2] at h
        split
        · exact ⟨rfl, rfl, .inr rfl⟩
        · rename_i h3
          rw [if_neg h3] at h
          exact absurd rfl h
      · rename_i h2
        rw [if_neg h2] at h
        exact vget_err l _ _ h

theorem vget_sound : ∀ (l : List UInt8) (i acc : Nat), acc < 128 ^ i → i ≤ 9 → (vget i acc l).2.2 = 0 →
    ∃ m, (vget i acc l).1 = acc + m * 128 ^ i ∧ (vget i acc l).2.1 = i + (vput m).length ∧ (vput m).length ≤ l.length ∧ vput m = l.take (vput m).length ∧ (i = 0 ∨ 0 < m) ∧ acc + m * 128 ^ i < 18446744073709551616
  | [], i, acc, _, _, h => by simp [vget] at h
  | c :: l, i, acc, ha, hi, h => by
    have hc := u8_lt c
    rw [vget] at h ⊢
    split
    · rename_i h1
      rw [if_pos h1] at h
      simp at h
    · rename_i h1
      rw [if_neg h1] at h
      split
      · rename_i h2
        rw [if_pos h2] at h
        split
        · rename_i h3
          rw [if_pos h3] at h
          simp at h
        · rename_i h3
          have hu : UInt8.ofNat c.toNat = c := by simp
          have ht := top_le (k := i) hc hi (by omega)
          rw [Nat.mod_eq_of_lt h2] at ht
          refine ⟨c.toNat, rfl, ?_, ?_, ?_, by omega, by omega⟩
          · rw [vput_lo h2]; rfl
          · rw [vput_lo h2]; simp
          · rw [vput_lo h2, hu]; simp
      · rename_i h2
        rw [if_neg h2] at h
        have h9 : i ≠ 9 := by omega
        have hlt : acc + (c.toNat - 128) * 128 ^ i < 128 ^ (i + 1) := by
          rw [Nat.pow_succ]
          have : (c.toNat - 128) * 128 ^ i ≤ 127 * 128 ^ i := Nat.mul_le_mul_right _ (by omega)
          omega
        obtain ⟨m, e1, e2, e3, e4, e5, e6⟩ := vget_sound l (i + 1) _ hlt (by omega) h
        have hm : 128 ≤ c.toNat - 128 + m * 128 := by omega
        have hd : (c.toNat - 128 + m * 128) / 128 = m := by omega
        have hr : (c.toNat - 128 + m * 128) % 128 = c.toNat - 128 := by omega
        have hv : vput (c.toNat - 128 + m * 128) = c :: vput m := by
          rw [vput_hi hm, hd, hr, Nat.sub_add_cancel (by omega)]
          simp
        have he : acc + (c.toNat - 128) * 128 ^ i + m * 128 ^ (i + 1) = acc + (c.toNat - 128 + m * 128) * 128 ^ i := by
          rw [Nat.pow_succ, Nat.mul_comm (128 ^ i) 128, ← Nat.mul_assoc, Nat.add_assoc, ← Nat.add_mul]
        refine ⟨c.toNat - 128 + m * 128, by rw [e1, he], ?_, ?_, ?_, .inr (by omega), by omega⟩
        · rw [e2, hv, List.length_cons]; omega
        · rw [hv, List.length_cons, List.length_cons]; omega
        · rw [hv, List.length_cons, List.take_succ_cons, ← e4]

/-- What is read has just the bytes with which it is written. -/
theorem vget_only {l : List UInt8} {n k : Nat} (h : vgetS l = (n, k, 0)) : n < 18446744073709551616 ∧ 1 ≤ k ∧ k ≤ l.length ∧ k = (vput n).length ∧ vput n = l.take k := by
  have h0 : (vget 0 0 l).2.2 = 0 := by
    have := congrArg (fun x => x.2.2) h
    simpa [vgetS] using this
  obtain ⟨m, e1, e2, e3, e4, _, e6⟩ := vget_sound l 0 0 (by simp) (by omega) h0
  have hn : n = m := by
    have := congrArg (fun x => x.1) h
    simp only [vgetS] at this
    rw [e1] at this
    simp at this
    omega
  have hk : k = (vput m).length := by
    have := congrArg (fun x => x.2.1) h
    simp only [vgetS] at this
    rw [e2] at this
    simp at this
    omega
  subst hn hk
  exact ⟨by simpa using e6, vput_pos n, e3, rfl, e4⟩
theorem vget_bad {l : List UInt8} {n k e : Nat} (h : vgetS l = (n, k, e)) (he : e ≠ 0) : n = 0 ∧ k = 0 ∧ (e = 2 ∨ e = 3) := by
  unfold vgetS at h
  have := vget_err l 0 0 (by rw [h]; exact he)
  rw [h] at this
  exact this

theorem vput_mono : ∀ (b a : Nat), a ≤ b → (vput a).length ≤ (vput b).length := by
  intro b
  induction b using Nat.strongRecOn with
  | ind b ih =>
    intro a h
    rcases Nat.lt_or_ge a 128 with ha | ha
    · rw [vput_lo ha]
      exact vput_pos b
    · rw [vput_hi ha, vput_hi (by omega : 128 ≤ b), List.length_cons, List.length_cons]
      have := ih (b / 128) (by omega) (a / 128) (by omega)
      omega
/-- None begins another one's. -/
theorem vput_prefix {a b : Nat} (ha : a < 18446744073709551616) (hb : b < 18446744073709551616) (h : vput a = (vput b).take (vput a).length) : a = b := by
  have h1 : vput b = vput a ++ (vput b).drop (vput a).length := by
    conv => lhs; rw [← List.take_append_drop (vput a).length (vput b), ← h]
  have h2 := vget_back b hb []
  rw [List.append_nil, h1, vget_back a ha] at h2
  have := congrArg (fun x => x.1) h2
  exact this
theorem vput_inj {a b : Nat} (ha : a < 18446744073709551616) (hb : b < 18446744073709551616) (h : vput a = vput b) : a = b :=
  vput_prefix ha hb (by rw [h]; simp)
theorem vput_beq {a b : Nat} (ha : a < 18446744073709551616) (hb : b < 18446744073709551616) : (vput a == vput b) = (a == b) := by
  rcases Nat.decEq a b with h | h
  · rw [beq_eq_false_iff_ne.2 h, beq_eq_false_iff_ne.2 (fun e => h (vput_inj ha hb e))]
  · subst h; simp

theorem open_fold {n : Int} : openS (foldS n) = n := by unfold openS foldS; split <;> split <;> omega
theorem fold_open {u : Int} (h0 : 0 ≤ u) : foldS (openS u) = u := by unfold openS foldS; split <;> split <;> omega
end Go.Proofs.Ytpeknjbcjpdmnab
