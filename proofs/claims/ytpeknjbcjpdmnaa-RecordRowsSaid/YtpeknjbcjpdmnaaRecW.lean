/- Plain laws of records: a burst in the body is refused. -/
import Derived.Test.YtpeknjbcjpdmnaaRecS
namespace Go.Proofs.Ytpeknjbcjpdmnaa

theorem val_append : ∀ (a b : List UInt8), val (a ++ b) = val a + 256 ^ a.length * val b
  | [], b => by simp [val]
  | c :: a, b => by
    rw [List.cons_append, val, val, val_append a b, List.length_cons, Nat.pow_succ, Nat.mul_add, Nat.mul_comm (256 ^ a.length) 256, Nat.mul_assoc]
    omega
theorem val_lt : ∀ (l : List UInt8), val l < 256 ^ l.length
  | [] => by simp [val]
  | c :: l => by
    have := c.toNat_lt
    have ih := val_lt l
    rw [val, List.length_cons, Nat.pow_succ]
    omega
theorem val_take {l : List UInt8} {k : Nat} (h : k ≤ l.length) : val (l.take k) = val l % 256 ^ k := by
  have h1 := val_append (l.take k) (l.drop k)
  rw [List.take_append_drop, List.length_take, Nat.min_eq_left h] at h1
  have h2 := val_lt (l.take k)
  rw [List.length_take, Nat.min_eq_left h] at h2
  rw [h1, Nat.add_mul_mod_self_left, Nat.mod_eq_of_lt h2]
theorem val_drop {l : List UInt8} {k : Nat} (h : k ≤ l.length) : val (l.drop k) = val l / 256 ^ k := by
  have h1 := val_append (l.take k) (l.drop k)
  rw [List.take_append_drop, List.length_take, Nat.min_eq_left h] at h1
  have h2 := val_lt (l.take k)
  rw [List.length_take, Nat.min_eq_left h] at h2
  rw [h1, Nat.add_mul_div_left _ _ (Nat.pow_pos (by omega)), Nat.div_eq_of_lt h2, Nat.zero_add]
theorem pow256 (k : Nat) : 256 ^ k = 2 ^ (8 * k) := by rw [Nat.pow_mul]

/-- What lies behind a burst, and what lies ahead of it, stays. -/
theorem turned_drop {x b : List UInt8} {t K E : Nat} (hl : x.length = b.length) (hv : val x = val b ^^^ t * 2 ^ K) (hE : E ≤ b.length) (ht : t < 2 ^ 32) (hK : K + 32 ≤ 8 * E) : x.drop E = b.drop E := by
  apply val_inj
  · rw [List.length_drop, List.length_drop, hl]
  · rw [val_drop (by omega), val_drop hE, hv, pow256, Nat.xor_div_two_pow]
    have : t * 2 ^ K < 2 ^ (8 * E) := by
      refine Nat.lt_of_lt_of_le (Nat.mul_lt_mul_of_pos_right ht (Nat.two_pow_pos K)) ?_
      rw [← Nat.pow_add]
      exact Nat.pow_le_pow_right (by omega) (by omega)
    rw [Nat.div_eq_of_lt this, Nat.xor_zero]
theorem turned_take {x b : List UInt8} {t K h : Nat} (hl : x.length = b.length) (hv : val x = val b ^^^ t * 2 ^ K) (hh : h ≤ b.length) (hK : 8 * h ≤ K) : x.take h = b.take h := by
  apply val_inj
  · rw [List.length_take, List.length_take, hl]
  · rw [val_take (by omega), val_take hh, hv, pow256, Nat.xor_mod_two_pow]
    have : t * 2 ^ K % 2 ^ (8 * h) = 0 := by
      rw [show K = 8 * h + (K - 8 * h) by omega, Nat.pow_add, ← Nat.mul_assoc, Nat.mul_comm t, Nat.mul_assoc]
      exact Nat.mul_mod_right _ _
    rw [this, Nat.xor_zero]
theorem turned_front {x b : List UInt8} {t K E : Nat} (hl : x.length = b.length) (hv : val x = val b ^^^ t * 2 ^ K) (hE : E ≤ b.length) (ht : t < 2 ^ 32) (hK : K + 32 ≤ 8 * E) : val (x.take E) = val (b.take E) ^^^ t * 2 ^ K := by
  rw [val_take (by omega), val_take hE, hv, pow256, Nat.xor_mod_two_pow]
  congr 1
  refine Nat.mod_eq_of_lt (Nat.lt_of_lt_of_le (Nat.mul_lt_mul_of_pos_right ht (Nat.two_pow_pos K)) ?_)
  rw [← Nat.pow_add]
  exact Nat.pow_le_pow_right (by omega) (by omega)

/-- A burst is seen (by the sum). -/
theorem ofS_burst' {x b : List UInt8} {t k : Nat} (hl : x.length = b.length) (hv : val x = val b ^^^ t * 2 ^ k) (ht : t < 4294967296) (h0 : t ≠ 0) (hk : k + 32 ≤ 8 * b.length) : ofS x ≠ ofS b := by
  intro h
  rw [ofS_val, ofS_val, hl, hv] at h
  have h1 := congrArg (· ^^^ allOnes) h
  simp only [xor_xor_self] at h1
  rw [← Nat.xor_assoc, shN_xor] at h1
  have h2 := congrArg (shN (8 * b.length) (allOnes ^^^ val b) ^^^ ·) h1
  simp only [← Nat.xor_assoc, Nat.xor_self, Nat.zero_xor] at h2
  rw [show 8 * b.length = k + (8 * b.length - k) by omega, shN_add, Nat.mul_comm t, shN_pow] at h2
  exact shN_ne _ ht h0 h2

/-- A record of whose body up to 32 bits side by side are turned. -/
theorem next_burst {x body : List UInt8} {t k : Nat} (hb : body.length ≤ 1048576) (hl : x.length = (recB body).length) (ht : t < 4294967296) (h0 : t ≠ 0) (hk : k + 32 ≤ 8 * body.length)
    (hv : val x = val (recB body) ^^^ t * 2 ^ (8 * (vput body.length).length + k)) : nextS x = ([], 0, 8) := by
  have hrl := recB_length body
  have h1 : (recB body).take (vput body.length).length = vput body.length := by
    rw [recB, recH, List.append_assoc, List.take_left']
    rfl
  have h2 : (recB body).take ((vput body.length).length + body.length) = recH body := by
    rw [recB, List.take_left' (recH_length body)]
  have h3 : (recB body).drop ((vput body.length).length + body.length) = leB 4 (ofS (recH body)) := by
    rw [recB, List.drop_left' (recH_length body)]
  have t1 := turned_take hl hv (by omega) (by omega : 8 * (vput body.length).length ≤ 8 * (vput body.length).length + k)
  have t2 := turned_drop (E := (vput body.length).length + body.length) hl hv (by omega) ht (by omega)
  have t3 := turned_front (E := (vput body.length).length + body.length) hl hv (by omega) ht (by omega)
  rw [h1] at t1
  rw [h3] at t2
  rw [h2] at t3
  have hx : vgetS x = (body.length, (vput body.length).length, 0) := by
    rw [← List.take_append_drop (vput body.length).length x, t1]
    exact vget_back _ (by omega) _
  have hne := ofS_burst' (x := x.take ((vput body.length).length + body.length)) (b := recH body) (by rw [List.length_take, recH_length]; omega) t3 ht h0 (by rw [recH_length]; omega)
  unfold nextS
  rw [hx]
  rw [if_neg (by simp), if_neg (by simp; omega), if_neg (by simp; omega), if_pos]
  rw [t2, List.take_of_length_le (by rw [leB_length]; omega), leB_val 4 _ (ofS_lt _)]
  exact fun e => hne e.symm
end Go.Proofs.Ytpeknjbcjpdmnaa
