/- Varints, in plain Lean: what 'varint.Get' and 'varint.Put' compute, on lists of bytes. No program in sight. -/
import Derived.Test.YtpeknjbcjpdmnabBase
import Derived.Laws.BitsAllLaws
import Derived.Lib.BitFns
import Derived.WalkKit
namespace Go.Proofs.Ytpeknjbcjpdmnab
open Go.RowKit

/-- From place i on, acc read so far: the number, its bytes, the error. -/
def vget (i acc : Nat) : List UInt8 → Nat × Nat × Nat
  | [] => (0, 0, 2)
  | c :: l =>
    if i = 9 ∧ 1 < c.toNat then (0, 0, 3)
    else if c.toNat < 128 then (if c.toNat = 0 ∧ 0 < i then (0, 0, 3) else (acc + c.toNat * 128 ^ i, i + 1, 0))
    else vget (i + 1) (acc + (c.toNat - 128) * 128 ^ i) l

/-- 'varint.Get' of bytes. -/
def vgetS (l : List UInt8) : Nat × Nat × Nat := vget 0 0 l

theorem u8_lt (c : UInt8) : c.toNat < 256 := c.toNat_lt

theorem wrap_u64_nat (n : Nat) (h : n < 18446744073709551616) : IntKind.u64.wrap (n : Int) = (n : Int) := by
  simp [IntKind.wrap, IntKind.bits, IntKind.signed]; omega
theorem wrap_u8_nat (n : Nat) (h : n < 256) : IntKind.u8.wrap (n : Int) = (n : Int) := by
  simp [IntKind.wrap, IntKind.bits, IntKind.signed]; omega

theorem andNot128 (d : Nat) (hd : d < 256) : bits .andNot .u8 (d : Int) 128 = ((d % 128 : Nat) : Int) := by
  have h : ∀ d : Fin 256, bits .andNot .u8 ((d.val : Nat) : Int) 128 = ((d.val % 128 : Nat) : Int) := by decide +kernel
  exact h ⟨d, hd⟩
theorem or128 (d : Nat) (hd : d < 256) : bits .or .u8 (d : Int) 128 = ((d % 128 + 128 : Nat) : Int) := by
  have h : ∀ d : Fin 256, bits .or .u8 ((d.val : Nat) : Int) 128 = ((d.val % 128 + 128 : Nat) : Int) := by decide +kernel
  exact h ⟨d, hd⟩

theorem pow128 (k : Nat) : (2 : Nat) ^ (7 * k) = 128 ^ k := by rw [Nat.pow_mul]
theorem pow128_le {k : Nat} (hk : k ≤ 8) : 128 ^ k ≤ 72057594037927936 := by
  have := Nat.pow_le_pow_right (n := 128) (by omega) hk
  simpa using this

theorem pow128_le9 {k : Nat} (hk : k ≤ 9) : 128 ^ k ≤ 9223372036854775808 := by
  have := Nat.pow_le_pow_right (n := 128) (by omega) hk
  simpa using this

/-- What a digit puts on top. -/
theorem vor {acc k d : Nat} (hacc : acc < 128 ^ k) (hd : d < 256) (hk : k ≤ 9) (h9 : k = 9 → d ≤ 1) :
    bits .or .u64 (acc : Int) (IntKind.u64.wrap (IntKind.u64.wrap (bits .andNot .u8 (d : Int) 128) * 2 ^ (7 * k))) = ((acc + d % 128 * 128 ^ k : Nat) : Int) := by
  have hp : ((2 : Int) ^ (7 * k)) = ((128 ^ k : Nat) : Int) := by rw [← pow128]; simp
  have hm : d % 128 * 128 ^ k + 128 ^ k ≤ 18446744073709551616 := by
    rcases Nat.lt_or_ge k 9 with h | h
    · have h1 := pow128_le (k := k) (by omega)
      have h2 : d % 128 * 128 ^ k ≤ 127 * 128 ^ k := Nat.mul_le_mul_right _ (by omega)
      omega
    · have h1 := pow128_le9 hk
      have h2 : d % 128 * 128 ^ k ≤ 1 * 128 ^ k := Nat.mul_le_mul_right _ (by have := h9 (by omega); omega)
      omega
  rw [andNot128 d hd, hp, wrap_u64_nat _ (by omega), ← Int.natCast_mul, wrap_u64_nat _ (by omega), bits_or_u64_nat _ _ (by omega) (by omega)]
  congr 1
  rw [Nat.or_comm, ← pow128, Nat.mul_comm, ← Nat.two_pow_add_eq_or_of_lt (by rw [pow128]; exact hacc), Nat.add_comm]

theorem top_le {k d : Nat} (hd : d < 256) (hk : k ≤ 9) (h9 : k = 9 → d ≤ 1) : d % 128 * 128 ^ k + 128 ^ k ≤ 18446744073709551616 := by
  rcases Nat.lt_or_ge k 9 with h | h
  · have h1 := pow128_le (k := k) (by omega)
    have h2 : d % 128 * 128 ^ k ≤ 127 * 128 ^ k := Nat.mul_le_mul_right _ (by omega)
    omega
  · have h1 := pow128_le9 hk
    have h2 : d % 128 * 128 ^ k ≤ 1 * 128 ^ k := Nat.mul_le_mul_right _ (by have := h9 (by omega); omega)
    omega
/-- The document's way: by sums and products. -/
theorem radd {acc sc k d : Nat} (hacc : acc < 128 ^ k) (hsc : sc = 128 ^ k) (hd : d < 256) (hk : k ≤ 9) (h9 : k = 9 → d ≤ 1) :
    IntKind.u64.wrap ((acc : Int) + IntKind.u64.wrap ((d : Int) % 128 * (sc : Int))) = ((acc + d % 128 * 128 ^ k : Nat) : Int) := by
  have hm := top_le hd hk h9
  subst hsc
  have e : ((d : Int) % 128 * ((128 ^ k : Nat) : Int)) = ((d % 128 * 128 ^ k : Nat) : Int) := by rw [Int.natCast_mul]; rfl
  rw [e, wrap_u64_nat _ (by omega), ← Int.natCast_add, wrap_u64_nat _ (by omega)]
theorem radd0 {acc k : Nat} (hacc : acc < 128 ^ k) (hk : k ≤ 9) : IntKind.u64.wrap (acc : Int) = ((acc + 0 % 128 * 128 ^ k : Nat) : Int) := by
  have := pow128_le9 hk
  rw [wrap_u64_nat _ (by omega)]
  simp
theorem rsc {sc k : Nat} (hsc : sc = 128 ^ k) (hk : k < 9) : IntKind.u64.wrap ((sc : Int) * 128) = ((128 ^ (k + 1) : Nat) : Int) := by
  have := pow128_le9 (k := k + 1) (by omega)
  rw [Nat.pow_succ] at this ⊢
  subst hsc
  have e : ((128 ^ k : Nat) : Int) * 128 = ((128 ^ k * 128 : Nat) : Int) := by rw [Int.natCast_mul]; rfl
  rw [e, wrap_u64_nat _ (by omega)]

/-! What one byte does to the reading. -/
section
variable {l : List UInt8} {k acc : Nat}
theorem vget_step (h : k < l.length) : vget k acc (l.drop k) =
    if k = 9 ∧ 1 < (l[k]).toNat then (0, 0, 3)
    else if (l[k]).toNat < 128 then (if (l[k]).toNat = 0 ∧ 0 < k then (0, 0, 3) else (acc + (l[k]).toNat * 128 ^ k, k + 1, 0))
    else vget (k + 1) (acc + ((l[k]).toNat - 128) * 128 ^ k) (l.drop (k + 1)) := by
  rw [List.drop_eq_getElem_cons h, vget]
theorem vget_end (h : l.length ≤ k) : vget k acc (l.drop k) = (0, 0, 2) := by
  rw [List.drop_eq_nil_of_le h, vget]
theorem vget_next {d : Nat} (h : k < l.length) (hd : (l[k]).toNat = d) (h1 : 128 ≤ d) (h2 : k < 9) : vget k acc (l.drop k) = vget (k + 1) (acc + d % 128 * 128 ^ k) (l.drop (k + 1)) := by
  have := u8_lt l[k]
  rw [vget_step h, if_neg (by omega), if_neg (by omega), hd, show d % 128 = d - 128 by omega]
theorem vget_form {d : Nat} (h : k < l.length) (hd : (l[k]).toNat = d) (h1 : (k = 9 ∧ 1 < d) ∨ (d = 0 ∧ 0 < k)) : vget k acc (l.drop k) = (0, 0, 3) := by
  rw [vget_step h, hd]
  split
  · rfl
  · rw [if_pos (by omega), if_pos (by omega)]
theorem vget_done {d : Nat} (h : k < l.length) (hd : (l[k]).toNat = d) (h1 : ¬(k = 9 ∧ 1 < d)) (h2 : d < 128) (h3 : ¬(d = 0 ∧ 0 < k)) : vget k acc (l.drop k) = (acc + d % 128 * 128 ^ k, k + 1, 0) := by
  rw [vget_step h, hd, if_neg h1, if_pos h2, if_neg h3, Nat.mod_eq_of_lt h2]
theorem vget_lt {d : Nat} (ha : acc < 128 ^ k) : acc + d % 128 * 128 ^ k < 128 ^ (k + 1) := by
  rw [Nat.pow_succ]
  have : d % 128 * 128 ^ k ≤ 127 * 128 ^ k := Nat.mul_le_mul_right _ (by omega)
  omega
end

/-! ### Put and Size -/
def vput (n : Nat) : List UInt8 := if n < 128 then [UInt8.ofNat n] else UInt8.ofNat (n % 128 + 128) :: vput (n / 128)
termination_by n
decreasing_by omega

theorem vput_lo {n : Nat} (h : n < 128) : vput n = [UInt8.ofNat n] := by rw [vput, if_pos h]
theorem vput_hi {n : Nat} (h : 128 ≤ n) : vput n = UInt8.ofNat (n % 128 + 128) :: vput (n / 128) := by rw [vput, if_neg (by omega)]
theorem vput_pos (n : Nat) : 0 < (vput n).length := by
  rcases Nat.lt_or_ge n 128 with h | h
  · rw [vput_lo h]; simp
  · rw [vput_hi h]; simp

theorem toNat_u8 {n : Nat} (h : n < 256) : (UInt8.ofNat n).toNat = n := by
  rw [UInt8.toNat_ofNat']
  exact Nat.mod_eq_of_lt (by omega)

/-- How many bytes: by the bits. -/
theorem vput_size : ∀ n : Nat, n < 18446744073709551616 → (vput n).length = max 1 ((Lib.bitLen n + 6) / 7) := by
  intro n
  induction n using Nat.strongRecOn with
  | ind n ih =>
    intro hn
    rcases Nat.lt_or_ge n 128 with h | h
    · have hb : Lib.bitLen n ≤ 7 := by
        have : ∀ n : Fin 128, Lib.bitLen n.val ≤ 7 := by decide +kernel
        exact this ⟨n, h⟩
      rw [vput_lo h]
      simp only [List.length_singleton]
      omega
    · have hs := Lib.bitLen_shift 7 n h hn
      rw [show (2 : Nat) ^ 7 = 128 from rfl] at hs
      have hq : 0 < Lib.bitLen (n / 128) := by rw [Lib.bitLen_half (n / 128) (by omega) (by omega)]; omega
      rw [vput_hi h, List.length_cons, ih (n / 128) (by omega) (by omega), hs]
      omega
theorem vput_le {n : Nat} (h : n < 18446744073709551616) : (vput n).length ≤ 10 := by
  have : ∀ k n : Nat, n < 128 ^ (k + 1) → (vput n).length ≤ k + 1 := by
    intro k
    induction k with
    | zero => intro n hn; rw [vput_lo (by simpa using hn)]; simp
    | succ k ih =>
      intro n hn
      rcases Nat.lt_or_ge n 128 with h | h
      · rw [vput_lo h]; simp
      · have := ih (n / 128) (by rw [Nat.pow_succ] at hn; omega)
        rw [vput_hi h, List.length_cons]
        omega
  exact this 9 n (Nat.lt_trans h (by decide))

theorem orbyte (m : Nat) : bits .or .u8 (IntKind.u8.wrap (m : Int)) 128 = (((UInt8.ofNat (m % 128 + 128)).toNat : Nat) : Int) := by
  have h : IntKind.u8.wrap (m : Int) = ((m % 256 : Nat) : Int) := by rw [IntKind.wrap_u8]; omega
  rw [h, or128 _ (by omega), toNat_u8 (by omega)]
  omega
theorem lobyte' (m : Nat) (h : m < 128) : (m : Int) = (((UInt8.ofNat m).toNat : Nat) : Int) := by
  rw [toNat_u8 (by omega)]
theorem lobyte (m : Nat) (h : m < 128) : IntKind.u8.wrap (m : Int) = (((UInt8.ofNat m).toNat : Nat) : Int) := by
  rw [toNat_u8 (by omega), IntKind.wrap_u8]
  omega

/-! ### Fold and Open -/
def foldS (n : Int) : Int := if 0 ≤ n then 2 * n else -2 * n - 1
def openS (u : Int) : Int := if u % 2 = 0 then u / 2 else -(u / 2) - 1

theorem xor_u64_zero (a : Nat) (ha : a < 18446744073709551616) : bits .xor .u64 (a : Int) 0 = (a : Int) := by
  show IntKind.u64.wrap ((BitVec.ofInt 64 (a : Int) ^^^ BitVec.ofInt 64 0).toNat : Int) = _
  rw [show BitVec.ofInt 64 0 = 0#64 from rfl, BitVec.xor_zero, BitVec.ofInt_natCast, BitVec.toNat_ofNat, Nat.mod_eq_of_lt (by omega), wrap_u64_nat _ ha]
theorem xor_u64_ones (a : Nat) (ha : a < 18446744073709551616) : bits .xor .u64 (a : Int) 18446744073709551615 = 18446744073709551615 - (a : Int) := by
  show IntKind.u64.wrap ((BitVec.ofInt 64 (a : Int) ^^^ BitVec.ofInt 64 18446744073709551615).toNat : Int) = _
  rw [show BitVec.ofInt 64 18446744073709551615 = BitVec.allOnes 64 from rfl, BitVec.xor_allOnes, BitVec.toNat_not, BitVec.ofInt_natCast, BitVec.toNat_ofNat, Nat.mod_eq_of_lt (by omega), wrap_u64_nat _ (by omega)]
  omega
theorem foldbits {n : Int} (h0 : -9223372036854775808 ≤ n) (h1 : n ≤ 9223372036854775807) :
    bits .xor .u64 (IntKind.u64.wrap (IntKind.u64.wrap n * 2)) (IntKind.u64.wrap (n / 9223372036854775808)) = foldS n := by
  have hw : ∀ x : Int, IntKind.u64.wrap x = x % 18446744073709551616 := fun x => by simp [IntKind.wrap, IntKind.bits, IntKind.signed]
  rw [hw, hw, hw]
  unfold foldS
  split
  · rename_i h
    have e1 : n % 18446744073709551616 * 2 % 18446744073709551616 = ((2 * n).toNat : Int) := by omega
    have e2 : n / 9223372036854775808 % 18446744073709551616 = 0 := by omega
    rw [e1, e2, xor_u64_zero _ (by omega)]
    omega
  · rename_i h
    have e1 : n % 18446744073709551616 * 2 % 18446744073709551616 = ((2 * n + 18446744073709551616).toNat : Int) := by omega
    have e2 : n / 9223372036854775808 % 18446744073709551616 = 18446744073709551615 := by omega
    rw [e1, e2, xor_u64_ones _ (by omega)]
    omega
theorem and_u64_one (a : Nat) (ha : a < 18446744073709551616) : bits .and .u64 (a : Int) 1 = ((a % 2 : Nat) : Int) := by
  have h := bits_and_u64_nat a 1 ha (by omega)
  rw [show ((1 : Nat) : Int) = 1 from rfl] at h
  rw [h, show a &&& 1 = a % 2 from Nat.and_one_is_mod a]
theorem xor_i64_zero (a : Nat) (ha : a < 9223372036854775808) : bits .xor .i64 (a : Int) 0 = (a : Int) := by
  show IntKind.i64.wrap ((BitVec.ofInt 64 (a : Int) ^^^ BitVec.ofInt 64 0).toNat : Int) = _
  rw [show BitVec.ofInt 64 0 = 0#64 from rfl, BitVec.xor_zero, BitVec.ofInt_natCast, BitVec.toNat_ofNat, Nat.mod_eq_of_lt (by omega), IntKind.wrap_i64]
  omega
theorem xor_i64_ones (a : Nat) (ha : a < 9223372036854775808) : bits .xor .i64 (a : Int) (-1) = -1 - (a : Int) := by
  show IntKind.i64.wrap ((BitVec.ofInt 64 (a : Int) ^^^ BitVec.ofInt 64 (-1)).toNat : Int) = _
  rw [show BitVec.ofInt 64 (-1) = BitVec.allOnes 64 from rfl, BitVec.xor_allOnes, BitVec.toNat_not, BitVec.ofInt_natCast, BitVec.toNat_ofNat, Nat.mod_eq_of_lt (by omega), IntKind.wrap_i64]
  omega
theorem openbits {u : Int} (h0 : 0 ≤ u) (h1 : u ≤ 18446744073709551615) :
    bits .xor .i64 (u / 2) (wrap64 (-wrap64 (bits .and .u64 u 1))) = openS u := by
  obtain ⟨a, rfl⟩ := Int.eq_ofNat_of_zero_le h0
  rw [and_u64_one a (by omega)]
  have e : ((a : Int) / 2) = ((a / 2 : Nat) : Int) := by omega
  rw [e]
  unfold openS wrap64
  split
  · rename_i h
    rw [show (a % 2 : Nat) = 0 by omega]
    rw [show -(((((0 : Nat) : Int) + 9223372036854775808) % 18446744073709551616 - 9223372036854775808)) = (0 : Int) by decide, show (((0 : Int) + 9223372036854775808) % 18446744073709551616 - 9223372036854775808) = 0 by decide, xor_i64_zero _ (by omega)]
    omega
  · rename_i h
    rw [show (a % 2 : Nat) = 1 by omega]
    rw [show -(((((1 : Nat) : Int) + 9223372036854775808) % 18446744073709551616 - 9223372036854775808)) = (-1 : Int) by decide, show (((-1 : Int) + 9223372036854775808) % 18446744073709551616 - 9223372036854775808) = -1 by decide, xor_i64_ones _ (by omega)]
    omega
end Go.Proofs.Ytpeknjbcjpdmnab
