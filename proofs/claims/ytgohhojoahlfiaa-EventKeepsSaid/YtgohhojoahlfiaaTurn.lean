/- One bit of a text turned, in plain Lean. -/
import Derived.Test.YtgohhojoahlfiaaKA
namespace Go.Proofs.Ytgohhojoahlfiaa
open Go.RowKit

theorem xor_u8' (a b : Nat) (ha : a < 256) (hb : b < 256) : bits .xor .u8 (a : Int) (b : Int) = ((a ^^^ b : Nat) : Int) := by
  have hx : a ^^^ b < 2 ^ 8 := Nat.xor_lt_two_pow (by omega) (by omega)
  show IntKind.u8.wrap ((BitVec.ofInt 8 (a : Int) ^^^ BitVec.ofInt 8 (b : Int)).toNat : Int) = _
  rw [BitVec.toNat_xor, BitVec.ofInt_natCast, BitVec.ofInt_natCast, BitVec.toNat_ofNat, BitVec.toNat_ofNat, Nat.mod_eq_of_lt (by omega), Nat.mod_eq_of_lt (by omega)]
  simp [IntKind.wrap, IntKind.bits, IntKind.signed]
  omega

theorem mul_pow_xor (k a b : Nat) : 2 ^ k * (a ^^^ b) = 2 ^ k * a ^^^ 2 ^ k * b := by
  simp only [Nat.mul_comm (2 ^ k), ← Nat.shiftLeft_eq, Nat.shiftLeft_xor_distrib]

theorem wrap_u8' (n : Nat) (h : n < 256) : IntKind.u8.wrap (n : Int) = (n : Int) := by
  simp [IntKind.wrap, IntKind.bits, IntKind.signed]; omega
theorem toNat_u8' {n : Nat} (h : n < 2 ^ 8) : ((n : Nat) : Int) = ((UInt8.ofNat n).toNat : Int) := by
  rw [UInt8.toNat_ofNat']
  rw [Nat.mod_eq_of_lt h]
theorem bcells_set (l : List UInt8) (j : Nat) (c : UInt8) : bcells (l.set j c) = (bcells l).set j (.int .u8 (c.toNat : Int)) := by
  rw [bcells, List.map_set]
  rfl
/-- A bit of one byte turned: that bit of the whole. -/
theorem val_set : ∀ (l : List UInt8) (j t : Nat) (h : j < l.length), t < 8 → val (l.set j (UInt8.ofNat ((l[j]).toNat ^^^ 2 ^ t))) = val l ^^^ 2 ^ (8 * j + t)
  | c :: l, 0, t, _, ht => by
    have hc : c.toNat < 2 ^ 8 := c.toNat_lt
    have h2 : 2 ^ t < 2 ^ 8 := Nat.pow_lt_pow_right (by omega) ht
    have hx : c.toNat ^^^ 2 ^ t < 2 ^ 8 := Nat.xor_lt_two_pow hc h2
    have e : (UInt8.ofNat (c.toNat ^^^ 2 ^ t)).toNat = c.toNat ^^^ 2 ^ t := by
      rw [UInt8.toNat_ofNat']
      exact Nat.mod_eq_of_lt hx
    simp only [List.set_cons_zero, List.getElem_cons_zero, val]
    rw [e, show 256 = 2 ^ 8 from rfl, ← xor_low 8 _ _ hx, ← xor_low 8 _ _ hc, Nat.mul_zero, Nat.zero_add, Nat.xor_assoc, Nat.xor_assoc, Nat.xor_comm (2 ^ t)]
  | c :: l, j + 1, t, h, ht => by
    have hc : c.toNat < 2 ^ 8 := c.toNat_lt
    have ih := val_set l j t (by simpa using h) ht
    simp only [List.set_cons_succ, List.getElem_cons_succ, val]
    rw [ih, show 256 = 2 ^ 8 from rfl, ← xor_low 8 _ _ hc, ← xor_low 8 _ _ hc, Nat.xor_assoc]
    congr 1
    rw [show 8 * (j + 1) + t = 8 + (8 * j + t) by omega, Nat.pow_add 2 8, mul_pow_xor]

theorem low_odd {t i : Nat} (h : t / 2 ^ i % 2 = 1) : t % 2 ^ (i + 1) = t % 2 ^ i ^^^ 2 ^ i := by
  have h1 := xor_low i (t % 2 ^ i) 1 (Nat.mod_lt _ (Nat.two_pow_pos i))
  rw [Nat.mul_one] at h1
  rw [h1, Nat.pow_succ, Nat.mod_mul, h, Nat.mul_one]
theorem low_even {t i : Nat} (h : t / 2 ^ i % 2 = 0) : t % 2 ^ (i + 1) = t % 2 ^ i := by
  rw [Nat.pow_succ, Nat.mod_mul, h, Nat.mul_zero, Nat.add_zero]

end Go.Proofs.Ytgohhojoahlfiaa
