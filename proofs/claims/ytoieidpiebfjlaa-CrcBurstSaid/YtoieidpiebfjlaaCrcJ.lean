/- The walks of package crc: the matrix's times, square, nought; Join. -/
import Derived.Test.YtoieidpiebfjlaaCrcM
namespace Go.Proofs.Ytoieidpiebfjlaa
open Go.RowKit
set_option linter.unusedVariables false

/-- The matrix of so many bits of 0, its first k words made; behind them another one. -/
def matA (K k : Nat) (f : Nat → Nat) : Array Value := ((List.range 32).map fun j => Value.int .u32 ((if j < k then shN K (2 ^ j) else f j : Nat) : Int)).toArray
theorem matA_size (K k : Nat) (f : Nat → Nat) : (matA K k f).size = 32 := by simp [matA]
theorem matA_get {K k j : Nat} {f : Nat → Nat} (hj : j < 32) : (matA K k f)[j]? = some (.int .u32 ((if j < k then shN K (2 ^ j) else f j : Nat) : Int)) := by
  simp [matA, hj]
theorem matA_set {K k : Nat} {f : Nat → Nat} (hk : k < 32) : (matA K k f).setIfInBounds k (.int .u32 ((shN K (2 ^ k) : Nat) : Int)) = matA K (k + 1) f := by
  apply Array.ext_getElem?
  intro j
  rw [Array.getElem?_setIfInBounds, matA_size]
  by_cases h : k = j
  · subst h
    rw [if_pos rfl, if_pos hk, matA_get hk, if_pos (by omega)]
  · rw [if_neg h]
    by_cases hj : j < 32
    · rw [matA_get hj, matA_get hj]
      congr 4
      exact propext (by omega)
    · rw [Array.getElem?_eq_none (by rw [matA_size]; omega), Array.getElem?_eq_none (by rw [matA_size]; omega)]
/-- Any word may stand in the next place. -/
theorem matA_put {K k : Nat} {f : Nat → Nat} (hk : k < 32) (x : Nat) : (matA K k f).setIfInBounds k (.int .u32 (x : Int)) = matA K k (fun j => if j = k then x else f j) := by
  apply Array.ext_getElem?
  intro j
  rw [Array.getElem?_setIfInBounds, matA_size]
  by_cases h : k = j
  · subst h
    rw [if_pos rfl, if_pos hk, matA_get hk, if_neg (by omega), if_pos rfl]
  · rw [if_neg h]
    by_cases hj : j < 32
    · rw [matA_get hj, matA_get hj]
      congr 3
      split
      · rfl
      · rw [if_neg (Ne.symm h)]
    · rw [Array.getElem?_eq_none (by rw [matA_size]; omega), Array.getElem?_eq_none (by rw [matA_size]; omega)]
theorem matA_next {K k : Nat} {f : Nat → Nat} (h : f k = shN K (2 ^ k)) : matA K k f = matA K (k + 1) f := by
  apply Array.ext_getElem?
  intro j
  by_cases hj : j < 32
  · rw [matA_get hj, matA_get hj]
    congr 3
    by_cases hjk : j = k
    · subst hjk
      rw [if_neg (by omega), if_pos (by omega), h]
    · by_cases h1 : j < k
      · rw [if_pos h1, if_pos (by omega)]
      · rw [if_neg h1, if_neg (by omega)]
  · rw [Array.getElem?_eq_none (by rw [matA_size]; omega), Array.getElem?_eq_none (by rw [matA_size]; omega)]

theorem two_pow_lt {j : Nat} (h : j < 32) : 2 ^ j < 4294967296 := by
  have : 2 ^ j < 2 ^ 32 := Nat.pow_lt_pow_right (by omega) h
  omega
/-- A word, its lowest bit apart. -/
theorem odd_step {K i y : Nat} (h : y % 2 = 1) : shN K (2 ^ i * y) = shN K (2 ^ i) ^^^ shN K (2 ^ (i + 1) * (y / 2)) := by
  rw [← shN_xor]
  congr 1
  have e : 2 ^ i * y = 2 ^ i + 2 ^ (i + 1) * (y / 2) := by
    conv => lhs; rw [show y = 1 + 2 * (y / 2) by omega]
    rw [Nat.mul_add, Nat.mul_one, ← Nat.mul_assoc, ← Nat.pow_succ]
  rw [e, xor_low (i + 1) _ _ (Nat.pow_lt_pow_right (by omega) (by omega))]
theorem even_step {K i y : Nat} (h : y % 2 = 0) : shN K (2 ^ i * y) = shN K (2 ^ (i + 1) * (y / 2)) := by
  congr 1
  conv => lhs; rw [show y = 2 * (y / 2) by omega]
  rw [← Nat.mul_assoc, ← Nat.pow_succ]
theorem half_lt {i y : Nat} (h : y < 2 ^ (32 - i)) (h0 : y ≠ 0) : i < 32 ∧ y / 2 < 2 ^ (32 - (i + 1)) := by
  have hi : i < 32 := by
    rcases Nat.lt_or_ge i 32 with h1 | h1
    · exact h1
    · rw [show 32 - i = 0 by omega] at h
      simp at h
      omega
  refine ⟨hi, ?_⟩
  rw [show 32 - i = 32 - (i + 1) + 1 by omega, Nat.pow_succ] at h
  omega

set_option maxHeartbeats 400000 in
set_option maxRecDepth 100000 in
theorem times_any (g : Nat) (n : Int) (w : World) (K x : Nat) (f : Nat → Nat) (hn : n = (x : Int)) (hx : x < 4294967296) (hblk : Blk w g 55 (matA K 32 f)) :
    Calls Try.prog 35 #[.pointer (some ⟨g, 0, none⟩), .int .u32 n] w fun e w' => e = .returned (.int .u32 ((shN K x : Nat) : Int)) ∧ w = w' := by
  subst hn
  have HB := Lib.hid hblk
  clear hblk
  go_enter Try.func35, Try.ntmps35
  go_wp2
  go_loop [1, 5, 6] (fun v o i => ∃ k y out : Nat, k ≤ 32 ∧ i = .int .i64 (k : Int) ∧ v = .int .u32 (y : Int) ∧ o = .int .u32 (out : Int) ∧ out < 4294967296 ∧ y < 4294967296 ∧ Hid (y < 2 ^ (32 - k)) ∧ Hid (shN K x = out ^^^ shN K (2 ^ k * y))) (fun v _ _ => (intOf v).toNat)
  case atStart => exact ⟨0, x, 0, by omega, rfl, rfl, rfl, by omega, hx, by simpa [Hid] using hx, by simp [Hid]⟩
  case round =>
    obtain ⟨k, y, out, hk, rfl, rfl, rfl, hout, hy, hyk, hv⟩ := hrel
    by_cases h0 : y = 0
    · subst h0
      go_wp2
      go_ret
      exact ⟨ret_u32 (by rw [hv.out, Nat.mul_zero, shN_zero, Nat.xor_zero]), rfl⟩
    · have hne : ((y : Int) != 0) = true := by simp; omega
      obtain ⟨hk32, hyk'⟩ := half_lt hyk.out h0
      have Hyk' := Lib.hid hyk'
      have ha := and1_u32 y hy
      have hc := (HB.out.cell k).trans (matA_get hk32)
      rw [if_pos hk32] at hc
      have hlt := shN_lt K (two_pow_lt hk32)
      have hxo := xor_u32 out (shN K (2 ^ k)) hout hlt
      have hol := Lib.hid (xor_lt32 hout hlt)
      have H0 := Lib.hid h0
      clear h0 hyk' hlt
      rcases Nat.mod_two_eq_zero_or_one y with h | h
      · have hv' : Hid (shN K x = out ^^^ shN K (2 ^ (k + 1) * (y / 2))) := by
          show _ = _
          rw [hv.out, even_step h]
        rw [h] at ha
        clear hc hxo h
        go_wp2
        go_round
        case rel => exact ⟨k + 1, y / 2, out, by omega, by go_num, by go_num, rfl, hout, by omega, Hyk', hv'⟩
        case measure => have := H0.out; simp [intOf]; omega
      · have hv' : Hid (shN K x = (out ^^^ shN K (2 ^ k)) ^^^ shN K (2 ^ (k + 1) * (y / 2))) := by
          show _ = _
          rw [hv.out, odd_step h, Nat.xor_assoc]
        rw [h] at ha
        generalize out ^^^ shN K (2 ^ k) = o2 at *
        generalize shN K (2 ^ k) = e at *
        clear h
        go_wp2
        go_round
        case rel => exact ⟨k + 1, y / 2, o2, by omega, by go_num, by go_num, rfl, hol.out, by omega, Hyk', hv'⟩
        case measure => have := H0.out; simp [intOf]; omega
end Go.Proofs.Ytoieidpiebfjlaa
