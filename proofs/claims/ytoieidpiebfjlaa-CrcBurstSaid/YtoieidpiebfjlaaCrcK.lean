/- The walks of package crc: square, nought; Join. -/
import Derived.Test.YtoieidpiebfjlaaCrcJ
import Derived.StillTailTactics
namespace Go.Proofs.Ytoieidpiebfjlaa
open Go.RowKit
set_option linter.unusedVariables false

theorem and1_i64 (a : Nat) (ha : a < 9223372036854775808) : bits .and .i64 (a : Int) 1 = ((a % 2 : Nat) : Int) := by
  have hx : a &&& 1 < 2 ^ 63 := Nat.and_lt_two_pow _ (by omega)
  show IntKind.i64.wrap ((BitVec.ofInt 64 (a : Int) &&& BitVec.ofInt 64 1).toNat : Int) = _
  rw [BitVec.toNat_and, BitVec.ofInt_natCast, BitVec.toNat_ofNat, show (BitVec.ofInt 64 1).toNat = 1 from rfl, Nat.mod_eq_of_lt (by omega), Nat.and_one_is_mod, IntKind.wrap_i64]
  omega

theorem kk_even {K q : Nat} (h : q % 2 = 0) : (K + K) * (q / 2) = K * q := by
  rw [← Nat.two_mul, Nat.mul_comm 2 K, Nat.mul_assoc]
  congr 1
  omega
theorem kk_odd {K q : Nat} (h : q % 2 = 1) : K + (K + K) * (q / 2) = K * q := by
  rw [← Nat.two_mul, Nat.mul_comm 2 K, Nat.mul_assoc]
  conv => rhs; rw [show q = 1 + 2 * (q / 2) by omega, Nat.mul_add, Nat.mul_one]

def zeroF (_ : Nat) : Nat := 0
theorem matA_zero (K : Nat) : matA K 0 zeroF = #[.int .u32 0, .int .u32 0, .int .u32 0, .int .u32 0, .int .u32 0, .int .u32 0, .int .u32 0, .int .u32 0, .int .u32 0, .int .u32 0, .int .u32 0, .int .u32 0, .int .u32 0, .int .u32 0, .int .u32 0, .int .u32 0, .int .u32 0, .int .u32 0, .int .u32 0, .int .u32 0, .int .u32 0, .int .u32 0, .int .u32 0, .int .u32 0, .int .u32 0, .int .u32 0, .int .u32 0, .int .u32 0, .int .u32 0, .int .u32 0, .int .u32 0, .int .u32 0] := rfl

set_option maxHeartbeats 400000 in
set_option maxRecDepth 100000 in
theorem square_any (g : Nat) (w : World) (K : Nat) (f : Nat → Nat) (hblk : Blk w g 55 (matA K 32 f)) :
    Calls Try.prog 36 #[.pointer (some ⟨g, 0, none⟩)] w fun e w' => e = .returned (.pointer (some ⟨w.heap.size, 0, none⟩)) ∧ Blk w' w.heap.size 55 (matA (K + K) 32 zeroF) ∧ Below w.heap.size w w' := by
  have HB := Lib.hid hblk
  have hg := hblk.lt
  clear hblk
  go_enter Try.func36, Try.ntmps36
  go_wp2
  go_loopw [5] (fun i wr => ∃ k : Nat, k ≤ 32 ∧ i = .int .i64 (k : Int) ∧ Below w.heap.size w wr ∧ Hid (Blk wr w.heap.size 55 (matA (K + K) k zeroF))) (fun i _ => 32 - (intOf i).toNat)
  case atStart =>
    refine ⟨0, by omega, rfl, (Below.refl _ _).alloc (Nat.le_refl _) _, ?_⟩
    show Blk _ _ _ _
    rw [matA_zero]
    exact Blk.new _ _ _ _ rfl
  case round =>
    obtain ⟨k, hk, rfl, hbel, hblk⟩ := hrel
    by_cases hlt : k < 32
    · have hltI : decide ((k : Int) < 32) = true := decide_eq_true (by omega)
      have hc := ((HB.out.below hbel hg).cell k).trans (matA_get hlt)
      rw [if_pos hlt] at hc
      have ho := (hblk.out.cell k).trans (matA_get hlt)
      have hf := hblk.out.frozen k
      have hp := Lib.hid (shN_lt K (two_pow_lt hlt))
      have hsq : Hid (shN K (shN K (2 ^ k)) = shN (K + K) (2 ^ k)) := (shN_add K K (2 ^ k)).symm
      go_wp2_with fail
      refine (times_any g _ _ K (shN K (2 ^ k)) f rfl hp.out (HB.out.below hbel hg)).mono ?_
      rintro e w' ⟨rfl, rfl⟩
      rw [hsq.out]
      go_wp2
      go_roundw
      case rel =>
        refine ⟨k + 1, by omega, by go_num, hbel.setCell (Nat.le_refl _) _, ?_⟩
        show Blk _ _ _ _
        rw [← matA_set hlt]
        exact hblk.out.set_ k _
      case measure => simp [intOf]; omega
    · obtain rfl : k = 32 := by omega
      go_wp2
      go_ret
      exact ⟨rfl, hblk.out, hbel⟩

set_option maxHeartbeats 400000 in
set_option maxRecDepth 100000 in
theorem nought_any (w : World) :
    Calls Try.prog 34 #[] w fun e w' => ∃ f, e = .returned (.pointer (some ⟨w.heap.size, 0, none⟩)) ∧ Blk w' w.heap.size 55 (matA 8 32 f) ∧ Below w.heap.size w w' := by
  go_enter Try.func34, Try.ntmps34
  go_wp2
  go_loopw [3] (fun i wr => ∃ (k : Nat) (f : Nat → Nat), k ≤ 32 ∧ i = .int .i64 (k : Int) ∧ Below w.heap.size w wr ∧ Hid (Blk wr w.heap.size 55 (matA 8 k f))) (fun i _ => 32 - (intOf i).toNat)
  case atStart =>
    refine ⟨0, zeroF, by omega, rfl, (Below.refl _ _).alloc (Nat.le_refl _) _, ?_⟩
    show Blk _ _ _ _
    rw [matA_zero]
    exact Blk.new _ _ _ _ rfl
  case round =>
    obtain ⟨k, f, hk, rfl, hbel, hblk⟩ := hrel
    by_cases hlt : k < 32
    · have hltI : decide ((k : Int) < 32) = true := decide_eq_true (by omega)
      have ho := (hblk.out.cell k).trans (matA_get hlt)
      have hf := hblk.out.frozen k
      have hp := two_pow_lt hlt
      have hw : (2 : Int) ^ k % 4294967296 = ((2 ^ k : Nat) : Int) := by
        have e : ((2 : Int) ^ k) = ((2 ^ k : Nat) : Int) := by simp
        rw [e]
        exact Int.emod_eq_of_lt (Int.natCast_nonneg _) (Int.ofNat_lt.2 hp)
      have Hw := Lib.hid hw
      have hb1 : Hid (Blk (wr.setCell ⟨w.heap.size, k, none⟩ (.int .u32 ((2 : Int) ^ k % 4294967296))) w.heap.size 55 (matA 8 k fun j => if j = k then 2 ^ k else f j)) := by
        show Blk _ _ _ _
        rw [← matA_put hlt, ← hw]
        exact hblk.out.set_ k _
      have Hp := Lib.hid hp
      clear hw hp
      go_wp2
      have hbel1 := hbel.setCell (p := ⟨w.heap.size, k, none⟩) (Nat.le_refl _) (.int .u32 ((2 : Int) ^ k % 4294967296))
      generalize hW1 : wr.setCell ⟨w.heap.size, k, none⟩ (.int .u32 ((2 : Int) ^ k % 4294967296)) = W1 at *
      clear hW1
      go_loopw [10] (fun i wr => ∃ (q y : Nat) (f : Nat → Nat), q ≤ 8 ∧ i = .int .i64 (q : Int) ∧ Below w.heap.size w wr ∧ Hid (Blk wr w.heap.size 55 (matA 8 k f)) ∧ Hid (f k = y) ∧ y < 4294967296 ∧ Hid (shN 8 (2 ^ k) = shN (8 - q) y)) (fun i _ => 8 - (intOf i).toNat)
      case atStart => exact ⟨0, 2 ^ k, _, by omega, rfl, hbel1, hb1, by simp [Hid], Hp.out, rfl⟩
      case round =>
        obtain ⟨q, y, f, hq, rfl, hbel, hblk, hfk, hy, hv⟩ := hrel
        by_cases hq8 : q < 8
        · have hc := (hblk.out.cell k).trans (matA_get hlt)
          rw [if_neg (by omega), hfk.out] at hc
          have hf := hblk.out.frozen k
          have hv' : Hid (shN 8 (2 ^ k) = shN (8 - (q + 1)) (sh y)) := by
            show _ = _
            rw [hv.out, show 8 - q = 8 - (q + 1) + 1 by omega, shN]
          have Hsl := Lib.hid (sh_lt hy)
          go_wp2_with fail
          refine (shift_any _ _ y rfl hy).mono ?_
          rintro e w' ⟨rfl, rfl⟩
          go_wp2
          go_roundw
          case rel =>
            refine ⟨q + 1, sh y, (fun j => if j = k then sh y else f j), by omega, by go_num, hbel.setCell (Nat.le_refl _) _, ?_, ?_, Hsl.out, hv'⟩
            · show Blk _ _ _ _
              rw [← matA_put hlt]
              exact hblk.out.set_ k _
            · simp [Hid]
          case measure => simp [intOf]; omega
        · obtain rfl : q = 8 := by omega
          have hb2 : Hid (Blk wr w.heap.size 55 (matA 8 (k + 1) f)) := by
            show Blk _ _ _ _
            rw [← matA_next (by rw [hfk.out, hv.out]; rfl)]
            exact hblk.out
          go_wp2
          go_roundw
          case rel => exact ⟨k + 1, f, by omega, by go_num, hbel, hb2⟩
          case measure => simp [intOf]; omega
    · obtain rfl : k = 32 := by omega
      go_wp2
      go_ret
      exact ⟨f, rfl, hblk.out, hbel⟩

set_option maxHeartbeats 400000 in
set_option maxRecDepth 100000 in
theorem join_any (a b n : Int) (w : World) (x y m : Nat) (ha : a = (x : Int)) (hb : b = (y : Int)) (hn : n = (m : Int)) (hx : x < 4294967296) (hy : y < 4294967296) (hm : m < 9223372036854775808) :
    Calls Try.prog 30 #[.int .u32 a, .int .u32 b, .int .i64 n] w fun e w' => e = .returned (.int .u32 ((shN (8 * m) x ^^^ y : Nat) : Int)) ∧ Below w.heap.size w w' := by
  subst ha hb hn
  go_enter Try.func30, Try.ntmps30
  go_wp2_with fail
  refine (nought_any _).mono ?_
  rintro e w1 ⟨f, rfl, hblk, hb1⟩
  have Hblk := Lib.hid hblk
  clear hblk
  go_wp2_with fail
  go_loopw [0, 2, 7] (fun u i p wr => ∃ (q z K g : Nat) (f : Nat → Nat), q < 9223372036854775808 ∧ z < 4294967296 ∧ u = .int .u32 (z : Int) ∧ i = .int .i64 (q : Int) ∧ p = .pointer (some ⟨g, 0, none⟩) ∧ Below w.heap.size w wr ∧ Hid (Blk wr g 55 (matA K 32 f)) ∧ Hid (shN (8 * m) x = shN (K * q) z)) (fun _ i _ _ => (intOf i).toNat)
  case atStart => exact ⟨m, x, 8, _, f, hm, hx, rfl, rfl, rfl, hb1, Hblk, rfl⟩
  case round =>
    obtain ⟨q, z, K, g, f, hq, hz, rfl, rfl, rfl, hbel, hblk, hv⟩ := hrel
    by_cases h0 : q = 0
    · subst h0
      have hzy := xor_u32 z y hz hy
      have Hzy := Lib.hid hzy
      clear hzy
      go_wp2
      go_ret
      exact ⟨ret_u32 (by rw [Hzy.out, hv.out, Nat.mul_zero]; rfl), hbel⟩
    · have hq0 : (0 : Int) < (q : Int) := by omega
      have hand := and1_i64 q hq
      rcases Nat.mod_two_eq_zero_or_one q with h | h
      · have hv' : Hid (shN (8 * m) x = shN ((K + K) * (q / 2)) z) := by
          show _ = _
          rw [hv.out, kk_even h]
        rw [h] at hand
        have H := Lib.hid h
        clear h
        go_wp2_with fail
        refine (square_any g _ K f hblk.out).mono ?_
        rintro e w2 ⟨rfl, hb2, hbel2⟩
        have Hb2 := Lib.hid hb2
        clear hb2
        go_wp2
        go_roundw
        case rel => exact ⟨q / 2, z, K + K, _, zeroF, by omega, hz, rfl, by go_num, rfl, hbel.trans (hbel2.mono hbel.size), Hb2, hv'⟩
        case measure => simp [intOf]; omega
      · have hv' : Hid (shN (8 * m) x = shN ((K + K) * (q / 2)) (shN K z)) := by
          show _ = _
          rw [hv.out, ← shN_add, kk_odd h]
        rw [h] at hand
        have H := Lib.hid h
        have Hl := Lib.hid (shN_lt K hz)
        clear h
        go_wp2_with fail
        refine (times_any g _ _ K z f rfl hz hblk.out).mono ?_
        rintro e w2 ⟨rfl, rfl⟩
        go_wp2_with fail
        refine (square_any g _ K f hblk.out).mono ?_
        rintro e w2 ⟨rfl, hb2, hbel2⟩
        have Hb2 := Lib.hid hb2
        clear hb2
        go_wp2
        go_roundw
        case rel => exact ⟨q / 2, shN K z, K + K, _, zeroF, by omega, Hl.out, rfl, by go_num, rfl, hbel.trans (hbel2.mono hbel.size), Hb2, hv'⟩
        case measure => simp [intOf]; omega
end Go.Proofs.Ytoieidpiebfjlaa
