/- The walks of chapter 2's statements. -/
import Derived.Test.YtoieidpiebfjlaaVarintR
import Derived.Test.YtoieidpiebfjlaaSame
namespace Go.Proofs.Ytoieidpiebfjlaa
open Go.RowKit
set_option linter.unusedVariables false

theorem get_eq {a b e : Nat} (A : Option Addr) (n c : Nat) (l : List UInt8) (w : World) (B : Nat) (hn : n = l.length) (hb : BS w B A l) (hl : n ≤ maxLen) (h : vgetS l = (a, b, e)) :
    Calls Try.prog 15 #[.slice A n c] w fun x w' => x = .returned (.tuple #[.int .u64 (a : Int), .int .i64 (b : Int), .int .i64 (e : Int)]) ∧ w = w' :=
  (get_any A n c l w B hn hb hl).mono fun _ _ hh => by
    obtain ⟨h1, h2⟩ := hh
    rw [h] at h1
    exact ⟨h1, h2⟩
theorem refGet_eq {a b e : Nat} (A : Option Addr) (n c : Nat) (l : List UInt8) (w : World) (B : Nat) (hn : n = l.length) (hb : BS w B A l) (hl : n ≤ maxLen) (h : vgetS l = (a, b, e)) :
    Calls Try.prog 16 #[.slice A n c] w fun x w' => x = .returned (.tuple #[.int .u64 (a : Int), .int .i64 (b : Int), .int .i64 (e : Int)]) ∧ w = w' :=
  (refGet_any A n c l w B hn hb hl).mono fun _ _ hh => by
    obtain ⟨h1, h2⟩ := hh
    rw [h] at h1
    exact ⟨h1, h2⟩

theorem vput300 : vput 300 = [172, 2] := by rw [vput_hi (by omega), vput_lo (by omega)]; rfl
theorem vget1 : vgetS [172, 2, 9] = (300, 2, 0) := by decide +kernel
theorem vget2 : vgetS [128, 0] = (0, 0, 3) := by decide +kernel
theorem vget3 : vgetS [128] = (0, 0, 2) := by decide +kernel
theorem size300 : (vput 300).length = 2 := by rw [vput300]; rfl
theorem size_eq {k : Nat} (n : Int) (w : World) (m : Nat) (hn : n = (m : Int)) (hm : m < 18446744073709551616) (h : (vput m).length = k) :
    Calls Try.prog 20 #[.int .u64 n] w fun e w' => e = .returned (.int .i64 (k : Int)) ∧ w = w' :=
  (size_any n w m hn hm).mono fun _ _ hh => ⟨by rw [← h]; exact hh.1, hh.2⟩
theorem fold_eq {m : Int} (n : Int) (w : World) (h0 : -9223372036854775808 ≤ n) (h1 : n ≤ 9223372036854775807) (h : foldS n = m) :
    Calls Try.prog 21 #[.int .i64 n] w fun e w' => e = .returned (.int .u64 m) ∧ w = w' :=
  (fold_any n w h0 h1).mono fun _ _ hh => ⟨by rw [← h]; exact hh.1, hh.2⟩
theorem open_eq {m : Int} (n : Int) (w : World) (h0 : 0 ≤ n) (h1 : n ≤ 18446744073709551615) (h : openS n = m) :
    Calls Try.prog 23 #[.int .u64 n] w fun e w' => e = .returned (.int .i64 m) ∧ w = w' :=
  (open_any n w h0 h1).mono fun _ _ hh => ⟨by rw [← h]; exact hh.1, hh.2⟩
theorem u64_of_wf {n : Int} (h : (Lit.int .u64 n).wf = true) : ∃ m : Nat, n = (m : Int) ∧ m < 18446744073709551616 := by
  simp [Lit.wf, IntKind.min, IntKind.max, IntKind.bits, IntKind.signed] at h
  exact ⟨n.toNat, by omega, by omega⟩

theorem ret_true {b : Bool} (h : b = true) : Ending.returned (.bool b) = .returned (.bool true) := by rw [h]
theorem three_le : 3 ≤ maxLen := by unfold maxLen; omega
theorem two_le : 2 ≤ maxLen := by unfold maxLen; omega
theorem one_le : 1 ≤ maxLen := by unfold maxLen; omega

set_option maxHeartbeats 400000 in
set_option maxRecDepth 100000 in
theorem awake2_any (w : World) : Calls Try.prog 14 #[] w fun e w' => e = .returned (.bool true) ∧ Below w.heap.size w w' := by
  go_enter Try.func14, Try.ntmps14
  go_wp2_with fail
  refine (get_eq _ 3 3 [172, 2, 9] _ _ rfl (BS.lit' _ [172, 2, 9] _ rfl _ _ _ (by simp)) three_le vget1).mono ?_
  rintro e w1 ⟨rfl, rfl⟩
  go_wp2_with fail
  refine (get_eq _ 2 2 [128, 0] _ _ rfl (BS.lit' _ [128, 0] _ rfl _ _ _ (by simp)) two_le vget2).mono ?_
  rintro e w1 ⟨rfl, rfl⟩
  go_wp2_with fail
  refine (get_eq _ 1 1 [128] _ _ rfl (BS.lit' _ [128] _ rfl _ _ _ (by simp)) one_le vget3).mono ?_
  rintro e w1 ⟨rfl, rfl⟩
  go_wp2_with fail
  refine (put_any 300 _ 300 rfl (by omega)).mono ?_
  rintro e w1 ⟨v, rfl, hown, hb⟩
  rw [vput300] at hown
  obtain ⟨A, c, rfl, _, _⟩ := own_slice hown
  have h1 := run_convert_bs (P := Try.prog) 22 9 5 Try.underlying22 Try.underlying5 Try.underlying9 w1 _ A [172, 2] (BS.of_own hown).1 2 c rfl
  have Ho := Lib.hid hown
  have Hb := Lib.hid hb
  clear hown hb
  go_wp2_with fail
  refine (size_eq 300 _ 300 rfl (by omega) size300).mono ?_
  rintro e w2 ⟨rfl, rfl⟩
  go_wp2_with fail
  refine (fold_eq (-1) _ (by omega) (by omega) (m := 1) (by decide)).mono ?_
  rintro e w2 ⟨rfl, rfl⟩
  go_wp2_with fail
  refine (fold_eq 1 _ (by omega) (by omega) (m := 2) (by decide)).mono ?_
  rintro e w2 ⟨rfl, rfl⟩
  go_wp2_with fail
  refine (open_eq 1 _ (by omega) (by omega) (m := -1) (by decide)).mono ?_
  rintro e w2 ⟨rfl, rfl⟩
  go_wp2
  go_ret
  exact ⟨rfl, ((((Below.refl _ _).alloc (Nat.le_refl _) _).alloc (by simp) _).alloc (by simp; omega) _).trans (Hb.out.mono (by simp; omega))⟩

/-! ### The statements' walks -/
section
variable (w : World)

set_option maxHeartbeats 400000 in
set_option maxRecDepth 100000 in
theorem walk_varintReads (a0 : Option Addr) (len0 cap0 : Nat) (z0 : List Int) (w : World) (w0 : IsRow .u8 w a0 len0 cap0 z0) :
    Calls Try.prog 3 #[.slice a0 len0 cap0] w fun e w' => e = .returned (.bool true) ∧ Below w.heap.size w w' := by
  obtain ⟨l, rfl, hlc, hm, hB⟩ := BS.of_row w0
  clear w0
  by_cases hlen : 1000 < l.length
  · go_enter Try.func3, Try.ntmps3
    go_wp2_with fail
    refine (awake2_any _).mono ?_
    rintro e w1 ⟨rfl, hb1⟩
    go_wp2_with fail
    refine (awake2_any _).mono ?_
    rintro e w2 ⟨rfl, hb2⟩
    go_wp2
    go_ret
    exact ⟨rfl, hb1.trans (hb2.mono hb1.size)⟩
  · have HB := Lib.hid hB
    have hl : l.length ≤ maxLen := by omega
    have hml := Lib.hid hl
    clear hB hm hlc hl
    rcases hv : vgetS l with ⟨a, b, c⟩
    have Hv := Lib.hid hv
    clear hv
    go_enter Try.func3, Try.ntmps3
    go_wp2_with fail
    refine (awake2_any _).mono ?_
    rintro e w1 ⟨rfl, hb1⟩
    go_wp2_with fail
    refine (get_eq _ _ _ l _ _ rfl (HB.out.below hb1) hml.out Hv.out).mono ?_
    rintro e w2 ⟨rfl, rfl⟩
    go_wp2_with fail
    refine (refGet_eq _ _ _ l _ _ rfl (HB.out.below hb1) hml.out Hv.out).mono ?_
    rintro e w2 ⟨rfl, rfl⟩
    go_wp2
    go_ret
    exact ⟨rfl, hb1⟩

set_option maxHeartbeats 400000 in
set_option maxRecDepth 100000 in
theorem walk_varintPuts (a0 : Int) (w : World) (w0 : (Lit.int .u64 a0).wf = true) :
    Calls Try.prog 4 #[.int .u64 a0] w fun e w' => e = .returned (.bool true) ∧ Below w.heap.size w w' := by
  obtain ⟨m, rfl, hm⟩ := u64_of_wf w0
  clear w0
  have hp := vput_pos m
  have hle := vput_le hm
  have Hm := Lib.hid hm
  clear hm
  go_enter Try.func4, Try.ntmps4
  go_wp2_with fail
  refine (awake2_any _).mono ?_
  rintro e w1 ⟨rfl, hb1⟩
  go_wp2_with fail
  refine (put_any _ _ m rfl Hm.out).mono ?_
  rintro e w2 ⟨v, rfl, hown, hb2⟩
  obtain ⟨A, c, rfl, _, _⟩ := own_slice hown
  have Ho := Lib.hid hown
  clear hown
  go_wp2_with fail
  refine (refPut_any _ _ m rfl Hm.out).mono ?_
  rintro e w3 ⟨v, rfl, hown, hb3⟩
  obtain ⟨A3, c3, rfl, _, _⟩ := own_slice hown
  have Ho3 := Lib.hid hown
  clear hown
  go_wp2_with fail
  refine (same_any A _ c (vput m) A3 _ c3 (vput m) _ w2.heap.size w3.heap.size rfl rfl ((BS.of_own Ho.out).1.below hb3) (BS.of_own Ho3.out).1).mono ?_
  rintro e w4 ⟨rfl, rfl⟩
  have heq : (vput m == vput m) = true := by simp
  go_wp2_with fail
  refine (size_any _ _ m rfl Hm.out).mono ?_
  rintro e w4 ⟨rfl, rfl⟩
  go_wp2
  go_ret
  exact ⟨ret_true (by simp; omega), (hb1.trans (hb2.mono hb1.size)).trans (hb3.mono (by have := hb1.size; have := hb2.size; omega))⟩
end
end Go.Proofs.Ytoieidpiebfjlaa
