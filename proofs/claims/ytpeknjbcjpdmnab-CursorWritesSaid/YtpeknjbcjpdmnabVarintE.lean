/- The contracts of varint's functions with their values named. -/
import Derived.Test.YtpeknjbcjpdmnabVarintR
namespace Go.Proofs.Ytpeknjbcjpdmnab
open Go.RowKit
set_option linter.unusedVariables false

theorem get_eq {a b e : Nat} (A : Option Addr) (n c : Nat) (l : List UInt8) (w : World) (B : Nat) (hn : n = l.length) (hb : BS w B A l) (hl : n ≤ maxLen) (h : vgetS l = (a, b, e)) :
    Calls Try.prog 56 #[.slice A n c] w fun x w' => x = .returned (.tuple #[.int .u64 (a : Int), .int .i64 (b : Int), .int .i64 (e : Int)]) ∧ w = w' :=
  (get_any A n c l w B hn hb hl).mono fun _ _ hh => by
    obtain ⟨h1, h2⟩ := hh
    rw [h] at h1
    exact ⟨h1, h2⟩
theorem refGet_eq {a b e : Nat} (A : Option Addr) (n c : Nat) (l : List UInt8) (w : World) (B : Nat) (hn : n = l.length) (hb : BS w B A l) (hl : n ≤ maxLen) (h : vgetS l = (a, b, e)) :
    Calls Try.prog 51 #[.slice A n c] w fun x w' => x = .returned (.tuple #[.int .u64 (a : Int), .int .i64 (b : Int), .int .i64 (e : Int)]) ∧ w = w' :=
  (refGet_any A n c l w B hn hb hl).mono fun _ _ hh => by
    obtain ⟨h1, h2⟩ := hh
    rw [h] at h1
    exact ⟨h1, h2⟩

theorem size_eq {k : Nat} (n : Int) (w : World) (m : Nat) (hn : n = (m : Int)) (hm : m < 18446744073709551616) (h : (vput m).length = k) :
    Calls Try.prog 54 #[.int .u64 n] w fun e w' => e = .returned (.int .i64 (k : Int)) ∧ w = w' :=
  (size_any n w m hn hm).mono fun _ _ hh => ⟨by rw [← h]; exact hh.1, hh.2⟩
theorem u64_of_wf {n : Int} (h : (Lit.int .u64 n).wf = true) : ∃ m : Nat, n = (m : Int) ∧ m < 18446744073709551616 := by
  simp [Lit.wf, IntKind.min, IntKind.max, IntKind.bits, IntKind.signed] at h
  exact ⟨n.toNat, by omega, by omega⟩

theorem ret_true {b : Bool} (h : b = true) : Ending.returned (.bool b) = .returned (.bool true) := by rw [h]
theorem three_le : 3 ≤ maxLen := by unfold maxLen; omega
theorem two_le : 2 ≤ maxLen := by unfold maxLen; omega
theorem one_le : 1 ≤ maxLen := by unfold maxLen; omega

end Go.Proofs.Ytpeknjbcjpdmnab
