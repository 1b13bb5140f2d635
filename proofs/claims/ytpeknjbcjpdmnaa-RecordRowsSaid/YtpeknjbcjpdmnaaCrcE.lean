/- The contracts of crc.Of and the document's, with their values named. -/
import Derived.Test.YtpeknjbcjpdmnaaCrcM
namespace Go.Proofs.Ytpeknjbcjpdmnaa
open Go.RowKit
set_option linter.unusedVariables false

theorem u8_info3 : (Try.prog.info? 5).map (fun i => (i.zero, i.size, i.bytes)) = some (some (.int .u8 0), 1, 1) := by kernel_rfl
theorem le_maxLen {n : Nat} (h : n ≤ 1000) : n ≤ maxLen := by unfold maxLen; omega
theorem of_eq {x : Nat} (A : Option Addr) (n c : Nat) (l : List UInt8) (w : World) (B : Nat) (hn : n = l.length) (hb : BS w B A l) (hB : B ≤ w.heap.size) (hl : n ≤ maxLen) (h : ofS l = x) :
    Calls Try.prog 25 #[.slice A n c] w fun e w' => e = .returned (.int .u32 (x : Int)) ∧ Below w.heap.size w w' := by
  subst h
  exact of_any A n c l w B hn hb hB hl
theorem refOf_eq {x : Nat} (A : Option Addr) (n c : Nat) (l : List UInt8) (w : World) (B : Nat) (hn : n = l.length) (hb : BS w B A l) (hl : n ≤ maxLen) (h : ofS l = x) :
    Calls Try.prog 28 #[.slice A n c] w fun e w' => e = .returned (.int .u32 (x : Int)) ∧ w = w' := by
  subst h
  exact refOf_any A n c l w B hn hb hl
end Go.Proofs.Ytpeknjbcjpdmnaa
