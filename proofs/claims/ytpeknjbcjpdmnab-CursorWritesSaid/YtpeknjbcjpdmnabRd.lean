/- The reader: its words in memory; At, Left, Fault, fail. -/
import Derived.Test.YtpeknjbcjpdmnabBlk
import Derived.Test.YtpeknjbcjpdmnabProg
import Derived.WalkKit
import Derived.Outline
import Derived.Deep.QuietTactic
import Derived.BigQuiet
import Derived.IntWalk
import Derived.Deep.RegionHeld3
namespace Go.Proofs.Ytpeknjbcjpdmnab
open Go.RowKit
set_option linter.unusedVariables false

/-- The cells of a reader. -/
def rdC (A : Option Addr) (n c : Nat) (at_ fa fe : Nat) : Array Value := #[.slice A n c, .int .i64 (at_ : Int), .int .i64 (fa : Int), .int .i64 (fe : Int)]
/-- Block g is a reader. -/
def Rd (w : World) (g : Nat) (A : Option Addr) (n c : Nat) (at_ fa fe : Nat) : Prop := Blk w g 78 (rdC A n c at_ fa fe)
section
variable {w w' : World} {g : Nat} {A : Option Addr} {n c at_ fa fe : Nat}
theorem Rd.c0 (h : Rd w g A n c at_ fa fe) : w.cell? ⟨g, 0, none⟩ = some (.slice A n c) := Blk.cell h 0
theorem Rd.c1 (h : Rd w g A n c at_ fa fe) : w.cell? ⟨g, 1, none⟩ = some (.int .i64 (at_ : Int)) := Blk.cell h 1
theorem Rd.c2 (h : Rd w g A n c at_ fa fe) : w.cell? ⟨g, 2, none⟩ = some (.int .i64 (fa : Int)) := Blk.cell h 2
theorem Rd.c3 (h : Rd w g A n c at_ fa fe) : w.cell? ⟨g, 3, none⟩ = some (.int .i64 (fe : Int)) := Blk.cell h 3
theorem Rd.fr (h : Rd w g A n c at_ fa fe) (i : Nat) : w.frozen? ⟨g, i, none⟩ = false := Blk.frozen h i
end

set_option maxHeartbeats 400000 in
theorem rdAt_any (g : Nat) (A : Option Addr) (n c at_ fa fe : Nat) (w : World) (h : Rd w g A n c at_ fa fe) :
    Calls Try.prog 25 #[.pointer (some ⟨g, 0, none⟩)] w fun e w' => e = .returned (.int .i64 (at_ : Int)) ∧ w = w' := by
  have h0 := h.c0; have h1 := h.c1; have h2 := h.c2; have h3 := h.c3
  go_enter Try.func25, Try.ntmps25
  go_wp2
  go_ret
  exact ⟨rfl, rfl⟩

set_option maxHeartbeats 400000 in
theorem rdLeft_any (g : Nat) (A : Option Addr) (n c at_ fa fe : Nat) (w : World) (h : Rd w g A n c at_ fa fe) (hn : n ≤ 1000000000) (ha : at_ ≤ n) :
    Calls Try.prog 26 #[.pointer (some ⟨g, 0, none⟩)] w fun e w' => e = .returned (.int .i64 ((n : Int) - (at_ : Int))) ∧ ∃ m, w' = w.drewN m := by
  have h0 := h.c0; have h1 := h.c1; have h2 := h.c2; have h3 := h.c3
  go_enter Try.func26, Try.ntmps26
  have hw : IntKind.i64.wrap ((n : Int) - (at_ : Int)) = (n : Int) - (at_ : Int) := IntWalk.i64_in _ (by omega)
  go_wp2
  go_quiet (fail)
  go_wp2
  go_ret
  refine ⟨by first | rfl | (simp only [hw]; rfl), _, rfl⟩

set_option maxHeartbeats 400000 in
theorem rdFault_any (g : Nat) (A : Option Addr) (n c at_ fa fe : Nat) (w : World) (h : Rd w g A n c at_ fa fe) :
    Calls Try.prog 27 #[.pointer (some ⟨g, 0, none⟩)] w fun e w' => e = .returned (.agg #[.int .i64 (fa : Int), .int .i64 (fe : Int)]) ∧ Below w.heap.size w w' := by
  have h0 := h.c0; have h1 := h.c1; have h2 := h.c2; have h3 := h.c3
  go_enter Try.func27, Try.ntmps27
  have m2 : ∀ o, (w.alloc o).cell? ⟨g, 2, none⟩ = some (.int .i64 (fa : Int)) := fun o => (World.cell?_alloc_lt w o _ (World.block_lt_of_cell? w _ h2)).trans h2
  have m3 : ∀ o, (w.alloc o).cell? ⟨g, 3, none⟩ = some (.int .i64 (fe : Int)) := fun o => (World.cell?_alloc_lt w o _ (World.block_lt_of_cell? w _ h3)).trans h3
  go_wp2
  refine bodyPost_ret (v := .agg #[.int .i64 (fa : Int), .int .i64 (fe : Int)]) (results_cell_row (P := Try.prog) rfl _ _ w.heap.size _ _ _ _ rfl (heap_alloc_new w _) Try.underlying28 rfl (by kernel_rfl)) rfl ⟨rfl, (Below.refl _ _).alloc (Nat.le_refl _) _⟩
end Go.Proofs.Ytpeknjbcjpdmnab
