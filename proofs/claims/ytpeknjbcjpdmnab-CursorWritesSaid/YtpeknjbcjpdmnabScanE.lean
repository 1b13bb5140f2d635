/- Scan's door: what stands in the results' variables is handed back. -/
import Derived.Test.YtpeknjbcjpdmnabScanD
namespace Go.Proofs.Ytpeknjbcjpdmnab
open Go.RowKit
set_option linter.unusedVariables false

def scanGo (l : List UInt8) (s : St) (acc : List Piece) : List Item → List Piece × Nat × Nat
  | [] => if (endS l s).2.2 = 0 then (acc, 0, 0) else ([], (endS l s).2)
  | x :: xs => if (readS l s x).1.2.2 = 0 then scanGo l (readS l s x).1 (acc ++ [(readS l s x).2]) xs else ([], (readS l s x).1.2)
def scanS (l : List UInt8) (plan : List Item) : List Piece × Nat × Nat := scanGo l (0, 0, 0) [] plan

def ScanIs (w : World) (r : List Piece × Nat × Nat) (e : Ending) (w' : World) : Prop :=
  ∃ A c, e = .returned (.tuple #[.slice A r.1.length c, .agg #[.int .i64 (r.2.1 : Int), .int .i64 (r.2.2 : Int)]]) ∧ POwn 70 5 w' w.heap.size A c r.1 ∧ Below w.heap.size w w'

theorem scan_res {w : World} {bo bf : Nat} {tmps : Array Value} {A : Option Addr} {n c : Nat} {x y : Int} (h4 : tmps.getD 4 undef = .pointer (some ⟨bo, 0, none⟩)) (h5 : tmps.getD 5 undef = .pointer (some ⟨bf, 0, none⟩))
    (hO : Blk w bo 25 #[.slice A n c]) (hF : Blk w bf 28 #[.int .i64 x, .int .i64 y]) :
    (results Try.f11 tmps).run Try.prog w = .ok (.tuple #[.slice A n c, .agg #[.int .i64 x, .int .i64 y]]) w := by
  have h4' : tmps[4]?.getD undef = .pointer (some ⟨bo, 0, none⟩) := by simpa using h4
  have h5' : tmps[5]?.getD undef = .pointer (some ⟨bf, 0, none⟩) := by simpa using h5
  have o0 : w.cell? ⟨bo, 0, none⟩ = some (.slice A n c) := hO.cell 0
  have c0 : w.cell? ⟨bf, 0, none⟩ = some (.int .i64 x) := hF.cell 0
  have c1 : w.cell? ⟨bf, 1, none⟩ = some (.int .i64 y) := hF.cell 1
  simp [results, Try.results11, h4', h5', asAddr, go_sem, o0, c0, c1]

theorem scan_bad {w w3 : World} {l : List UInt8} {plan : List Item} {s2 : St} {A' : Option Addr} {n c' : Nat} {tmps : Array Value} {x y : Int} (h4 : tmps.getD 4 undef = .pointer (some ⟨w.heap.size, 0, none⟩)) (h5 : tmps.getD 5 undef = .pointer (some ⟨w.heap.size + 1, 0, none⟩))
    (hO : Blk w3 w.heap.size 25 #[.slice A' n c']) (hF : Blk w3 (w.heap.size + 1) 28 #[.int .i64 x, .int .i64 y]) (hb : Below w.heap.size w w3) (hend : scanS l plan = ([], s2.2)) :
    bodyPostD Try.prog Try.f11 (ScanIs w (scanS l plan)) (.panic [{ v := .iface 28 (.agg #[.int .i64 (s2.2.1 : Int), .int .i64 (s2.2.2 : Int)]), recovered := false }])
      { tmps := tmps, defers := [{ target := .fn (.func 36) #[.pointer (some ⟨w.heap.size, 0, none⟩), .pointer (some ⟨w.heap.size + 1, 0, none⟩)], args := #[] }] } w3 := by
  show Leaves _ _ _ _ _ _ _
  refine leaves_cons (f := 36) (args := #[.pointer (some ⟨w.heap.size, 0, none⟩), .pointer (some ⟨w.heap.size + 1, 0, none⟩)]) (by simp) (by simp [go_sem]) ?_
  refine (scanD_panics w.heap.size (w.heap.size + 1) s2 [] w3 A' n c' x y (by omega) hO hF).mono ?_
  rintro e u' w4 ⟨rfl, rfl, hO4, hF4, hB4⟩
  show Leaves _ _ _ _ [] .returning w4
  refine ⟨_, scan_res h4 h5 hO4 hF4, ?_⟩
  rw [hend]
  exact ⟨none, 0, rfl, POwn.nil _ _ _ _, hb.trans (hB4 _ (Nat.le_refl _) (by omega))⟩

theorem scan_good {w w3 : World} {r : List Piece × Nat × Nat} {A' : Option Addr} {n c' : Nat} {tmps : Array Value} {x y : Int} (h4 : tmps.getD 4 undef = .pointer (some ⟨w.heap.size, 0, none⟩)) (h5 : tmps.getD 5 undef = .pointer (some ⟨w.heap.size + 1, 0, none⟩))
    (hO : Blk w3 w.heap.size 25 #[.slice A' n c']) (hF : Blk w3 (w.heap.size + 1) 28 #[.int .i64 x, .int .i64 y]) (hb : Below w.heap.size w w3) (hn : n = r.1.length) (hx : x = (r.2.1 : Int)) (hy : y = (r.2.2 : Int)) (hP : POwn 70 5 w3 w.heap.size A' c' r.1) :
    bodyPostD Try.prog Try.f11 (ScanIs w r) .ret
      { tmps := tmps, defers := [{ target := .fn (.func 36) #[.pointer (some ⟨w.heap.size, 0, none⟩), .pointer (some ⟨w.heap.size + 1, 0, none⟩)], args := #[] }] } w3 := by
  subst hn hx hy
  show Leaves _ _ _ _ _ _ _
  refine leaves_cons (f := 36) (args := #[.pointer (some ⟨w.heap.size, 0, none⟩), .pointer (some ⟨w.heap.size + 1, 0, none⟩)]) (by simp) (by simp [go_sem]) ?_
  refine (scanD_idle ⟨w.heap.size, 0, none⟩ ⟨w.heap.size + 1, 0, none⟩ w3).mono ?_
  rintro e u' w4 ⟨rfl, rfl, rfl⟩
  show Leaves _ _ _ _ [] .returning w3
  exact ⟨_, scan_res h4 h5 hO hF, A', c', rfl, hP, hb⟩
end Go.Proofs.Ytpeknjbcjpdmnab
