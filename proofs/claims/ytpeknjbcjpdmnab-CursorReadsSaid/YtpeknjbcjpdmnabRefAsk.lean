/- The document's reader: fail. -/
import Derived.Test.YtpeknjbcjpdmnabRefPL
import Derived.Test.YtpeknjbcjpdmnabVarintE
import Derived.Test.YtpeknjbcjpdmnabOctPB
import Derived.Deep.Cut
namespace Go.Proofs.Ytpeknjbcjpdmnab
open Go.RowKit
set_option linter.unusedVariables false

/-- The document's reader, as a value. -/
def rdV (A : Option Addr) (n c at_ fa fe : Nat) : Value := .agg #[.slice A n c, .int .i64 (at_ : Int), .int .i64 (fa : Int), .int .i64 (fe : Int)]

theorem Blk.store4 {w : World} {g : Nat} {t : TypeId} {a b c d : Value} (h : Blk w g t #[a, b, c, d]) (v0 v1 v2 v3 : Value) :
    Blk ((((w.setCell ⟨g, 0, none⟩ v0).setCell ⟨g, 1, none⟩ v1).setCell ⟨g, 2, none⟩ v2).setCell ⟨g, 3, none⟩ v3) g t #[v0, v1, v2, v3] := Blk.set_ (Blk.set_ (Blk.set_ (Blk.set_ h 0 v0) 1 v1) 2 v2) 3 v3

set_option maxHeartbeats 800000 in
set_option maxRecDepth 100000 in
theorem refFail_any (A : Option Addr) (n c at_ fa fe e : Nat) (w : World) :
    Calls Try.prog 50 #[.agg #[.slice A n c, .int .i64 (at_ : Int), .int .i64 (fa : Int), .int .i64 (fe : Int)], .int .i64 (e : Int)] w fun x w' => x = .returned (.agg #[.slice A n c, .int .i64 (at_ : Int), .int .i64 (at_ : Int), .int .i64 (e : Int)]) ∧ Below w.heap.size w w' := by
  obtain ⟨W, hW⟩ : ∃ W, W = (w.alloc (.cells #[.slice A n c, .int .i64 (at_ : Int), .int .i64 (fa : Int), .int .i64 (fe : Int)] 47)).alloc (.cells #[.slice none 0 0, .int .i64 0, .int .i64 0, .int .i64 0] 47) := ⟨_, rfl⟩
  have hX : Blk W w.heap.size 47 #[.slice A n c, .int .i64 (at_ : Int), .int .i64 (fa : Int), .int .i64 (fe : Int)] := by rw [hW]; exact Blk.alloc (Blk.new w _ _ _ rfl) _
  have hR : Blk W (w.heap.size + 1) 47 #[.slice none 0 0, .int .i64 0, .int .i64 0, .int .i64 0] := by rw [hW]; exact Blk.new _ _ _ _ (by simp)
  have hB : Below w.heap.size w W := by rw [hW]; exact ((Below.refl _ w).alloc (Nat.le_refl _) _).alloc (by simp) _
  have x0 : W.cell? ⟨w.heap.size, 0, none⟩ = some (.slice A n c) := hX.cell 0
  have x1 : W.cell? ⟨w.heap.size, 1, none⟩ = some (.int .i64 (at_ : Int)) := hX.cell 1
  have x2 : W.cell? ⟨w.heap.size, 2, none⟩ = some (.int .i64 (fa : Int)) := hX.cell 2
  have x3 : W.cell? ⟨w.heap.size, 3, none⟩ = some (.int .i64 (fe : Int)) := hX.cell 3
  have xf : ∀ i, W.frozen? ⟨w.heap.size, i, none⟩ = false := fun i => hX.frozen i
  have r0 : W.cell? ⟨w.heap.size + 1, 0, none⟩ = some (.slice none 0 0) := hR.cell 0
  have r1 : W.cell? ⟨w.heap.size + 1, 1, none⟩ = some (.int .i64 0) := hR.cell 1
  have r2 : W.cell? ⟨w.heap.size + 1, 2, none⟩ = some (.int .i64 0) := hR.cell 2
  have r3 : W.cell? ⟨w.heap.size + 1, 3, none⟩ = some (.int .i64 0) := hR.cell 3
  have rf : ∀ i, W.frozen? ⟨w.heap.size + 1, i, none⟩ = false := fun i => hR.frozen i
  have HX := Lib.hid hX
  have HR := Lib.hid hR
  have HB := Lib.hid hB
  have HW := Lib.hid hW
  clear hX hR hB hW
  go_enter Try.func50, Try.ntmps50
  go_upto_region 1 with fail
  rw [← HW.out]
  go_wp2
  have hX2 := Blk.set_ (Blk.set_ HX.out 2 (.int .i64 (at_ : Int))) 3 (.int .i64 (e : Int))
  have hR2 := Blk.far (Blk.far HR.out (p := ⟨w.heap.size, 2, none⟩) (by simp) (.int .i64 (at_ : Int))) (p := ⟨w.heap.size, 3, none⟩) (by simp) (.int .i64 (e : Int))
  have hR3 := Blk.store4 hR2 (.slice A n c) (.int .i64 (at_ : Int)) (.int .i64 (at_ : Int)) (.int .i64 (e : Int))
  refine bodyPost_ret (v := .agg #[.slice A n c, .int .i64 (at_ : Int), .int .i64 (at_ : Int), .int .i64 (e : Int)]) (results_cell_row (P := Try.prog) rfl _ _ (w.heap.size + 1) _ _ _ _ rfl hR3 Try.underlying47 rfl (by kernel_rfl)) rfl ⟨rfl, ?_⟩
  exact (((((HB.out.setCell (Nat.le_refl _) _).setCell (Nat.le_refl _) _).setCell (Nat.le_succ _) _).setCell (Nat.le_succ _) _).setCell (Nat.le_succ _) _).setCell (Nat.le_succ _) _

/-- What is asked of the document's reader: the reader behind it, the number, the bytes. -/
def askS (l : List UInt8) (s : St) (kind n : Int) (big : Bool) : St × Nat × List UInt8 :=
  if s.2.2 ≠ 0 then (s, 0, [])
  else if kind = 1 then ((numS l s n big).1, (numS l s n big).2, [])
  else if kind = 3 then ((takeS l s n).1, 0, (takeS l s n).2)
  else if kind = 5 then (endS l s, 0, [])
  else if kind = 2 then ((varS l s).1, (varS l s).2, [])
  else ((textS l s n).1, 0, (textS l s n).2)

def rdrV (A : Option Addr) (n c : Nat) (s : St) : Value := .agg #[.slice A n c, .int .i64 (s.1 : Int), .int .i64 (s.2.1 : Int), .int .i64 (s.2.2 : Int)]
def AskIs (w : World) (A : Option Addr) (n c : Nat) (r : St × Nat × List UInt8) (x : Ending) (w' : World) : Prop :=
  ∃ A' c', x = .returned (.tuple #[rdrV A n c r.1, .int .u64 (r.2.1 : Int), .slice A' r.2.2.length c']) ∧ w'.ownsRow w.heap.size 5 1 (.slice A' r.2.2.length c') r.2.2.length (bcells r.2.2) ∧ Below w.heap.size w w'

theorem ask_end {w w1 : World} {A : Option Addr} {n c : Nat} {r : St × Nat × List UInt8} {s : St} {q : Nat} {b : List UInt8} {A' : Option Addr} {m c' : Nat} {tmps : Array Value} {z0 z1 z2 z3 : Value} {p1 p2 p3 : Int}
    (hr : r = (s, q, b)) (h8 : tmps.getD 8 undef = .pointer (some ⟨w.heap.size + 1, 0, none⟩)) (h9 : tmps.getD 9 undef = .int .u64 (q : Int)) (h10 : tmps.getD 10 undef = .slice A' m c') (hm : m = b.length)
    (e1 : p1 = (s.1 : Int)) (e2 : p2 = (s.2.1 : Int)) (e3 : p3 = (s.2.2 : Int))
    (hR : Blk w1 (w.heap.size + 1) 47 #[z0, z1, z2, z3]) (hB : Below w.heap.size w w1) (ho : w1.ownsRow w.heap.size 5 1 (.slice A' b.length c') b.length (bcells b)) :
    bodyPost Try.prog Try.f24 (AskIs w A n c r) .ret { tmps := tmps, defers := [] }
      ((((w1.setCell ⟨w.heap.size + 1, 0, none⟩ (.slice A n c)).setCell ⟨w.heap.size + 1, 1, none⟩ (.int .i64 p1)).setCell ⟨w.heap.size + 1, 2, none⟩ (.int .i64 p2)).setCell ⟨w.heap.size + 1, 3, none⟩ (.int .i64 p3)) := by
  subst hr hm e1 e2 e3
  have hR3 := Blk.store4 hR (.slice A n c) (.int .i64 (s.1 : Int)) (.int .i64 (s.2.1 : Int)) (.int .i64 (s.2.2 : Int))
  have hg := grownTrans (grownTrans (grownTrans (grownSet w1 ⟨w.heap.size + 1, 0, none⟩ (.slice A n c)) (grownSet _ ⟨w.heap.size + 1, 1, none⟩ (.int .i64 (s.1 : Int)))) (grownSet _ ⟨w.heap.size + 1, 2, none⟩ (.int .i64 (s.2.1 : Int)))) (grownSet _ ⟨w.heap.size + 1, 3, none⟩ (.int .i64 (s.2.2 : Int)))
  have k0 := Blk.cell hR3 0
  have k1 := Blk.cell hR3 1
  have k2 := Blk.cell hR3 2
  have k3 := Blk.cell hR3 3
  refine ⟨rfl, .tuple #[rdrV A n c s, .int .u64 (q : Int), .slice A' b.length c'], ?_, A', c', rfl, ho.kept hg (own_blk_ne ho hR (by decide)), ((((hB.setCell (Nat.le_succ _) _).setCell (Nat.le_succ _) _).setCell (Nat.le_succ _) _).setCell (Nat.le_succ _) _)⟩
  generalize ((((w1.setCell ⟨w.heap.size + 1, 0, none⟩ (.slice A n c)).setCell ⟨w.heap.size + 1, 1, none⟩ (.int .i64 (s.1 : Int))).setCell ⟨w.heap.size + 1, 2, none⟩ (.int .i64 (s.2.1 : Int))).setCell ⟨w.heap.size + 1, 3, none⟩ (.int .i64 (s.2.2 : Int))) = w2 at *
  have h8' : tmps[8]?.getD undef = .pointer (some ⟨w.heap.size + 1, 0, none⟩) := by simpa using h8
  have h9' : tmps[9]?.getD undef = .int .u64 (q : Int) := by simpa using h9
  have h10' : tmps[10]?.getD undef = .slice A' b.length c' := by simpa using h10
  have c0 : w2.cell? ⟨w.heap.size + 1, 0, none⟩ = some (.slice A n c) := k0
  have c1 : w2.cell? ⟨w.heap.size + 1, 1, none⟩ = some (.int .i64 (s.1 : Int)) := k1
  have c2 : w2.cell? ⟨w.heap.size + 1, 2, none⟩ = some (.int .i64 (s.2.1 : Int)) := k2
  have c3 : w2.cell? ⟨w.heap.size + 1, 3, none⟩ = some (.int .i64 (s.2.2 : Int)) := k3
  simp [results, Try.results24, h8', h9', h10', asAddr, go_sem, c0, c1, c2, c3, rdrV]
end Go.Proofs.Ytpeknjbcjpdmnab
