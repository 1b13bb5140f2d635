/- slices.Backward over bytes: the iterator's contract: the bytes with their places, the last one first. -/
import Derived.Test.YtgohhojoahlfiaaKA
import Derived.Test.YtgohhojoahlfiaaProg
import Derived.RangeFuncNested
import Derived.RangeFuncBound
import Derived.RangeFuncCalls
import Derived.RangeFuncLeaves
import Derived.RangeFuncBox
import Derived.Shelf.Abstract
import Derived.Shelf.RegionOpen
import Derived.WalkKit
import Derived.Outline
import Derived.OwnWalkIn
import Derived.TacticsInMore
import Derived.LoopNIn
import Derived.LoopIn
namespace Go.Proofs.Ytgohhojoahlfiaa
open Go.RowKit Go.Shelf
set_option linter.unusedVariables false
attribute [local go_sem] Oper.semAt_some

/-- What has come when k rounds are over. -/
def bwd (l : List UInt8) (k : Nat) : List (Nat × UInt8) := (List.range k).map fun j => (l.length - 1 - j, l.getD (l.length - 1 - j) 0)
theorem bwd_succ (l : List UInt8) (k : Nat) : bwd l (k + 1) = bwd l k ++ [(l.length - 1 - k, l.getD (l.length - 1 - k) 0)] := by simp [bwd, List.range_succ]
theorem bwd_length (l : List UInt8) (k : Nat) : (bwd l k).length = k := by simp [bwd]
theorem bwd_all (l : List UInt8) : (bwd l l.length).map (·.2) = l.reverse := by
  apply List.ext_getElem
  · simp [bwd]
  · intro i h1 h2
    simp [bwd] at h1
    have : l.length - 1 - i < l.length := by omega
    simp [bwd, this]

/-- What a round keeps: all below n₀, and the box in which the iterator holds its slice. -/
def KpB (n₀ Bs : Nat) (A B : World) : Prop := Below n₀ A B ∧ B.heap[Bs]? = A.heap[Bs]?
theorem KpB.refl (n₀ Bs : Nat) (A : World) : KpB n₀ Bs A A := ⟨Below.refl _ _, rfl⟩
theorem KpB.trans {n₀ Bs : Nat} {A B C : World} (h : KpB n₀ Bs A B) (k : KpB n₀ Bs B C) : KpB n₀ Bs A C := ⟨h.1.trans k.1, k.2.trans h.2⟩
theorem KpB.putObj {n₀ Bs : Nat} {w : World} (hn : n₀ ≤ w.heap.size) (hB : Bs < w.heap.size) (W : World) (l : Nat) (o o' : Obj) (hl : w.heap.size ≤ l) (h : W.heap[l]? = some o) (h1 : o.isCells = false) (h2 : o.isWalk = false) : KpB n₀ Bs W (W.putObj l o') :=
  ⟨belowK_b hn W l o o' hl h h1 h2, (grownBy_putObj' W l o').block Bs (by have := (Array.getElem?_eq_some_iff.1 h).1; omega) (fun e => by injection e; omega)⟩
theorem KpB.cell {n₀ Bs : Nat} {A B : World} (h : KpB n₀ Bs A B) : B.cell? ⟨Bs, 0, none⟩ = A.cell? ⟨Bs, 0, none⟩ := World.cell?_of_block (w := A) h.2

def encP (x : Nat × UInt8) : Array Value := #[.int .i64 (x.1 : Int), .int .u8 (x.2.toNat : Int)]

set_option maxRecDepth 100000 in
set_option maxHeartbeats 2000000 in
theorem backward1_in (F : Fence) (n : Nat) (hf : F.fn 105) (hro : F.round = none) (hn : 1 ≤ n) (l Bs n₀ : Nat) (A : Option Addr) (cap : Nat) (bs : List UInt8) (hreach : bs.length ≤ 1000000000) (J Jx : List (Nat × UInt8) → World → Prop)
    (hY : ∀ pre x W, J pre W → pre.length < bs.length → YieldAt F (n - 1) Try.prog l (encP x) W fun e W' =>
      (e = .returned (.bool true) ∧ J (pre ++ [x]) W' ∧ KpB n₀ Bs W W') ∨ (e = .returned (.bool false) ∧ Jx (pre ++ [x]) W'))
    (W : World) (hB : BS W n₀ A bs) (hBs : W.cell? ⟨Bs, 0, none⟩ = some (.slice A bs.length cap)) (h0 : J [] W) :
    CallsIn F n Try.prog 105 #[.func (.yield l) #[] #[], .pointer (some ⟨Bs, 0, none⟩)] W fun e W' => (∃ v, e = .returned v) ∧
      (J (bwd bs bs.length) W' ∨ (∃ pre, Jx pre W')) := by
  have HB := Lib.hid hB
  clear hB
  refine callsIn_of_wp Try.func105 rfl hf ?_ hro
  simp only [Try.ntmps105, List.size_toArray, List.length_cons, List.length_nil, Nat.reduceAdd, Nat.reduceSub, Array.replicate_succ, Array.replicate_zero, List.push_toArray, List.append_toArray, List.nil_append, List.cons_append]
  gi_wp2
  gi_loopw [3] (fun i wr => ∃ k : Nat, k ≤ bs.length ∧ i = .int .i64 ((bs.length : Int) - 1 - (k : Int)) ∧ J (bwd bs k) wr ∧ KpB n₀ Bs W wr)
    (fun i _ => (intOf i + 1).toNat)
  case atStart => exact ⟨0, Nat.zero_le _, by simp, h0, KpB.refl _ _ _⟩
  case round =>
    obtain ⟨k, hk, rfl, hJs, hnx⟩ := hrel
    have hcs := hnx.cell.trans hBs
    by_cases hlt : k < bs.length
    · have hlt' : bs.length - 1 - k < bs.length := by omega
      obtain ⟨ad, rfl, _, hc⟩ := (HB.out.below hnx.1).at_ hlt'
      have hi : ((bs.length : Int) - 1 - (k : Int)).toNat = bs.length - 1 - k := by omega
      have hi2 : ((bs.length : Int) - 1 - (k : Int)) = ((bs.length - 1 - k : Nat) : Int) := by omega
      have hg : bs.getD (bs.length - 1 - k) 0 = bs[bs.length - 1 - k] := by simp [List.getD, List.getElem?_eq_getElem hlt']
      obtain ⟨fn, tmps, assign, body, hy, hR⟩ := hY _ (bs.length - 1 - k, bs[bs.length - 1 - k]) wr hJs (by rw [bwd_length]; exact hlt)
      dsimp only [encP] at hy
      have hmeas : ((bs.length : Int) - 1 - ((k + 1 : Nat) : Int)) = ((bs.length : Int) - 1 - (k : Int)) - 1 := by omega
      have Hi2 := Lib.hid hi2
      have Hg := Lib.hid hg
      clear hi hg hmeas
      rw [Hi2.out]
      clear hi2
      generalize hbi : bs.length - 1 - k = bi at *
      have Hbi := Lib.hid hbi
      clear hbi
      gi_wp2
      refine hR.mono ?_
      rintro e W3 (⟨rfl, hJ3, hk3⟩ | ⟨rfl, hJx3⟩)
      · gi_wp2
        go_roundw
        case rel => exact ⟨k + 1, by omega, by have := Hbi.out; congr 1; omega, by rw [bwd_succ, Hbi.out, Hg.out]; exact hJ3, hnx.trans hk3⟩
        case measure => simp [intOf]
      · gi_wp2
        refine bodyPost_ret (results_none rfl _ _ _) rfl ?_
        exact ⟨⟨_, rfl⟩, .inr ⟨_, hJx3⟩⟩
    · obtain rfl : k = bs.length := by omega
      have hneg : ((bs.length : Int) - 1 - (bs.length : Int)) = -1 := by omega
      rw [hneg]
      clear hneg
      gi_wp2
      go_end0
      exact ⟨⟨_, rfl⟩, .inl hJs⟩

set_option maxHeartbeats 1000000 in
theorem backward_in (F : Fence) (n : Nat) (h5 : F.fn 99) (hro : F.round = none) (a : Option Addr) (len cap : Nat) (w : World) :
    CallsIn F n Try.prog 99 #[.slice a len cap] w fun e w' => e = .returned (.func (.func 105) #[] #[.pointer (some ⟨w.heap.size, 0, none⟩)]) ∧ w' = w.alloc (.cells #[.slice a len cap] 22) := by
  refine callsIn_of_wp Try.func99 rfl h5 ?_ hro
  simp only [Try.ntmps99, List.size_toArray, List.length_cons, List.length_nil, Nat.reduceAdd, Nat.reduceSub, Array.replicate_succ, Array.replicate_zero, List.push_toArray, List.append_toArray, List.nil_append, List.cons_append]
  gi_wp2
  go_ret
  exact ⟨rfl, rfl⟩

theorem backward_stops (F : Fence) (n : Nat) (h8 : F.fn 105) (hro : F.round = none) (hn : 1 ≤ n) (Bs n₀ : Nat) (A : Option Addr) (cap : Nat) (bs : List UInt8) (hreach : bs.length ≤ 1000000000) (w : World) (hBs : Bs < w.heap.size) (hn₀ : n₀ ≤ w.heap.size)
    (hc : w.cell? ⟨Bs, 0, none⟩ = some (.slice A bs.length cap)) (hI : BS w n₀ A bs) :
    SeqStopsK F n Try.prog 105 #[.pointer (some ⟨Bs, 0, none⟩)] encP (KpB n₀ Bs) (fun ys => ys = bwd bs bs.length) (fun _ => True) bs.length w := fun l J Jx W hW _ _ hY h0 => by
  have hc' := (hW.cell (p := ⟨Bs, 0, none⟩) hBs).trans hc
  refine (backward1_in F n h8 hro hn l Bs n₀ A cap bs hreach J Jx hY W (hI.below (hW.mono hn₀)) hc' h0).mono ?_
  rintro e W' ⟨he, hj | ⟨pre, hj⟩⟩
  · exact ⟨he, .inl ⟨_, rfl, hj⟩⟩
  · exact ⟨he, .inr ⟨_, trivial, hj⟩⟩
end Go.Proofs.Ytgohhojoahlfiaa
