/- slices.Grow of nothing, slices.Concat of two texts. -/
import Derived.Test.YtpeknjbcjpdmnabRdR
import Derived.Lib.AppendZerosOnto
import Derived.Lib.AppendZeros
import Derived.Lib.Walk
import Derived.Lib.SliceRun
import Derived.Deep.LoopGhost
namespace Go.Proofs.Ytpeknjbcjpdmnab
open Go.RowKit
set_option linter.unusedVariables false

/-- Room for n, nothing in it yet: a row of the call's own. -/
theorem own_room (w : World) (cs : Array Value) (hz : cs.size = 1) (e : TypeId) (base n G : Nat) (hb : base ≤ w.heap.size) (hG : n ≤ G) (hm : G ≤ maxLen) :
    (w.alloc (.cells (Builtin.zeroCells cs n ++ Builtin.zeroCells cs (G - n)) e)).drew.ownsRow base e 1 (.slice (some ⟨w.heap.size, 0, none⟩) 0 G) 0 [] :=
  ⟨rfl, .inr ⟨w.heap.size, G, _, rfl, hb, heap_alloc_new w _, Nat.zero_le _, hm, by simp [size_zeroCells, hz]; omega, by simp⟩⟩

set_option maxHeartbeats 1600000 in
set_option maxRecDepth 100000 in
theorem growNil_own (n : Nat) (w : World) (h0 : 0 < n) (hn : n ≤ 1000000000000) :
    Calls Try.prog 57 #[.slice none 0 0, .int .i64 (n : Int)] w fun e w' => ∃ G, e = .returned (.slice (some ⟨w.heap.size, 0, none⟩) 0 G) ∧ w'.ownsRow w.heap.size 5 1 (.slice (some ⟨w.heap.size, 0, none⟩) 0 G) 0 [] ∧ Below w.heap.size w w' := by
  obtain ⟨i0, hi0, hz0, hz1, hz2⟩ := info_parts u8_infoO
  have h1 : ¬ ((n : Int) < 0) := by omega
  have h3 : wrap64 (n : Int) = (n : Int) := by unfold wrap64; omega
  have h4 : (n : Int) > 0 := by omega
  have hrz : ∀ ty, (Builtin.append_ #[22, 3] ty #[.slice none 0 0, .int .i64 (n : Int)]).run Try.prog w =
      .ok (.slice (some ⟨w.heap.size, 0, none⟩) n (grownCap w n 0 5)) (w.drew.alloc (.cells (#[] ++ Builtin.zeroCells (Value.int .u8 0).cells n ++ Builtin.zeroCells (Value.int .u8 0).cells (grownCap w n 0 5 - n)) 5)) := fun ty => by
    have h := Lib.run_append_grow_zeros w 22 3 ty 5 i0 (.int .u8 0) .i64 .i64 Try.underlying22 Try.underlying3 hi0 hz0 none 0 0 [] (run_firstCells_none w.drew i0.size 0 0 0) n h0 (by omega) (by omega) (by omega) (by rw [hz2]; omega)
      (growslice_fits (by omega) (by rw [hz2]; omega))
    rw [Nat.zero_add] at h
    exact h
  have hGn : n ≤ grownCap w n 0 5 := grownCap_ge w _ _ _
  have hGm : grownCap w n 0 5 ≤ maxLen := grownCap_le_maxLen w n 0 5 (by unfold maxLen; omega)
  obtain ⟨G, hG⟩ : ∃ G, G = grownCap w n 0 5 := ⟨_, rfl⟩
  rw [← hG] at hrz hGn hGm
  have hG63 : G ≤ 9223372036854775807 := by unfold maxLen at hGm; omega
  have Hown := Lib.hid (own_room w #[.int .u8 0] rfl 5 w.heap.size n G (Nat.le_refl _) hGn hGm)
  clear hG
  go_enter Try.func57, Try.ntmps57
  go_wp2_with (at_builtin; refine Lib.wpList_append_run _ rfl _ _ _ _ rfl _ _ rfl rfl _ _ (hrz _) ?_)
  go_ret
  exact ⟨G, rfl, Hown.out, ((Below.refl _ w).alloc (Nat.le_refl _) _).drew⟩

set_option maxHeartbeats 1600000 in
set_option maxRecDepth 100000 in
theorem concat_two (g : Nat) (A1 : Option Addr) (c1 : Nat) (l1 : List UInt8) (A2 : Option Addr) (c2 : Nat) (l2 : List UInt8) (w : World) (h1 : w.cell? ⟨g, 0, none⟩ = some (.slice A1 l1.length c1)) (h2 : w.cell? ⟨g, 1, none⟩ = some (.slice A2 l2.length c2))
    (hb1 : BS w w.heap.size A1 l1) (hb2 : BS w w.heap.size A2 l2) (h0 : 0 < l1.length) (hl1 : l1.length ≤ 100000000000) (hl2 : l2.length ≤ 100000000000) :
    Calls Try.prog 52 #[.slice (some ⟨g, 0, none⟩) 2 2] w fun e w' => ∃ A c, e = .returned (.slice A (l1 ++ l2).length c) ∧ w'.ownsRow w.heap.size 5 1 (.slice A (l1 ++ l2).length c) (l1 ++ l2).length (bcells (l1 ++ l2)) ∧ Below w.heap.size w w' := by
  obtain ⟨i0, hi0, hz0, hz1, hz2⟩ := info_parts u8_infoO
  have hg : g < w.heap.size := World.block_lt_of_cell? w ⟨g, 0, none⟩ h1
  have HB1 := Lib.hid hb1
  have HB2 := Lib.hid hb2
  clear hb1 hb2
  obtain ⟨n1, hn1⟩ : ∃ n, n = l1.length := ⟨_, rfl⟩
  obtain ⟨n2, hn2⟩ : ∃ n, n = l2.length := ⟨_, rfl⟩
  rw [← hn1] at h1 h0 hl1
  rw [← hn2] at h2 hl2
  have Hn1 := Lib.hid hn1
  have Hn2 := Lib.hid hn2
  clear hn1 hn2
  go_enter Try.func52, Try.ntmps52
  go_wp2
  go_loopw [3, 11] (fun s i wr => w = wr ∧ ((i = .int .i64 0 ∧ s = .int .i64 0) ∨ (i = .int .i64 1 ∧ s = .int .i64 (n1 : Int)) ∨ (i = .int .i64 2 ∧ s = .int .i64 ((n1 : Int) + (n2 : Int))))) (fun _ i _ => 2 - (intOf i).toNat)
  case atStart => exact ⟨rfl, .inl ⟨rfl, rfl⟩⟩
  case round =>
    obtain ⟨rfl, hor⟩ := hrel
    rcases hor with ⟨rfl, rfl⟩ | ⟨rfl, rfl⟩ | ⟨rfl, rfl⟩
    · have hw1 : ¬ ((n1 : Int) < 0) := by omega
      go_wp2
      go_roundw
      case rel => exact ⟨trivial, .inr (.inl ⟨rfl, by go_num⟩)⟩
      case measure => simp [intOf]
    · have hw1 : ¬ ((n1 : Int) + (n2 : Int) < 0) := by omega
      go_wp2
      go_roundw
      case rel => exact ⟨trivial, .inr (.inr ⟨rfl, by go_num⟩)⟩
      case measure => simp [intOf]
    · have hgr := growNil_own (n1 + n2) w (by omega) (by omega)
      rw [Int.natCast_add] at hgr
      have Hgr := Lib.hid hgr
      clear hgr
      go_wp2_with fail
      refine Hgr.out.mono ?_
      rintro e w1 ⟨G, rfl, hown1, hb1⟩
      have y1 := (hb1.cell (p := ⟨g, 0, none⟩) hg).trans h1
      have y2 := (hb1.cell (p := ⟨g, 1, none⟩) hg).trans h2
      have Hb1 := Lib.hid hb1
      have Hown1 := Lib.hid hown1
      have Hy1 := Lib.hid y1
      have Hy2 := Lib.hid y2
      clear hb1 hown1 Hgr y1 y2
      have Hown0 : Hid (w1.ownsRow w.heap.size 5 1 (.slice (some ⟨w.heap.size, 0, none⟩) ([] : List UInt8).length G) ([] : List UInt8).length (bcells [])) := Hown1.out
      go_wp2_with fail
      go_loopw [6, 27] (fun v i wr => ∃ (m : List UInt8) (A : Option Addr) (c : Nat), v = .slice A m.length c ∧ Hid (wr.ownsRow w.heap.size 5 1 (.slice A m.length c) m.length (bcells m)) ∧ Hid (Below w.heap.size w wr) ∧ ((i = .int .i64 0 ∧ [] = m) ∨ (i = .int .i64 1 ∧ l1 = m) ∨ (i = .int .i64 2 ∧ l1 ++ l2 = m))) (fun _ i _ => 2 - (intOf i).toNat)
      case atStart => exact ⟨[], _, G, rfl, Hown0, Hb1, .inl ⟨rfl, rfl⟩⟩
      case round =>
        obtain ⟨m, A, c, rfl, hown, hbel, hor⟩ := hrel
        have y1 := (hbel.out.cell (p := ⟨g, 0, none⟩) hg).trans h1
        have y2 := (hbel.out.cell (p := ⟨g, 1, none⟩) hg).trans h2
        have hrow : ∀ k, (Value.slice A m.length c).ownBlock = some k → w.heap.size ≤ k := fun k hk => (hown.out.lt k hk).1
        have Hrow := Lib.hid hrow
        clear hrow
        rcases hor with ⟨rfl, rfl⟩ | ⟨rfl, rfl⟩ | ⟨rfl, rfl⟩
        · go_wp2_with (at_builtin; go_loud (refine wpList_append_bytes _ rfl _ _ 22 rfl w.heap.size 5 i0 (.int .u8 0) 1 Try.underlying22 hi0 hz0 hz1 hz2 rfl _ [] rfl hown.out _ A1 n1 c1 l1 rfl Hn1.out (HB1.out.below hbel.out) (by simp [maxLen]; have := Hn1.out; omega) (by simp; have := Hn1.out; omega) hbel.out.size ?_); intro A' c' w2 hown2 hg2 _)
          have Hown2 : Hid (w2.ownsRow w.heap.size 5 1 (.slice A' l1.length c') l1.length (bcells l1)) := hown2
          have Hbel2 : Hid (Below w.heap.size w w2) := hbel.out.grown hg2 hbel.out.size Hrow.out
          clear hown2 hg2
          go_roundw
          case rel => exact ⟨l1, A', c', by simp, Hown2, Hbel2, .inr (.inl ⟨by go_num, rfl⟩)⟩
          case measure => simp [intOf]
        · go_wp2_with (at_builtin; go_loud (refine wpList_append_bytes _ rfl _ _ 22 rfl w.heap.size 5 i0 (.int .u8 0) 1 Try.underlying22 hi0 hz0 hz1 hz2 rfl _ l1 rfl hown.out _ A2 n2 c2 l2 rfl Hn2.out (HB2.out.below hbel.out) (by simp [maxLen]; have := Hn1.out; have := Hn2.out; omega) (by have := Hn1.out; have := Hn2.out; omega) hbel.out.size ?_); intro A' c' w2 hown2 hg2 _)
          have Hown2 := Lib.hid hown2
          have Hbel2 : Hid (Below w.heap.size w w2) := hbel.out.grown hg2 hbel.out.size Hrow.out
          clear hown2 hg2
          go_roundw
          case rel => exact ⟨l1 ++ l2, A', c', by simp, Hown2, Hbel2, .inr (.inr ⟨by go_num, rfl⟩)⟩
          case measure => simp [intOf]
        · go_wp2
          go_ret
          exact ⟨A, c, by simp, hown.out, hbel.out⟩
end Go.Proofs.Ytpeknjbcjpdmnab
