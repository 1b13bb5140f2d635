/- Laid into one text: WrB Concat WrN WrT. -/
import Derived.Test.YtgohhojoahlfiaaWr
import Derived.Deep.QuietTactic
import Derived.BigQuiet
import Derived.Test.YtgohhojoahlfiaaK2
import Derived.Lib.AppendZerosOnto
import Derived.Lib.AppendZeros
import Derived.Lib.Walk
import Derived.Lib.SliceRun
import Derived.Deep.LoopGhost
import Derived.Test.YtgohhojoahlfiaaPutX

/- The writer: Bytes, Var, Out. -/
namespace Go.Proofs.Ytgohhojoahlfiaa
open Go.RowKit
set_option linter.unusedVariables false

theorem wr_end {w w4 : World} {base g c c4 most n : Nat} {A A4 : Option Addr} {l m : List UInt8} (hn : n = m.length) (hW : Blk w4 g 117 #[.slice A l.length c, .int .i64 (most : Int), .int .i64 ((0 : Nat) : Int)]) (hown : w4.ownsRow base 5 1 (.slice A4 m.length c4) m.length (bcells m))
    (hg : w.grownBy w4 (Value.slice A 0 0).ownBlock) (hob : (Value.slice A4 0 0).ownBlock = (Value.slice A 0 0).ownBlock ∨ (Value.slice A4 0 0).ownBlock = some w.heap.size) (hbg : base ≤ g) :
    WtrIs w base g A most (m, 0) (.returned (.tuple #[])) (w4.setCell ⟨g, 0, none⟩ (.slice A4 n c4)) := by
  subst hn
  have hg5 := grownSet w4 ⟨g, 0, none⟩ (.slice A4 m.length c4)
  refine ⟨rfl, A4, c4, ⟨Blk.set_ hW 0 (.slice A4 m.length c4), hown.kept hg5 (own_blk_ne hown hW (by decide)), hbg⟩, (Off2.of_grown hg).trans (Off2.of_g hg5), ?_⟩
  rcases hob with h | h
  · exact .inl h
  · exact .inr ⟨_, h, Nat.le_refl _⟩

set_option maxHeartbeats 800000 in
set_option maxRecDepth 100000 in
theorem wrBytes_any (base g : Nat) (A : Option Addr) (c most : Nat) (s : WSt) (X : Option Addr) (n d : Nat) (b : List UInt8) (w : World) (h : Wtr w base g A c most s) (hn : n = b.length) (hb : BS w w.heap.size X b) (hm : most < 9223372036854775808) (hl : s.1.length ≤ 1000000000000) (hbl : b.length ≤ 1000000000000) :
    Calls Try.prog 77 #[.pointer (some ⟨g, 0, none⟩), .slice X n d] w (WtrIs w base g A most (bytesS most s b)) := by
  subst hn
  obtain ⟨l, fe⟩ := s
  obtain ⟨hW, hown, hbg⟩ := h
  have h0 : w.cell? ⟨g, 0, none⟩ = some (.slice A l.length c) := hW.cell 0
  have h1 : w.cell? ⟨g, 1, none⟩ = some (.int .i64 (most : Int)) := hW.cell 1
  have h2 : w.cell? ⟨g, 2, none⟩ = some (.int .i64 (fe : Int)) := hW.cell 2
  have hf := fun i => hW.frozen i
  have HW := Lib.hid hW
  have Hown := Lib.hid hown
  have HB := Lib.hid hb
  have hl' : (l.length : Int) ≤ 1000000000000 := by simp only at hl; omega
  have hw1 : IntKind.i64.wrap ((most : Int) - (l.length : Int)) = (most : Int) - (l.length : Int) := IntWalk.i64_in _ (by omega)
  have Hm := Lib.hid hm
  clear hW hown hb hm
  by_cases hfe : fe = 0
  · subst hfe
    by_cases hlong : most < l.length + b.length
    · have hlI : (most : Int) - (l.length : Int) < (b.length : Int) := by omega
      have hlD : decide ((most : Int) - (l.length : Int) < (b.length : Int)) = true := decide_eq_true hlI
      rw [show bytesS most (l, 0) b = (l, 4) by unfold bytesS; rw [if_neg (by simp), if_pos hlong]]
      go_enter Try.func77, Try.ntmps77
      go_wp2
      go_quiet (fail)
      go_wp2
      go_end0
      exact ⟨rfl, A, c, ⟨Blk.set_ (Blk.drewN HW.out _) 2 (.int .i64 4), Hown.out.kept (grownTrans (grownDrewN w _ _) (grownSet _ ⟨g, 2, none⟩ (.int .i64 4))) (own_blk_ne Hown.out HW.out (by decide)), hbg⟩, Off2.of_g (grownTrans (grownDrewN w _ _) (grownSet _ ⟨g, 2, none⟩ (.int .i64 4))), .inl rfl⟩
    · have hlI : ¬ (most : Int) - (l.length : Int) < (b.length : Int) := by omega
      have hlD : decide ((most : Int) - (l.length : Int) < (b.length : Int)) = false := decide_eq_false hlI
      rw [show bytesS most (l, 0) b = (l ++ b, 0) by unfold bytesS; rw [if_neg (by simp), if_neg hlong]]
      obtain ⟨i0, hi0, hz0, hz1, hz2⟩ := info_parts u8_infoO
      go_enter Try.func77, Try.ntmps77
      go_wp2
      go_quiet (fail)
      have hng : some g ≠ (Value.slice A l.length c).ownBlock := by
        rcases own_blk_ne Hown.out HW.out (by decide) with h2 | h2
        · rw [h2]; simp
        · exact fun e => h2 e.symm
      have Hng := Lib.hid hng
      clear hng
      have HB2 := fun k => (HB.out.drewN k)
      have Hown2 := fun k => own_below Hown.out (below_drewN (B := w.heap.size) (w := w) k)
      have HB3 := Lib.hid HB2
      have Hown3 := Lib.hid Hown2
      have Hbase := Lib.hid (show base ≤ w.heap.size by have := HW.out.lt; omega)
      clear HB2 Hown2
      go_wp2_with
        (at_builtin
         refine wpList_append_bytes _ rfl _ _ 22 rfl base 5 i0 (.int .u8 0) 1 Try.underlying22 hi0 hz0 hz1 hz2 rfl (.slice A l.length c) l rfl (Hown3.out _) _ X _ d b rfl rfl (HB3.out _) (by unfold maxLen; omega) (by omega) Hbase.out ?_
         intro A4 c4 w4 hown4 hg4 hob
         have HW4 := Lib.hid (Blk.grown (Blk.drewN HW.out _) hg4 Hng.out)
         have x0 : w4.cell? ⟨g, 0, none⟩ = some (.slice A l.length c) := HW4.out.cell 0
         have xf := HW4.out.frozen 0
         have Hown4 := Lib.hid hown4
         have Hg4 := Lib.hid (grownTrans (grownDrewN w _ _) hg4)
         have Hob : Hid ((Value.slice A4 0 0).ownBlock = (Value.slice A 0 0).ownBlock ∨ (Value.slice A4 0 0).ownBlock = some w.heap.size) := by
           cases A4 <;> cases A <;> exact hob
         clear hown4 hg4 hob h0 h1 h2 hf)
      go_end0
      have hsl : (Value.slice A l.length c).ownBlock = (Value.slice A 0 0).ownBlock := by cases A <;> rfl
      exact wr_end (by simp) HW4.out Hown4.out (by rw [← hsl]; exact Hg4.out) Hob.out hbg
  · have hfI : ((fe : Int) == 0) = false := by simp; omega
    rw [show bytesS most (l, fe) b = (l, fe) from if_pos hfe]
    go_enter Try.func77, Try.ntmps77
    go_wp2
    go_quiet (fail)
    go_wp2
    go_end0
    exact ⟨rfl, A, c, ⟨Blk.drewN HW.out _, own_below Hown.out (below_drewN _), hbg⟩, Off2.of_g (grownDrewN w _ _), .inl rfl⟩

/-- One behind the other: what came ahead made memory alone. -/
theorem WtrIs.from {w w1 w2 : World} {base g most : Nat} {A : Option Addr} {s : WSt} {x : Ending} (hb : Below w.heap.size w w1) (h : WtrIs w1 base g A most s x w2) : WtrIs w base g A most s x w2 := by
  obtain ⟨h1, A', c', h2, h3, h4⟩ := h
  refine ⟨h1, A', c', h2, (Off2.of_below hb).trans h3, ?_⟩
  rcases h4 with h | ⟨k, h, hk⟩
  · exact .inl h
  · exact .inr ⟨k, h, Nat.le_trans hb.size hk⟩

theorem put_own (n : Nat) (w : World) (hn : n < 18446744073709551616) :
    Calls Try.prog 80 #[.int .u64 (n : Int)] w fun e w' => ∃ A c, e = .returned (.slice A (vput n).length c) ∧ w'.ownsRow w.heap.size 5 1 (.slice A (vput n).length c) (vput n).length (bcells (vput n)) ∧ Below w.heap.size w w' :=
  (put_any n w n rfl hn).mono fun e w' ⟨v, h1, h2, h3⟩ => by
    obtain ⟨A, c, rfl, _⟩ := own_slice h2
    exact ⟨A, c, h1, h2, h3⟩

section
variable (base g : Nat) (A : Option Addr) (c most : Nat) (s : WSt) (w : World)
set_option maxHeartbeats 800000 in
set_option maxRecDepth 100000 in
theorem wrVar_any (n : Nat) (h : Wtr w base g A c most s) (hn : n < 18446744073709551616) (hm : most < 9223372036854775808) (hl : s.1.length ≤ 1000000000000) :
    Calls Try.prog 47 #[.pointer (some ⟨g, 0, none⟩), .int .u64 (n : Int)] w (WtrIs w base g A most (bytesS most s (vput n))) := by
  have H := Lib.hid h
  have Hn := Lib.hid hn
  have Hm := Lib.hid hm
  have hv := vput_le hn
  clear h hn hm
  go_enter Try.func47, Try.ntmps47
  go_wp2_with fail
  refine (put_own n _ Hn.out).mono ?_
  rintro e w1 ⟨A1, c1, rfl, hown1, hb1⟩
  have Hb1 := Lib.hid hb1
  have HB := Lib.hid (BS.of_own hown1).1
  clear hown1 hb1
  go_wp2_with fail
  refine (wrBytes_any base g A c most s A1 _ c1 (vput n) w1 (H.out.below Hb1.out) rfl HB.out Hm.out hl (by omega)).mono ?_
  intro e w2 h2
  have H2 := Lib.hid (WtrIs.from Hb1.out h2)
  obtain ⟨rfl, _⟩ := h2
  go_wp2
  go_end0
  exact H2.out

def OutIs (w : World) (s : WSt) (x : Ending) (w' : World) : Prop :=
  ∃ A' c', x = .returned (.tuple #[.slice A' (if s.2 = 0 then s.1 else []).length c', .int .i64 (s.2 : Int)]) ∧ w'.ownsRow w.heap.size 5 1 (.slice A' (if s.2 = 0 then s.1 else []).length c') (if s.2 = 0 then s.1 else []).length (bcells (if s.2 = 0 then s.1 else [])) ∧ Below w.heap.size w w'
set_option maxHeartbeats 800000 in
set_option maxRecDepth 100000 in
theorem wrOut_any (h : Wtr w base g A c most s) (hl : s.1.length ≤ 1000000000000) :
    Calls Try.prog 49 #[.pointer (some ⟨g, 0, none⟩)] w (OutIs w s) := by
  obtain ⟨l, fe⟩ := s
  obtain ⟨hW, hown, hbg⟩ := h
  have h0 : w.cell? ⟨g, 0, none⟩ = some (.slice A l.length c) := hW.cell 0
  have h2 : w.cell? ⟨g, 2, none⟩ = some (.int .i64 (fe : Int)) := hW.cell 2
  have HB := Lib.hid (BS.of_own hown).1
  clear hW hown
  simp only at hl
  by_cases hfe : fe = 0
  · subst hfe
    go_enter Try.func49, Try.ntmps49
    go_wp2_with fail
    refine (clone_own A _ c l w rfl HB.out (by omega)).mono ?_
    rintro e w1 ⟨A1, c1, rfl, hown1, hb1⟩
    have Hown1 := Lib.hid hown1
    clear hown1
    go_wp2
    go_ret2
    exact ⟨A1, c1, rfl, Hown1.out, hb1⟩
  · have hfI : ((fe : Int) != 0) = true := by simp; omega
    have hfI2 : ((fe : Int) == 0) = false := by simp; omega
    have Hfe := Lib.hid hfe
    clear hfe
    go_enter Try.func49, Try.ntmps49
    go_wp2
    go_quiet (fail)
    go_wp2
    go_ret2
    refine ⟨none, 0, by rw [if_neg Hfe.out]; rfl, by rw [if_neg Hfe.out]; exact World.ownsRow_nil _ _ _ _, below_drewN _⟩
end
end Go.Proofs.Ytgohhojoahlfiaa

/- slices.Grow of nothing, slices.Concat of two texts. -/
namespace Go.Proofs.Ytgohhojoahlfiaa
open Go.RowKit
set_option linter.unusedVariables false

/-- Room for n, nothing in it yet: a row of the call's own. -/
theorem own_room (w : World) (cs : Array Value) (hz : cs.size = 1) (e : TypeId) (base n G : Nat) (hb : base ≤ w.heap.size) (hG : n ≤ G) (hm : G ≤ maxLen) :
    (w.alloc (.cells (Builtin.zeroCells cs n ++ Builtin.zeroCells cs (G - n)) e)).drew.ownsRow base e 1 (.slice (some ⟨w.heap.size, 0, none⟩) 0 G) 0 [] :=
  ⟨rfl, .inr ⟨w.heap.size, G, _, rfl, hb, heap_alloc_new w _, Nat.zero_le _, hm, by simp [size_zeroCells, hz]; omega, by simp⟩⟩

set_option maxHeartbeats 1600000 in
set_option maxRecDepth 100000 in
theorem growNil_own (n : Nat) (w : World) (h0 : 0 < n) (hn : n ≤ 1000000000000) :
    Calls Try.prog 96 #[.slice none 0 0, .int .i64 (n : Int)] w fun e w' => ∃ G, e = .returned (.slice (some ⟨w.heap.size, 0, none⟩) 0 G) ∧ w'.ownsRow w.heap.size 5 1 (.slice (some ⟨w.heap.size, 0, none⟩) 0 G) 0 [] ∧ Below w.heap.size w w' := by
  obtain ⟨i0, hi0, hz0, hz1, hz2⟩ := info_parts u8_infoO
  have h1 : ¬ ((n : Int) < 0) := by omega
  have h3 : wrap64 (n : Int) = (n : Int) := by unfold wrap64; omega
  have h4 : (n : Int) > 0 := by omega
  have hrz : ∀ ty, (Builtin.append_ #[22, 3] ty #[.slice none 0 0, .int .i64 (n : Int)]).run Try.prog w =
      .ok (.slice (some ⟨w.heap.size, 0, none⟩) n (grownCap w n 0 5)) (w.drew.alloc (.cells (#[] ++ Builtin.zeroCells (Value.int .u8 0).cells n ++ Builtin.zeroCells (Value.int .u8 0).cells (grownCap w n 0 5 - n)) 5)) := fun ty => by
    have h := Lib.run_append_grow_zeros w 22 3 ty 5 i0 (.int .u8 0) .i64 .i64 Try.underlying22 Try.underlying3 hi0 hz0 none 0 0 [] (run_firstCells_none w.drew i0.size 0 0 0) n h0 (by omega) (by omega) (by omega) (by rw [hz2]; omega)
      (growslice_fits (by omega) (by rw [hz2]; omega))
    rw [Nat.zero_add] at h
    exact h
  have hGn : n ≤ grownCap w n 0 5 := grownCap_ge w _ _ _
  have hGm : grownCap w n 0 5 ≤ maxLen := grownCap_le_maxLen w n 0 5 (by unfold maxLen; omega)
  obtain ⟨G, hG⟩ : ∃ G, G = grownCap w n 0 5 := ⟨_, rfl⟩
  rw [← hG] at hrz hGn hGm
  have hG63 : G ≤ 9223372036854775807 := by unfold maxLen at hGm; omega
  have Hown := Lib.hid (own_room w #[.int .u8 0] rfl 5 w.heap.size n G (Nat.le_refl _) hGn hGm)
  clear hG
  go_enter Try.func96, Try.ntmps96
  go_wp2_with (at_builtin; refine Lib.wpList_append_run _ rfl _ _ _ _ rfl _ _ rfl rfl _ _ (hrz _) ?_)
  go_ret
  exact ⟨G, rfl, Hown.out, ((Below.refl _ w).alloc (Nat.le_refl _) _).drew⟩

set_option maxHeartbeats 1600000 in
set_option maxRecDepth 100000 in
theorem concat_two (g : Nat) (A1 : Option Addr) (c1 : Nat) (l1 : List UInt8) (A2 : Option Addr) (c2 : Nat) (l2 : List UInt8) (w : World) (h1 : w.cell? ⟨g, 0, none⟩ = some (.slice A1 l1.length c1)) (h2 : w.cell? ⟨g, 1, none⟩ = some (.slice A2 l2.length c2))
    (hb1 : BS w w.heap.size A1 l1) (hb2 : BS w w.heap.size A2 l2) (h0 : 0 < l1.length) (hl1 : l1.length ≤ 100000000000) (hl2 : l2.length ≤ 100000000000) :
    Calls Try.prog 81 #[.slice (some ⟨g, 0, none⟩) 2 2] w fun e w' => ∃ A c, e = .returned (.slice A (l1 ++ l2).length c) ∧ w'.ownsRow w.heap.size 5 1 (.slice A (l1 ++ l2).length c) (l1 ++ l2).length (bcells (l1 ++ l2)) ∧ Below w.heap.size w w' := by
  obtain ⟨i0, hi0, hz0, hz1, hz2⟩ := info_parts u8_infoO
  have hg : g < w.heap.size := World.block_lt_of_cell? w ⟨g, 0, none⟩ h1
  have HB1 := Lib.hid hb1
  have HB2 := Lib.hid hb2
  clear hb1 hb2
  obtain ⟨n1, hn1⟩ : ∃ n, n = l1.length := ⟨_, rfl⟩
  obtain ⟨n2, hn2⟩ : ∃ n, n = l2.length := ⟨_, rfl⟩
  rw [← hn1] at h1 h0 hl1
  rw [← hn2] at h2 hl2
  have Hn1 := Lib.hid hn1
  have Hn2 := Lib.hid hn2
  clear hn1 hn2
  go_enter Try.func81, Try.ntmps81
  go_wp2
  go_loopw [3, 11] (fun s i wr => w = wr ∧ ((i = .int .i64 0 ∧ s = .int .i64 0) ∨ (i = .int .i64 1 ∧ s = .int .i64 (n1 : Int)) ∨ (i = .int .i64 2 ∧ s = .int .i64 ((n1 : Int) + (n2 : Int))))) (fun _ i _ => 2 - (intOf i).toNat)
  case atStart => exact ⟨rfl, .inl ⟨rfl, rfl⟩⟩
  case round =>
    obtain ⟨rfl, hor⟩ := hrel
    rcases hor with ⟨rfl, rfl⟩ | ⟨rfl, rfl⟩ | ⟨rfl, rfl⟩
    · have hw1 : ¬ ((n1 : Int) < 0) := by omega
      go_wp2
      go_roundw
      case rel => exact ⟨trivial, .inr (.inl ⟨rfl, by go_num⟩)⟩
      case measure => simp [intOf]
    · have hw1 : ¬ ((n1 : Int) + (n2 : Int) < 0) := by omega
      go_wp2
      go_roundw
      case rel => exact ⟨trivial, .inr (.inr ⟨rfl, by go_num⟩)⟩
      case measure => simp [intOf]
    · have hgr := growNil_own (n1 + n2) w (by omega) (by omega)
      rw [Int.natCast_add] at hgr
      have Hgr := Lib.hid hgr
      clear hgr
      go_wp2_with fail
      refine Hgr.out.mono ?_
      rintro e w1 ⟨G, rfl, hown1, hb1⟩
      have y1 := (hb1.cell (p := ⟨g, 0, none⟩) hg).trans h1
      have y2 := (hb1.cell (p := ⟨g, 1, none⟩) hg).trans h2
      have Hb1 := Lib.hid hb1
      have Hown1 := Lib.hid hown1
      have Hy1 := Lib.hid y1
      have Hy2 := Lib.hid y2
      clear hb1 hown1 Hgr y1 y2
      have Hown0 : Hid (w1.ownsRow w.heap.size 5 1 (.slice (some ⟨w.heap.size, 0, none⟩) ([] : List UInt8).length G) ([] : List UInt8).length (bcells [])) := Hown1.out
      go_wp2_with fail
      go_loopw [6, 27] (fun v i wr => ∃ (m : List UInt8) (A : Option Addr) (c : Nat), v = .slice A m.length c ∧ Hid (wr.ownsRow w.heap.size 5 1 (.slice A m.length c) m.length (bcells m)) ∧ Hid (Below w.heap.size w wr) ∧ ((i = .int .i64 0 ∧ [] = m) ∨ (i = .int .i64 1 ∧ l1 = m) ∨ (i = .int .i64 2 ∧ l1 ++ l2 = m))) (fun _ i _ => 2 - (intOf i).toNat)
      case atStart => exact ⟨[], _, G, rfl, Hown0, Hb1, .inl ⟨rfl, rfl⟩⟩
      case round =>
        obtain ⟨m, A, c, rfl, hown, hbel, hor⟩ := hrel
        have y1 := (hbel.out.cell (p := ⟨g, 0, none⟩) hg).trans h1
        have y2 := (hbel.out.cell (p := ⟨g, 1, none⟩) hg).trans h2
        have hrow : ∀ k, (Value.slice A m.length c).ownBlock = some k → w.heap.size ≤ k := fun k hk => (hown.out.lt k hk).1
        have Hrow := Lib.hid hrow
        clear hrow
        rcases hor with ⟨rfl, rfl⟩ | ⟨rfl, rfl⟩ | ⟨rfl, rfl⟩
        · go_wp2_with (at_builtin; go_loud (refine wpList_append_bytes _ rfl _ _ 22 rfl w.heap.size 5 i0 (.int .u8 0) 1 Try.underlying22 hi0 hz0 hz1 hz2 rfl _ [] rfl hown.out _ A1 n1 c1 l1 rfl Hn1.out (HB1.out.below hbel.out) (by simp [maxLen]; have := Hn1.out; omega) (by simp; have := Hn1.out; omega) hbel.out.size ?_); intro A' c' w2 hown2 hg2 _)
          have Hown2 : Hid (w2.ownsRow w.heap.size 5 1 (.slice A' l1.length c') l1.length (bcells l1)) := hown2
          have Hbel2 : Hid (Below w.heap.size w w2) := hbel.out.grown hg2 hbel.out.size Hrow.out
          clear hown2 hg2
          go_roundw
          case rel => exact ⟨l1, A', c', by simp, Hown2, Hbel2, .inr (.inl ⟨by go_num, rfl⟩)⟩
          case measure => simp [intOf]
        · go_wp2_with (at_builtin; go_loud (refine wpList_append_bytes _ rfl _ _ 22 rfl w.heap.size 5 i0 (.int .u8 0) 1 Try.underlying22 hi0 hz0 hz1 hz2 rfl _ l1 rfl hown.out _ A2 n2 c2 l2 rfl Hn2.out (HB2.out.below hbel.out) (by simp [maxLen]; have := Hn1.out; have := Hn2.out; omega) (by have := Hn1.out; have := Hn2.out; omega) hbel.out.size ?_); intro A' c' w2 hown2 hg2 _)
          have Hown2 := Lib.hid hown2
          have Hbel2 : Hid (Below w.heap.size w w2) := hbel.out.grown hg2 hbel.out.size Hrow.out
          clear hown2 hg2
          go_roundw
          case rel => exact ⟨l1 ++ l2, A', c', by simp, Hown2, Hbel2, .inr (.inr ⟨by go_num, rfl⟩)⟩
          case measure => simp [intOf]
        · go_wp2
          go_ret
          exact ⟨A, c, by simp, hown.out, hbel.out⟩
end Go.Proofs.Ytgohhojoahlfiaa

/- The writer: Num, Text. -/
namespace Go.Proofs.Ytgohhojoahlfiaa
open Go.RowKit
set_option linter.unusedVariables false

/-- One behind the other: what came ahead wrote the writer's block, or its row, alone. -/
theorem WtrIs.from2 {w w1 w2 : World} {base g most : Nat} {A : Option Addr} {s : WSt} {x : Ending} (hb : Off2 w w1 g (Value.slice A 0 0).ownBlock) (h : WtrIs w1 base g A most s x w2) : WtrIs w base g A most s x w2 := by
  obtain ⟨h1, A', c', h2, h3, h4⟩ := h
  refine ⟨h1, A', c', h2, hb.trans h3, ?_⟩
  rcases h4 with h | ⟨k, h, hk⟩
  · exact .inl h
  · exact .inr ⟨k, h, Nat.le_trans hb.2.2.2.1 hk⟩

/-- A number written: one that is of no size is a fault. -/
def numW (most : Nat) (s : WSt) (m : Nat) (sz : Int) (big : Bool) : WSt := bytesS most (if s.2 = 0 ∧ (sz < 1 ∨ 8 < sz) then (s.1, 1) else s) (putS (clampN sz) m big)

section
variable (base g : Nat) (A : Option Addr) (c most : Nat) (s : WSt) (w : World)
set_option maxHeartbeats 1600000 in
set_option maxRecDepth 100000 in
theorem wrNum_any (m : Nat) (sz : Int) (big : Bool) (h : Wtr w base g A c most s) (hm : m < 18446744073709551616) (hmo : most < 9223372036854775808) (hl : s.1.length ≤ 1000000000000) :
    Calls Try.prog 45 #[.pointer (some ⟨g, 0, none⟩), .int .u64 (m : Int), .int .i64 sz, .bool big] w (WtrIs w base g A most (numW most s m sz big)) := by
  obtain ⟨l, fe⟩ := s
  have h2 : w.cell? ⟨g, 2, none⟩ = some (.int .i64 (fe : Int)) := h.1.cell 2
  have hf : ∀ i, w.frozen? ⟨g, i, none⟩ = false := fun i => h.1.frozen i
  have H := Lib.hid h
  have Hm := Lib.hid hm
  have Hmo := Lib.hid hmo
  have hpl : (putS (clampN sz) m big).length ≤ 8 := by rw [putS_length]; exact clampN_le sz
  have Hpl := Lib.hid hpl
  simp only at hl
  clear h hm hmo hpl
  by_cases hfe : fe = 0
  · subst hfe
    have hst : ∀ w1, w1 = w.setCell ⟨g, 2, none⟩ (.int .i64 1) → Wtr w1 base g A c most (l, 1) ∧ Off2 w w1 g (Value.slice A 0 0).ownBlock := fun w1 e => by
      subst e
      obtain ⟨hW, hown, hbg⟩ := H.out
      have hg5 := grownSet w ⟨g, 2, none⟩ (.int .i64 1)
      exact ⟨⟨Blk.set_ hW 2 (.int .i64 1), hown.kept hg5 (own_blk_ne hown hW (by decide)), hbg⟩, Off2.of_g hg5⟩
    have Hst := Lib.hid hst
    clear hst
    by_cases h1 : sz < 1
    · have hw : numW most (l, 0) m sz big = bytesS most (l, 1) (putS (clampN sz) m big) := by unfold numW; rw [if_pos ⟨rfl, .inl h1⟩]
      have Hw := Lib.hid hw
      clear hw
      go_enter Try.func45, Try.ntmps45
      go_wp2_with fail
      obtain ⟨w1, hw1⟩ : ∃ w1, w1 = w.setCell ⟨g, 2, none⟩ (.int .i64 1) := ⟨_, rfl⟩
      rw [← hw1]
      have H1 := Lib.hid (Hst.out w1 hw1)
      clear hw1 h2 hf
      refine (octPut_x big m sz w1 Hm.out).mono ?_
      rintro e w2 ⟨A2, c2, rfl, hown2, hb2⟩
      have Hb2 := Lib.hid hb2
      have HB := Lib.hid (BS.of_own hown2).1
      clear hown2 hb2
      go_wp2_with fail
      refine (wrBytes_any base g A c most (l, 1) A2 _ c2 (putS (clampN sz) m big) w2 (H1.out.1.below Hb2.out) rfl HB.out Hmo.out hl (by have := Hpl.out; omega)).mono ?_
      intro e w3 h3
      have H3 := Lib.hid (WtrIs.from2 H1.out.2 (WtrIs.from Hb2.out h3))
      obtain ⟨rfl, _⟩ := h3
      go_wp2
      go_end0
      rw [Hw.out]
      exact H3.out
    · by_cases h8 : 8 < sz
      · have hw : numW most (l, 0) m sz big = bytesS most (l, 1) (putS (clampN sz) m big) := by unfold numW; rw [if_pos ⟨rfl, .inr h8⟩]
        have Hw := Lib.hid hw
        clear hw
        go_enter Try.func45, Try.ntmps45
        go_wp2_with fail
        obtain ⟨w1, hw1⟩ : ∃ w1, w1 = w.setCell ⟨g, 2, none⟩ (.int .i64 1) := ⟨_, rfl⟩
        rw [← hw1]
        have H1 := Lib.hid (Hst.out w1 hw1)
        clear hw1 h2 hf
        refine (octPut_x big m sz w1 Hm.out).mono ?_
        rintro e w2 ⟨A2, c2, rfl, hown2, hb2⟩
        have Hb2 := Lib.hid hb2
        have HB := Lib.hid (BS.of_own hown2).1
        clear hown2 hb2
        go_wp2_with fail
        refine (wrBytes_any base g A c most (l, 1) A2 _ c2 (putS (clampN sz) m big) w2 (H1.out.1.below Hb2.out) rfl HB.out Hmo.out hl (by have := Hpl.out; omega)).mono ?_
        intro e w3 h3
        have H3 := Lib.hid (WtrIs.from2 H1.out.2 (WtrIs.from Hb2.out h3))
        obtain ⟨rfl, _⟩ := h3
        go_wp2
        go_end0
        rw [Hw.out]
        exact H3.out
      · have hw : numW most (l, 0) m sz big = bytesS most (l, 0) (putS (clampN sz) m big) := by unfold numW; rw [if_neg (by simp only; omega)]
        have Hw := Lib.hid hw
        clear hw
        go_enter Try.func45, Try.ntmps45
        go_wp2_with fail
        refine (octPut_x big m sz w Hm.out).mono ?_
        rintro e w2 ⟨A2, c2, rfl, hown2, hb2⟩
        have Hb2 := Lib.hid hb2
        have HB := Lib.hid (BS.of_own hown2).1
        clear hown2 hb2
        go_wp2_with fail
        refine (wrBytes_any base g A c most (l, 0) A2 _ c2 (putS (clampN sz) m big) w2 (H.out.below Hb2.out) rfl HB.out Hmo.out hl (by have := Hpl.out; omega)).mono ?_
        intro e w3 h3
        have H3 := Lib.hid (WtrIs.from Hb2.out h3)
        obtain ⟨rfl, _⟩ := h3
        go_wp2
        go_end0
        rw [Hw.out]
        exact H3.out
  · have hfI : ((fe : Int) == 0) = false := by simp; omega
    have hw : numW most (l, fe) m sz big = bytesS most (l, fe) (putS (clampN sz) m big) := by unfold numW; rw [if_neg (by simp only; omega)]
    have Hw := Lib.hid hw
    clear hw
    go_enter Try.func45, Try.ntmps45
    go_wp2_with fail
    refine (octPut_x big m sz w Hm.out).mono ?_
    rintro e w2 ⟨A2, c2, rfl, hown2, hb2⟩
    have Hb2 := Lib.hid hb2
    have HB := Lib.hid (BS.of_own hown2).1
    clear hown2 hb2
    go_wp2_with fail
    refine (wrBytes_any base g A c most (l, fe) A2 _ c2 (putS (clampN sz) m big) w2 (H.out.below Hb2.out) rfl HB.out Hmo.out hl (by have := Hpl.out; omega)).mono ?_
    intro e w3 h3
    have H3 := Lib.hid (WtrIs.from Hb2.out h3)
    obtain ⟨rfl, _⟩ := h3
    go_wp2
    go_end0
    rw [Hw.out]
    exact H3.out
end
end Go.Proofs.Ytgohhojoahlfiaa

/- The writer: Text. -/
namespace Go.Proofs.Ytgohhojoahlfiaa
open Go.RowKit
set_option linter.unusedVariables false
section
variable (base g : Nat) (A : Option Addr) (c most : Nat) (s : WSt) (w : World)
set_option maxHeartbeats 1600000 in
set_option maxRecDepth 100000 in
theorem wrText_any (X : Option Addr) (d : Nat) (b : List UInt8) (h : Wtr w base g A c most s) (hb : BS w w.heap.size X b) (hmo : most < 9223372036854775808) (hl : s.1.length ≤ 1000000000000) (hbl : b.length ≤ 1000000000) :
    Calls Try.prog 48 #[.pointer (some ⟨g, 0, none⟩), .slice X b.length d] w (WtrIs w base g A most (bytesS most s (vput b.length ++ b))) := by
  have H := Lib.hid h
  have Hmo := Lib.hid hmo
  have HX := Lib.hid hb
  have hv0 : 0 < (vput b.length).length := vput_pos b.length
  have hv := vput_le (n := b.length) (by omega)
  have hcv : IntKind.u64.wrap (b.length : Int) = (b.length : Int) := by simp [IntKind.wrap, IntKind.bits, IntKind.signed]; omega
  clear h hmo hb
  go_enter Try.func48, Try.ntmps48
  go_wp2_with fail
  refine (put_own b.length _ (by omega)).mono ?_
  rintro e w1 ⟨A1, c1, rfl, hown1, hb1⟩
  have Hb1 := Lib.hid hb1
  have Hown1 := Lib.hid hown1
  clear hown1 hb1
  go_wp2_with fail
  obtain ⟨W, hW⟩ : ∃ W, W = w1.alloc (.cells #[.slice A1 (vput b.length).length c1, .slice X b.length d] 22) := ⟨_, rfl⟩
  rw [← hW]
  have hbW : Below w1.heap.size w1 W := by rw [hW]; exact (Below.refl _ w1).alloc (Nat.le_refl _) _
  have hc0 : W.cell? ⟨w1.heap.size, 0, none⟩ = some (.slice A1 (vput b.length).length c1) := by rw [hW]; exact cell_of_row _ _ 0 _ _ _ (heap_alloc_new w1 _)
  have hc1 : W.cell? ⟨w1.heap.size, 1, none⟩ = some (.slice X b.length d) := by rw [hW]; exact cell_of_row _ _ 1 _ _ _ (heap_alloc_new w1 _)
  have HbW : Hid (Below w.heap.size w W) := Hb1.out.trans (hbW.mono Hb1.out.size)
  have hB1 : BS W W.heap.size A1 (vput b.length) := (BS.of_own (own_below Hown1.out hbW)).1
  have hB2 : BS W W.heap.size X b := (HX.out.below HbW.out).more HbW.out.size
  clear hW hbW
  refine (concat_two w1.heap.size A1 c1 (vput b.length) X d b W hc0 hc1 hB1 hB2 hv0 (by omega) (by omega)).mono ?_
  rintro e w2 ⟨A2, c2, rfl, hown2, hb2⟩
  have Hb2 : Hid (Below w.heap.size w w2) := HbW.out.trans (hb2.mono HbW.out.size)
  have HB := Lib.hid (BS.of_own hown2).1
  clear hown2 hb2 hc0 hc1 hB1 hB2
  go_wp2_with fail
  refine (wrBytes_any base g A c most s A2 _ c2 (vput b.length ++ b) w2 (H.out.below Hb2.out) (by simp) HB.out Hmo.out hl (by rw [List.length_append]; omega)).mono ?_
  intro e w3 h3
  have H3 := Lib.hid (WtrIs.from Hb2.out h3)
  obtain ⟨rfl, _⟩ := h3
  go_wp2
  go_end0
  exact H3.out
end
end Go.Proofs.Ytgohhojoahlfiaa
