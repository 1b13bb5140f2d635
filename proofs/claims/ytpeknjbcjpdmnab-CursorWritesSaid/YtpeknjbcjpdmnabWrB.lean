/- The writer: Bytes, Var, Out. -/
import Derived.Test.YtpeknjbcjpdmnabWr
import Derived.Deep.QuietTactic
import Derived.BigQuiet
namespace Go.Proofs.Ytpeknjbcjpdmnab
open Go.RowKit
set_option linter.unusedVariables false

theorem wr_end {w w4 : World} {base g c c4 most n : Nat} {A A4 : Option Addr} {l m : List UInt8} (hn : n = m.length) (hW : Blk w4 g 87 #[.slice A l.length c, .int .i64 (most : Int), .int .i64 ((0 : Nat) : Int)]) (hown : w4.ownsRow base 5 1 (.slice A4 m.length c4) m.length (bcells m))
    (hg : w.grownBy w4 (Value.slice A 0 0).ownBlock) (hob : (Value.slice A4 0 0).ownBlock = (Value.slice A 0 0).ownBlock ∨ (Value.slice A4 0 0).ownBlock = some w.heap.size) (hbg : base ≤ g) :
    WtrIs w base g A most (m, 0) (.returned (.tuple #[])) (w4.setCell ⟨g, 0, none⟩ (.slice A4 n c4)) := by
  subst hn
  have hg5 := grownSet w4 ⟨g, 0, none⟩ (.slice A4 m.length c4)
  refine ⟨rfl, A4, c4, ⟨Blk.set_ hW 0 (.slice A4 m.length c4), hown.kept hg5 (own_blk_ne hown hW (by decide)), hbg⟩, (Off2.of_grown hg).trans (Off2.of_g hg5), ?_⟩
  rcases hob with h | h
  · exact .inl h
  · exact .inr ⟨_, h, Nat.le_refl _⟩

set_option maxHeartbeats 800000 in
set_option maxRecDepth 100000 in
theorem wrBytes_any (base g : Nat) (A : Option Addr) (c most : Nat) (s : WSt) (X : Option Addr) (n d : Nat) (b : List UInt8) (w : World) (h : Wtr w base g A c most s) (hn : n = b.length) (hb : BS w w.heap.size X b) (hm : most < 9223372036854775808) (hl : s.1.length ≤ 1000000000000) (hbl : b.length ≤ 1000000000000) :
    Calls Try.prog 34 #[.pointer (some ⟨g, 0, none⟩), .slice X n d] w (WtrIs w base g A most (bytesS most s b)) := by
  subst hn
  obtain ⟨l, fe⟩ := s
  obtain ⟨hW, hown, hbg⟩ := h
  have h0 : w.cell? ⟨g, 0, none⟩ = some (.slice A l.length c) := hW.cell 0
  have h1 : w.cell? ⟨g, 1, none⟩ = some (.int .i64 (most : Int)) := hW.cell 1
  have h2 : w.cell? ⟨g, 2, none⟩ = some (.int .i64 (fe : Int)) := hW.cell 2
  have hf := fun i => hW.frozen i
  have HW := Lib.hid hW
  have Hown := Lib.hid hown
  have HB := Lib.hid hb
  have hl' : (l.length : Int) ≤ 1000000000000 := by simp only at hl; omega
  have hw1 : IntKind.i64.wrap ((most : Int) - (l.length : Int)) = (most : Int) - (l.length : Int) := IntWalk.i64_in _ (by omega)
  have Hm := Lib.hid hm
  clear hW hown hb hm
  by_cases hfe : fe = 0
  · subst hfe
    by_cases hlong : most < l.length + b.length
    · have hlI : (most : Int) - (l.length : Int) < (b.length : Int) := by omega
      have hlD : decide ((most : Int) - (l.length : Int) < (b.length : Int)) = true := decide_eq_true hlI
      rw [show bytesS most (l, 0) b = (l, 4) by unfold bytesS; rw [if_neg (by simp), if_pos hlong]]
      go_enter Try.func34, Try.ntmps34
      go_wp2
      go_quiet (fail)
      go_wp2
      go_end0
      exact ⟨rfl, A, c, ⟨Blk.set_ (Blk.drewN HW.out _) 2 (.int .i64 4), Hown.out.kept (grownTrans (grownDrewN w _ _) (grownSet _ ⟨g, 2, none⟩ (.int .i64 4))) (own_blk_ne Hown.out HW.out (by decide)), hbg⟩, Off2.of_g (grownTrans (grownDrewN w _ _) (grownSet _ ⟨g, 2, none⟩ (.int .i64 4))), .inl rfl⟩
    · have hlI : ¬ (most : Int) - (l.length : Int) < (b.length : Int) := by omega
      have hlD : decide ((most : Int) - (l.length : Int) < (b.length : Int)) = false := decide_eq_false hlI
      rw [show bytesS most (l, 0) b = (l ++ b, 0) by unfold bytesS; rw [if_neg (by simp), if_neg hlong]]
      obtain ⟨i0, hi0, hz0, hz1, hz2⟩ := info_parts u8_infoO
      go_enter Try.func34, Try.ntmps34
      go_wp2
      go_quiet (fail)
      have hng : some g ≠ (Value.slice A l.length c).ownBlock := by
        rcases own_blk_ne Hown.out HW.out (by decide) with h2 | h2
        · rw [h2]; simp
        · exact fun e => h2 e.symm
      have Hng := Lib.hid hng
      clear hng
      have HB2 := fun k => (HB.out.drewN k)
      have Hown2 := fun k => own_below Hown.out (below_drewN (B := w.heap.size) (w := w) k)
      have HB3 := Lib.hid HB2
      have Hown3 := Lib.hid Hown2
      have Hbase := Lib.hid (show base ≤ w.heap.size by have := HW.out.lt; omega)
      clear HB2 Hown2
      go_wp2_with
        (at_builtin
         refine wpList_append_bytes _ rfl _ _ 22 rfl base 5 i0 (.int .u8 0) 1 Try.underlying22 hi0 hz0 hz1 hz2 rfl (.slice A l.length c) l rfl (Hown3.out _) _ X _ d b rfl rfl (HB3.out _) (by unfold maxLen; omega) (by omega) Hbase.out ?_
         intro A4 c4 w4 hown4 hg4 hob
         have HW4 := Lib.hid (Blk.grown (Blk.drewN HW.out _) hg4 Hng.out)
         have x0 : w4.cell? ⟨g, 0, none⟩ = some (.slice A l.length c) := HW4.out.cell 0
         have xf := HW4.out.frozen 0
         have Hown4 := Lib.hid hown4
         have Hg4 := Lib.hid (grownTrans (grownDrewN w _ _) hg4)
         have Hob : Hid ((Value.slice A4 0 0).ownBlock = (Value.slice A 0 0).ownBlock ∨ (Value.slice A4 0 0).ownBlock = some w.heap.size) := by
           cases A4 <;> cases A <;> exact hob
         clear hown4 hg4 hob h0 h1 h2 hf)
      go_end0
      have hsl : (Value.slice A l.length c).ownBlock = (Value.slice A 0 0).ownBlock := by cases A <;> rfl
      exact wr_end (by simp) HW4.out Hown4.out (by rw [← hsl]; exact Hg4.out) Hob.out hbg
  · have hfI : ((fe : Int) == 0) = false := by simp; omega
    rw [show bytesS most (l, fe) b = (l, fe) from if_pos hfe]
    go_enter Try.func34, Try.ntmps34
    go_wp2
    go_quiet (fail)
    go_wp2
    go_end0
    exact ⟨rfl, A, c, ⟨Blk.drewN HW.out _, own_below Hown.out (below_drewN _), hbg⟩, Off2.of_g (grownDrewN w _ _), .inl rfl⟩

/-- One behind the other: what came ahead made memory alone. -/
theorem WtrIs.from {w w1 w2 : World} {base g most : Nat} {A : Option Addr} {s : WSt} {x : Ending} (hb : Below w.heap.size w w1) (h : WtrIs w1 base g A most s x w2) : WtrIs w base g A most s x w2 := by
  obtain ⟨h1, A', c', h2, h3, h4⟩ := h
  refine ⟨h1, A', c', h2, (Off2.of_below hb).trans h3, ?_⟩
  rcases h4 with h | ⟨k, h, hk⟩
  · exact .inl h
  · exact .inr ⟨k, h, Nat.le_trans hb.size hk⟩

theorem put_own (n : Nat) (w : World) (hn : n < 18446744073709551616) :
    Calls Try.prog 43 #[.int .u64 (n : Int)] w fun e w' => ∃ A c, e = .returned (.slice A (vput n).length c) ∧ w'.ownsRow w.heap.size 5 1 (.slice A (vput n).length c) (vput n).length (bcells (vput n)) ∧ Below w.heap.size w w' :=
  (put_any n w n rfl hn).mono fun e w' ⟨v, h1, h2, h3⟩ => by
    obtain ⟨A, c, rfl, _⟩ := own_slice h2
    exact ⟨A, c, h1, h2, h3⟩

section
variable (base g : Nat) (A : Option Addr) (c most : Nat) (s : WSt) (w : World)
set_option maxHeartbeats 800000 in
set_option maxRecDepth 100000 in
theorem wrVar_any (n : Nat) (h : Wtr w base g A c most s) (hn : n < 18446744073709551616) (hm : most < 9223372036854775808) (hl : s.1.length ≤ 1000000000000) :
    Calls Try.prog 31 #[.pointer (some ⟨g, 0, none⟩), .int .u64 (n : Int)] w (WtrIs w base g A most (bytesS most s (vput n))) := by
  have H := Lib.hid h
  have Hn := Lib.hid hn
  have Hm := Lib.hid hm
  have hv := vput_le hn
  clear h hn hm
  go_enter Try.func31, Try.ntmps31
  go_wp2_with fail
  refine (put_own n _ Hn.out).mono ?_
  rintro e w1 ⟨A1, c1, rfl, hown1, hb1⟩
  have Hb1 := Lib.hid hb1
  have HB := Lib.hid (BS.of_own hown1).1
  clear hown1 hb1
  go_wp2_with fail
  refine (wrBytes_any base g A c most s A1 _ c1 (vput n) w1 (H.out.below Hb1.out) rfl HB.out Hm.out hl (by omega)).mono ?_
  intro e w2 h2
  have H2 := Lib.hid (WtrIs.from Hb1.out h2)
  obtain ⟨rfl, _⟩ := h2
  go_wp2
  go_end0
  exact H2.out

def OutIs (w : World) (s : WSt) (x : Ending) (w' : World) : Prop :=
  ∃ A' c', x = .returned (.tuple #[.slice A' (if s.2 = 0 then s.1 else []).length c', .int .i64 (s.2 : Int)]) ∧ w'.ownsRow w.heap.size 5 1 (.slice A' (if s.2 = 0 then s.1 else []).length c') (if s.2 = 0 then s.1 else []).length (bcells (if s.2 = 0 then s.1 else [])) ∧ Below w.heap.size w w'
set_option maxHeartbeats 800000 in
set_option maxRecDepth 100000 in
theorem wrOut_any (h : Wtr w base g A c most s) (hl : s.1.length ≤ 1000000000000) :
    Calls Try.prog 35 #[.pointer (some ⟨g, 0, none⟩)] w (OutIs w s) := by
  obtain ⟨l, fe⟩ := s
  obtain ⟨hW, hown, hbg⟩ := h
  have h0 : w.cell? ⟨g, 0, none⟩ = some (.slice A l.length c) := hW.cell 0
  have h2 : w.cell? ⟨g, 2, none⟩ = some (.int .i64 (fe : Int)) := hW.cell 2
  have HB := Lib.hid (BS.of_own hown).1
  clear hW hown
  simp only at hl
  by_cases hfe : fe = 0
  · subst hfe
    go_enter Try.func35, Try.ntmps35
    go_wp2_with fail
    refine (clone_own A _ c l w rfl HB.out (by omega)).mono ?_
    rintro e w1 ⟨A1, c1, rfl, hown1, hb1⟩
    have Hown1 := Lib.hid hown1
    clear hown1
    go_wp2
    go_ret2
    exact ⟨A1, c1, rfl, Hown1.out, hb1⟩
  · have hfI : ((fe : Int) != 0) = true := by simp; omega
    have hfI2 : ((fe : Int) == 0) = false := by simp; omega
    have Hfe := Lib.hid hfe
    clear hfe
    go_enter Try.func35, Try.ntmps35
    go_wp2
    go_quiet (fail)
    go_wp2
    go_ret2
    refine ⟨none, 0, by rw [if_neg Hfe.out]; rfl, by rw [if_neg Hfe.out]; exact World.ownsRow_nil _ _ _ _, below_drewN _⟩
end
end Go.Proofs.Ytpeknjbcjpdmnab
