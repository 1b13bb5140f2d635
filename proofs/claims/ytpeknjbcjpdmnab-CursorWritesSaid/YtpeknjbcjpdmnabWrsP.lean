/- What a loop over what a writer is told keeps: the writer, what was written so far, and that these two lie apart. -/
import Derived.Test.YtpeknjbcjpdmnabWrT
import Derived.Test.YtpeknjbcjpdmnabVarintE
import Derived.Deep.RegionLaw
namespace Go.Proofs.Ytpeknjbcjpdmnab
open Go.RowKit
set_option linter.unusedVariables false

def Disj (Aw Ao : Option Addr) : Prop := ∀ k, (Value.slice Aw 0 0).ownBlock = some k → (Value.slice Ao 0 0).ownBlock ≠ some k
theorem own_flat (A : Option Addr) (n c : Nat) : (Value.slice A n c).ownBlock = (Value.slice A 0 0).ownBlock := by cases A <;> rfl

/-- The writer in the state s, what is kept beside it, and the memory that was there. -/
def WrsAt (w wr : World) (g most : Nat) (Ao : Option Addr) (co : Nat) (l : List UInt8) (s : WSt) : Prop :=
  (∃ Aw cw, Wtr wr g g Aw cw most s ∧ Disj Aw Ao) ∧ wr.ownsRow g 5 1 (.slice Ao l.length co) l.length (bcells l) ∧ Below w.heap.size w wr

theorem WrsAt.below {w wr w' : World} {g most : Nat} {Ao : Option Addr} {co : Nat} {l : List UInt8} {s : WSt} (h : WrsAt w wr g most Ao co l s) (hb : Below wr.heap.size wr w') : WrsAt w w' g most Ao co l s := by
  obtain ⟨⟨Aw, cw, h1, h2⟩, h3, h4⟩ := h
  exact ⟨⟨Aw, cw, h1.below hb, h2⟩, own_below h3 hb, h4.trans (hb.mono h4.size)⟩

theorem WrsAt.wrote {w W w3 : World} {g most : Nat} {Aw Ao : Option Addr} {cw co : Nat} {l : List UInt8} {s s' : WSt} {x : Ending} (hg : w.heap.size ≤ g) (hW : Wtr W g g Aw cw most s) (hd : Disj Aw Ao)
    (ho : W.ownsRow g 5 1 (.slice Ao l.length co) l.length (bcells l)) (hB : Below w.heap.size w W) (h : WtrIs W g g Aw most s' x w3) :
    WrsAt w w3 g most Ao co l s' ∧ ∀ k t cs, t ≠ 5 → t ≠ 87 → Blk W k t cs → Blk w3 k t cs := by
  obtain ⟨_, Aw', cw', h2, h3, h4⟩ := h
  have hwl := hW.2.1.lt
  rw [own_flat] at hwl
  have hol := ho.lt
  rw [own_flat] at hol
  have hne : (Value.slice Ao l.length co).ownBlock = none ∨ (Value.slice Ao l.length co).ownBlock ≠ (Value.slice Aw 0 0).ownBlock := by
    rw [own_flat]
    rcases hv : (Value.slice Ao 0 0).ownBlock with _ | k
    · exact .inl rfl
    · exact .inr (fun e => hd k e.symm hv)
  have hgo : (Value.slice Ao l.length co).ownBlock ≠ some g := by
    rcases own_blk_ne ho hW.1 (by decide) with h5 | h5
    · rw [h5]; simp
    · exact h5
  refine ⟨⟨⟨Aw', cw', h2, fun k hk hk2 => ?_⟩, h3.own ho hgo hne, hB.trans (h3.below hg (fun k hk => Nat.le_trans hg (hwl k hk).1) hB.size)⟩, fun k t cs ht1 ht2 hb => ?_⟩
  · rcases h4 with h4 | ⟨j, h4, hj⟩
    · exact hd k (h4 ▸ hk) hk2
    · rw [h4] at hk
      injection hk with hk
      have := (hol k hk2).2
      omega
  · refine h3.blk hb (Blk.ne hb hW.1 ht2) ?_
    rcases own_blk_ne hW.2.1 hb ht1 with h5 | h5
    · rw [own_flat] at h5
      rw [h5]; simp
    · rw [own_flat] at h5
      exact fun e => h5 e.symm

/-- A new row for what is kept: it lies apart from the writer's. -/
theorem WrsAt.renew {w w1 w2 : World} {g most : Nat} {Ao An : Option Addr} {co cn : Nat} {l m : List UInt8} {s : WSt} (h : WrsAt w w1 g most Ao co l s) (hb : Below w1.heap.size w1 w2)
    (hn : w2.ownsRow w1.heap.size 5 1 (.slice An m.length cn) m.length (bcells m)) : WrsAt w w2 g most An cn m s := by
  obtain ⟨⟨Aw, cw, h1, h2⟩, h3, h4⟩ := h
  have hwl := h1.2.1.lt
  rw [own_flat] at hwl
  have hnl := hn.lt
  rw [own_flat] at hnl
  have hg := h1.1.lt
  refine ⟨⟨Aw, cw, h1.below hb, fun k hk hk2 => ?_⟩, own_base' hn (by omega), h4.trans (hb.mono h4.size)⟩
  have a1 := (hwl k hk).2
  have a2 := (hnl k hk2).1
  omega

theorem wrsOut_ok {w : World} {g most : Nat} {Aw : Option Addr} {cw : Nat} {l : List UInt8} (h : Wtr w g g Aw cw most (l, 0)) (hl : l.length ≤ 1000000000000) :
    Calls Try.prog 35 #[.pointer (some ⟨g, 0, none⟩)] w fun x w' => ∃ A' c', x = .returned (.tuple #[.slice A' l.length c', .int .i64 0]) ∧ w'.ownsRow w.heap.size 5 1 (.slice A' l.length c') l.length (bcells l) ∧ Below w.heap.size w w' :=
  (wrOut_any g g Aw cw most (l, 0) w h hl).mono fun x w' ⟨A', c', h1, h2, h3⟩ => ⟨A', c', h1, h2, h3⟩
theorem wrsOut_bad {w : World} {g most : Nat} {Aw : Option Addr} {cw fe : Nat} {l : List UInt8} (h : Wtr w g g Aw cw most (l, fe)) (hf : fe ≠ 0) (hl : l.length ≤ 1000000000000) :
    Calls Try.prog 35 #[.pointer (some ⟨g, 0, none⟩)] w fun x w' => ∃ A' c', x = .returned (.tuple #[.slice A' 0 c', .int .i64 (fe : Int)]) ∧ Below w.heap.size w w' :=
  (wrOut_any g g Aw cw most (l, fe) w h hl).mono fun x w' ⟨A', c', h1, h2, h3⟩ => ⟨A', c', by rw [if_neg hf] at h1; exact h1, h3⟩

theorem refPut2_ownW (n : Nat) (w : World) (hn : n < 18446744073709551616) :
    Calls Try.prog 32 #[.int .u64 (n : Int)] w fun e w' => ∃ A c, e = .returned (.slice A (vput n).length c) ∧ w'.ownsRow w.heap.size 5 1 (.slice A (vput n).length c) (vput n).length (bcells (vput n)) ∧ Below w.heap.size w w' :=
  (refPut_any n w n rfl hn).mono fun e w' ⟨v, h1, h2, h3⟩ => by
    obtain ⟨A, c, rfl, _⟩ := own_slice h2
    exact ⟨A, c, h1, h2, h3⟩

end Go.Proofs.Ytpeknjbcjpdmnab
