/- The reader: New, fail by states. -/
import Derived.Test.YtpeknjbcjpdmnabRdF
import Derived.Test.YtpeknjbcjpdmnabCl
import Derived.Test.YtpeknjbcjpdmnabRdS
namespace Go.Proofs.Ytpeknjbcjpdmnab
open Go.RowKit
set_option linter.unusedVariables false

theorem own_nec {w : World} {base g : Nat} {e t : TypeId} {n : Nat} {v : Value} {xs : List Value} {cs : Array Value} (h : w.ownsRow base e 1 v n xs) (hb : Blk w g t cs) (hne : t ≠ e) : ∀ k, v.ownBlock = some k → k ≠ g := by
  intro k hk e1
  subst e1
  rcases h.2 with ⟨rfl, _⟩ | ⟨g', cap, cur, rfl, _, hh, _⟩
  · cases hk
  · have : g' = k := by simpa [Value.ownBlock] using hk
    subst this
    have hb' : w.heap[g']? = some (.cells cs t) := hb
    rw [hh] at hb'
    injection hb' with hb'
    injection hb' with _ ht
    exact hne ht.symm

/-- Block g is a reader of l in the state s. -/
def RdW (w : World) (base g : Nat) (l : List UInt8) (s : St) : Prop := Rdr w base g l s.1 s.2.1 s.2.2
theorem RdW.below {w w' : World} {base g : Nat} {l : List UInt8} {s : St} (h : RdW w base g l s) (hb : Below w.heap.size w w') : RdW w' base g l s := Rdr.below h hb

set_option maxHeartbeats 400000 in
theorem rdNew_any (A : Option Addr) (n c : Nat) (l : List UInt8) (w : World) (hn : n = l.length) (hb : BS w w.heap.size A l) (hl : n ≤ 1000000000) :
    Calls Try.prog 18 #[.slice A n c] w fun e w' => ∃ g, e = .returned (.pointer (some ⟨g, 0, none⟩)) ∧ w.heap.size ≤ g ∧ g < w'.heap.size ∧ RdW w' w.heap.size g l (0, 0, 0) ∧ Below w.heap.size w w' := by
  subst hn
  have HB := Lib.hid hb
  clear hb
  go_enter Try.func18, Try.ntmps18
  go_wp2_with fail
  refine (clone_own _ _ _ l _ rfl HB.out (by omega)).mono ?_
  rintro e w1 ⟨A', c', rfl, hown, hb1⟩
  have Hown := Lib.hid hown
  clear hown
  go_wp2
  go_ret
  have hw2 : Below w1.heap.size w1 (w1.alloc (.cells #[.slice A' l.length c', .int .i64 0, .int .i64 0, .int .i64 0] 78)) := (Below.refl _ w1).alloc (Nat.le_refl _) _
  have hbl : Rd (w1.alloc (.cells #[.slice A' l.length c', .int .i64 0, .int .i64 0, .int .i64 0] 78)) w1.heap.size A' l.length c' 0 0 0 := Blk.new _ _ _ _ rfl
  have ho := own_below Hown.out hw2
  obtain ⟨_, _, e3, h3, _⟩ := own_slice Hown.out
  injection e3 with _ _ e4
  exact ⟨_, rfl, hb1.size, by simp, ⟨A', c', hbl, ho, own_nec ho hbl (by decide), by omega⟩, hb1.trans (hw2.mono hb1.size)⟩

set_option maxHeartbeats 400000 in
theorem rdFail_st (base g : Nat) (l : List UInt8) (s : St) (e : Nat) (w : World) (h : RdW w base g l s) :
    Calls Try.prog 46 #[.pointer (some ⟨g, 0, none⟩), .int .i64 (e : Int)] w fun x w' => x = .returned (.tuple #[]) ∧ RdW w' base g l (failS s e) ∧ w.grownBy w' (some g) :=
  (rdFail_any base g l s.1 s.2.1 s.2.2 e w h).mono fun x w' ⟨h1, h2, h3⟩ => ⟨h1, by
    unfold RdW failS
    by_cases hs : s.2.2 = 0
    · rw [if_pos hs] at h2 ⊢
      rw [if_pos hs] at h2
      exact h2
    · rw [if_neg hs] at h2 ⊢
      rw [if_neg hs] at h2
      exact h2, h3⟩
end Go.Proofs.Ytpeknjbcjpdmnab
