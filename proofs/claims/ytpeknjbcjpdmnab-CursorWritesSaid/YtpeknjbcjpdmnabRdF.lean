/- The reader: fail. -/
import Derived.Test.YtpeknjbcjpdmnabRd
import Derived.Test.YtpeknjbcjpdmnabLists
namespace Go.Proofs.Ytpeknjbcjpdmnab
open Go.RowKit
set_option linter.unusedVariables false

/-- Block g is a reader of the text l, at the place at_, with the fault fe noted at fa; its text is a row from block base on. -/
def Rdr (w : World) (base g : Nat) (l : List UInt8) (at_ fa fe : Nat) : Prop :=
  ∃ (A : Option Addr) (c : Nat), Rd w g A l.length c at_ fa fe ∧ w.ownsRow base 5 1 (.slice A l.length c) l.length (bcells l) ∧ (∀ k, (Value.slice A l.length c).ownBlock = some k → k ≠ g) ∧ l.length ≤ c

theorem grownSet (w : World) (p : Addr) (u : Value) : w.grownBy (w.setCell p u) (some p.block) :=
  ⟨rfl, rfl, rfl, by simp [World.setCell], fun k _ hne => Below.heap_setCell _ _ _ _ (fun e => hne (by rw [e]))⟩
theorem grownTrans {a b c : World} {row : Option Nat} (h : a.grownBy b row) (k : b.grownBy c row) : a.grownBy c row :=
  ⟨k.os.trans h.os, k.tape.trans h.tape, k.output.trans h.output, Nat.le_trans h.size k.size, fun i hi hne => (k.block i (Nat.lt_of_lt_of_le hi h.size) hne).trans (h.block i hi hne)⟩
theorem grownOf {w w' : World} {row : Option Nat} (h : Below w.heap.size w w') : w.grownBy w' row := ⟨h.os, h.tape, h.output, h.size, fun k hk _ => h.block k hk⟩
theorem grownDrew (w : World) (row : Option Nat) : w.grownBy w.drew row := ⟨rfl, rfl, rfl, Nat.le_refl _, fun _ _ _ => rfl⟩
theorem grownDrewN (w : World) (n : Nat) (row : Option Nat) : w.grownBy (w.drewN n) row := ⟨rfl, rfl, rfl, Nat.le_refl _, fun _ _ _ => rfl⟩

/-- The reader's cells are other ones now; its text stays. -/
theorem Rdr.turn {w w' : World} {base g : Nat} {l : List UInt8} {A : Option Addr} {c a2 f2 e2 : Nat} (hr : Rd w' g A l.length c a2 f2 e2) (hown : w.ownsRow base 5 1 (.slice A l.length c) l.length (bcells l)) (hne : ∀ k, (Value.slice A l.length c).ownBlock = some k → k ≠ g) (hc : l.length ≤ c) (hg : w.grownBy w' (some g)) : Rdr w' base g l a2 f2 e2 :=
  ⟨A, c, hr, hown.kept hg (.inr (fun e => hne g e rfl)), hne, hc⟩
/-- A reader that nobody writes. -/
theorem Rdr.below {w w' : World} {base g : Nat} {l : List UInt8} {at_ fa fe : Nat} (h : Rdr w base g l at_ fa fe) (hb : Below w.heap.size w w') : Rdr w' base g l at_ fa fe := by
  obtain ⟨A, c, hr, hown, hne, hc⟩ := h
  exact ⟨A, c, Blk.below hr hb (Blk.lt hr), own_below hown hb, hne, hc⟩

set_option maxHeartbeats 400000 in
theorem rdFail_any (base g : Nat) (l : List UInt8) (at_ fa fe e : Nat) (w : World) (h : Rdr w base g l at_ fa fe) :
    Calls Try.prog 46 #[.pointer (some ⟨g, 0, none⟩), .int .i64 (e : Int)] w fun x w' => x = .returned (.tuple #[]) ∧ Rdr w' base g l at_ (if fe = 0 then at_ else fa) (if fe = 0 then e else fe) ∧ w.grownBy w' (some g) := by
  obtain ⟨A, c, hr, hown, hne, hcap⟩ := h
  have h0 := hr.c0; have h1 := hr.c1; have h2 := hr.c2; have h3 := hr.c3
  have f2 := hr.fr 2; have f3 := hr.fr 3
  by_cases hfe : fe = 0
  · subst hfe
    have Hr := Lib.hid hr
    have Hown := Lib.hid hown
    clear hr hown
    go_enter Try.func46, Try.ntmps46
    go_wp2
    go_end0
    have hg := grownTrans (grownSet w ⟨g, 2, none⟩ (.int .i64 (at_ : Int))) (grownSet _ ⟨g, 3, none⟩ (.int .i64 (e : Int)))
    exact ⟨rfl, Rdr.turn (Blk.set_ (Blk.set_ Hr.out 2 (.int .i64 (at_ : Int))) 3 (.int .i64 (e : Int))) Hown.out hne hcap hg, hg⟩
  · have hfI : ((fe : Int) == 0) = false := by simp; omega
    have hfI2 : ¬ (fe : Int) = 0 := by omega
    rw [if_neg hfe, if_neg hfe]
    have Hr := Lib.hid hr
    have Hown := Lib.hid hown
    clear hr hown
    go_enter Try.func46, Try.ntmps46
    go_wp2
    go_end0
    exact ⟨rfl, ⟨A, c, Hr.out, Hown.out, hne, hcap⟩, .refl _ _⟩
end Go.Proofs.Ytpeknjbcjpdmnab
