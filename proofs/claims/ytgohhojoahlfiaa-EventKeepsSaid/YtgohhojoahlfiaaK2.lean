/- Laid into one text: Rd RdF RdS RdN RdG RdC RdP RdM. -/
import Derived.Test.YtgohhojoahlfiaaKA
import Derived.Test.YtgohhojoahlfiaaProg
import Derived.WalkKit
import Derived.Outline
import Derived.Deep.QuietTactic
import Derived.BigQuiet
import Derived.IntWalk
import Derived.Deep.RegionHeld3
import Derived.Test.YtgohhojoahlfiaaOctG
import Derived.Test.YtgohhojoahlfiaaCl
import Derived.StillTailTactics
import Derived.Test.YtgohhojoahlfiaaKV
import Derived.Test.YtgohhojoahlfiaaOctGB

/- The reader: its words in memory; At, Left, Fault, fail. -/
namespace Go.Proofs.Ytgohhojoahlfiaa
open Go.RowKit
set_option linter.unusedVariables false

/-- The cells of a reader. -/
def rdC (A : Option Addr) (n c : Nat) (at_ fa fe : Nat) : Array Value := #[.slice A n c, .int .i64 (at_ : Int), .int .i64 (fa : Int), .int .i64 (fe : Int)]
/-- Block g is a reader. -/
def Rd (w : World) (g : Nat) (A : Option Addr) (n c : Nat) (at_ fa fe : Nat) : Prop := Blk w g 111 (rdC A n c at_ fa fe)
section
variable {w w' : World} {g : Nat} {A : Option Addr} {n c at_ fa fe : Nat}
theorem Rd.c0 (h : Rd w g A n c at_ fa fe) : w.cell? ⟨g, 0, none⟩ = some (.slice A n c) := Blk.cell h 0
theorem Rd.c1 (h : Rd w g A n c at_ fa fe) : w.cell? ⟨g, 1, none⟩ = some (.int .i64 (at_ : Int)) := Blk.cell h 1
theorem Rd.c2 (h : Rd w g A n c at_ fa fe) : w.cell? ⟨g, 2, none⟩ = some (.int .i64 (fa : Int)) := Blk.cell h 2
theorem Rd.c3 (h : Rd w g A n c at_ fa fe) : w.cell? ⟨g, 3, none⟩ = some (.int .i64 (fe : Int)) := Blk.cell h 3
theorem Rd.fr (h : Rd w g A n c at_ fa fe) (i : Nat) : w.frozen? ⟨g, i, none⟩ = false := Blk.frozen h i
end

set_option maxHeartbeats 400000 in
theorem rdAt_any (g : Nat) (A : Option Addr) (n c at_ fa fe : Nat) (w : World) (h : Rd w g A n c at_ fa fe) :
    Calls Try.prog 32 #[.pointer (some ⟨g, 0, none⟩)] w fun e w' => e = .returned (.int .i64 (at_ : Int)) ∧ w = w' := by
  have h0 := h.c0; have h1 := h.c1; have h2 := h.c2; have h3 := h.c3
  go_enter Try.func32, Try.ntmps32
  go_wp2
  go_ret
  exact ⟨rfl, rfl⟩

set_option maxHeartbeats 400000 in
theorem rdLeft_any (g : Nat) (A : Option Addr) (n c at_ fa fe : Nat) (w : World) (h : Rd w g A n c at_ fa fe) (hn : n ≤ 1000000000) (ha : at_ ≤ n) :
    Calls Try.prog 88 #[.pointer (some ⟨g, 0, none⟩)] w fun e w' => e = .returned (.int .i64 ((n : Int) - (at_ : Int))) ∧ ∃ m, w' = w.drewN m := by
  have h0 := h.c0; have h1 := h.c1; have h2 := h.c2; have h3 := h.c3
  go_enter Try.func88, Try.ntmps88
  have hw : IntKind.i64.wrap ((n : Int) - (at_ : Int)) = (n : Int) - (at_ : Int) := IntWalk.i64_in _ (by omega)
  go_wp2
  go_quiet (fail)
  go_wp2
  go_ret
  refine ⟨by first | rfl | (simp only [hw]; rfl), _, rfl⟩

set_option maxHeartbeats 400000 in
theorem rdFault_any (g : Nat) (A : Option Addr) (n c at_ fa fe : Nat) (w : World) (h : Rd w g A n c at_ fa fe) :
    Calls Try.prog 33 #[.pointer (some ⟨g, 0, none⟩)] w fun e w' => e = .returned (.agg #[.int .i64 (fa : Int), .int .i64 (fe : Int)]) ∧ Below w.heap.size w w' := by
  have h0 := h.c0; have h1 := h.c1; have h2 := h.c2; have h3 := h.c3
  go_enter Try.func33, Try.ntmps33
  have m2 : ∀ o, (w.alloc o).cell? ⟨g, 2, none⟩ = some (.int .i64 (fa : Int)) := fun o => (World.cell?_alloc_lt w o _ (World.block_lt_of_cell? w _ h2)).trans h2
  have m3 : ∀ o, (w.alloc o).cell? ⟨g, 3, none⟩ = some (.int .i64 (fe : Int)) := fun o => (World.cell?_alloc_lt w o _ (World.block_lt_of_cell? w _ h3)).trans h3
  go_wp2
  refine bodyPost_ret (v := .agg #[.int .i64 (fa : Int), .int .i64 (fe : Int)]) (results_cell_row (P := Try.prog) rfl _ _ w.heap.size _ _ _ _ rfl (heap_alloc_new w _) Try.underlying72 rfl (by kernel_rfl)) rfl ⟨rfl, (Below.refl _ _).alloc (Nat.le_refl _) _⟩
end Go.Proofs.Ytgohhojoahlfiaa

/- The reader: fail. -/
namespace Go.Proofs.Ytgohhojoahlfiaa
open Go.RowKit
set_option linter.unusedVariables false

/-- Block g is a reader of the text l, at the place at_, with the fault fe noted at fa; its text is a row from block base on. -/
def Rdr (w : World) (base g : Nat) (l : List UInt8) (at_ fa fe : Nat) : Prop :=
  ∃ (A : Option Addr) (c : Nat), Rd w g A l.length c at_ fa fe ∧ w.ownsRow base 5 1 (.slice A l.length c) l.length (bcells l) ∧ (∀ k, (Value.slice A l.length c).ownBlock = some k → k ≠ g) ∧ l.length ≤ c

theorem grownSet (w : World) (p : Addr) (u : Value) : w.grownBy (w.setCell p u) (some p.block) :=
  ⟨rfl, rfl, rfl, by simp [World.setCell], fun k _ hne => Below.heap_setCell _ _ _ _ (fun e => hne (by rw [e]))⟩
theorem grownTrans {a b c : World} {row : Option Nat} (h : a.grownBy b row) (k : b.grownBy c row) : a.grownBy c row :=
  ⟨k.os.trans h.os, k.tape.trans h.tape, k.output.trans h.output, Nat.le_trans h.size k.size, fun i hi hne => (k.block i (Nat.lt_of_lt_of_le hi h.size) hne).trans (h.block i hi hne)⟩
theorem grownOf {w w' : World} {row : Option Nat} (h : Below w.heap.size w w') : w.grownBy w' row := ⟨h.os, h.tape, h.output, h.size, fun k hk _ => h.block k hk⟩
theorem grownDrew (w : World) (row : Option Nat) : w.grownBy w.drew row := ⟨rfl, rfl, rfl, Nat.le_refl _, fun _ _ _ => rfl⟩
theorem grownDrewN (w : World) (n : Nat) (row : Option Nat) : w.grownBy (w.drewN n) row := ⟨rfl, rfl, rfl, Nat.le_refl _, fun _ _ _ => rfl⟩

/-- The reader's cells are other ones now; its text stays. -/
theorem Rdr.turn {w w' : World} {base g : Nat} {l : List UInt8} {A : Option Addr} {c a2 f2 e2 : Nat} (hr : Rd w' g A l.length c a2 f2 e2) (hown : w.ownsRow base 5 1 (.slice A l.length c) l.length (bcells l)) (hne : ∀ k, (Value.slice A l.length c).ownBlock = some k → k ≠ g) (hc : l.length ≤ c) (hg : w.grownBy w' (some g)) : Rdr w' base g l a2 f2 e2 :=
  ⟨A, c, hr, hown.kept hg (.inr (fun e => hne g e rfl)), hne, hc⟩
/-- A reader that nobody writes. -/
theorem Rdr.below {w w' : World} {base g : Nat} {l : List UInt8} {at_ fa fe : Nat} (h : Rdr w base g l at_ fa fe) (hb : Below w.heap.size w w') : Rdr w' base g l at_ fa fe := by
  obtain ⟨A, c, hr, hown, hne, hc⟩ := h
  exact ⟨A, c, Blk.below hr hb (Blk.lt hr), own_below hown hb, hne, hc⟩

set_option maxHeartbeats 400000 in
theorem rdFail_any (base g : Nat) (l : List UInt8) (at_ fa fe e : Nat) (w : World) (h : Rdr w base g l at_ fa fe) :
    Calls Try.prog 71 #[.pointer (some ⟨g, 0, none⟩), .int .i64 (e : Int)] w fun x w' => x = .returned (.tuple #[]) ∧ Rdr w' base g l at_ (if fe = 0 then at_ else fa) (if fe = 0 then e else fe) ∧ w.grownBy w' (some g) := by
  obtain ⟨A, c, hr, hown, hne, hcap⟩ := h
  have h0 := hr.c0; have h1 := hr.c1; have h2 := hr.c2; have h3 := hr.c3
  have f2 := hr.fr 2; have f3 := hr.fr 3
  by_cases hfe : fe = 0
  · subst hfe
    have Hr := Lib.hid hr
    have Hown := Lib.hid hown
    clear hr hown
    go_enter Try.func71, Try.ntmps71
    go_wp2
    go_end0
    have hg := grownTrans (grownSet w ⟨g, 2, none⟩ (.int .i64 (at_ : Int))) (grownSet _ ⟨g, 3, none⟩ (.int .i64 (e : Int)))
    exact ⟨rfl, Rdr.turn (Blk.set_ (Blk.set_ Hr.out 2 (.int .i64 (at_ : Int))) 3 (.int .i64 (e : Int))) Hown.out hne hcap hg, hg⟩
  · have hfI : ((fe : Int) == 0) = false := by simp; omega
    have hfI2 : ¬ (fe : Int) = 0 := by omega
    rw [if_neg hfe, if_neg hfe]
    have Hr := Lib.hid hr
    have Hown := Lib.hid hown
    clear hr hown
    go_enter Try.func71, Try.ntmps71
    go_wp2
    go_end0
    exact ⟨rfl, ⟨A, c, Hr.out, Hown.out, hne, hcap⟩, .refl _ _⟩
end Go.Proofs.Ytgohhojoahlfiaa

/- The reader, in plain Lean: what each method answers, and the state behind it (the place, the fault's place, the fault). No program in sight. -/
namespace Go.Proofs.Ytgohhojoahlfiaa
open Go.RowKit

/-- The place, the fault's place, the fault. -/
abbrev St : Type := Nat × Nat × Nat
def failS (s : St) (e : Nat) : St := if s.2.2 = 0 then (s.1, s.1, e) else s
def cutS (l : List UInt8) (s : St) (skip n : Nat) : St × List UInt8 :=
  if s.2.2 ≠ 0 then (s, []) else if l.length < s.1 + skip + n then (failS s 2, []) else ((s.1 + skip + n, s.2.1, s.2.2), (l.drop (s.1 + skip)).take n)
def peekS (l : List UInt8) (s : St) : St × Nat × Nat :=
  if s.2.2 ≠ 0 then (s, 0, 0) else if (vgetS (l.drop s.1)).2.2 ≠ 0 then (failS s (vgetS (l.drop s.1)).2.2, 0, 0) else (s, (vgetS (l.drop s.1)).1, (vgetS (l.drop s.1)).2.1)
def getS (b : List UInt8) (big : Bool) : Nat := if big then beN b else val b
def takeS (l : List UInt8) (s : St) (n : Int) : St × List UInt8 := if n < 0 then (failS s 1, []) else cutS l s 0 n.toNat
def numS (l : List UInt8) (s : St) (n : Int) (big : Bool) : St × Nat := if n < 1 ∨ 8 < n then (failS s 1, 0) else ((cutS l s 0 n.toNat).1, getS (cutS l s 0 n.toNat).2 big)
def varS (l : List UInt8) (s : St) : St × Nat := (((peekS l s).1.1 + (peekS l s).2.2, (peekS l s).1.2), (peekS l s).2.1)
def textS (l : List UInt8) (s : St) (m : Int) : St × List UInt8 :=
  if m < 0 ∨ m < ((peekS l s).2.1 : Int) then (failS (peekS l s).1 4, []) else cutS l (peekS l s).1 (peekS l s).2.2 (peekS l s).2.1
def endS (l : List UInt8) (s : St) : St := if s.1 < l.length then failS s 3 else s

/-- What a state may be: its place lies within the text. -/
def okS (l : List UInt8) (s : St) : Prop := s.1 ≤ l.length ∧ s.2.1 ≤ l.length ∧ s.2.2 ≤ 4
section
variable {l : List UInt8} {s : St}
theorem failS_fst (s : St) (e : Nat) : (failS s e).1 = s.1 := by unfold failS; split <;> rfl
theorem ok_fail (h : okS l s) {e : Nat} (he : e ≤ 4) : okS l (failS s e) := by
  obtain ⟨h1, h2, h3⟩ := h
  unfold failS okS
  split <;> simp_all
theorem ok_cut (h : okS l s) (k n : Nat) : okS l (cutS l s k n).1 := by
  have h' := h
  obtain ⟨h1, h2, h3⟩ := h
  unfold cutS
  split
  · exact h'
  · split
    · exact ok_fail h' (by omega)
    · refine ⟨by simp only; omega, h2, h3⟩
theorem vget_le {l : List UInt8} (h : (vgetS l).2.2 = 0) : (vgetS l).2.1 ≤ l.length ∧ (vgetS l).1 < 18446744073709551616 := by
  rcases hv : vgetS l with ⟨a, b, e⟩
  rw [hv] at h
  simp only at h
  subst h
  have := vget_only hv
  exact ⟨this.2.2.1, this.1⟩
theorem vget_e (l : List UInt8) : (vgetS l).2.2 ≤ 3 := by
  rcases hv : vgetS l with ⟨a, b, e⟩
  by_cases h : e = 0
  · subst h
    exact Nat.zero_le _
  · have := (vget_bad hv h).2.2
    show e ≤ 3
    omega
theorem ok_peek (h : okS l s) : okS l (peekS l s).1 ∧ (peekS l s).1.1 = s.1 ∧ s.1 + (peekS l s).2.2 ≤ l.length ∧ (peekS l s).2.1 < 18446744073709551616 := by
  have h' := h
  obtain ⟨h1, h2, h3⟩ := h
  unfold peekS
  split
  · exact ⟨h', rfl, by simp only; omega, by simp⟩
  · split
    · exact ⟨ok_fail h' (by have := vget_e (l.drop s.1); omega), failS_fst _ _, by simp only; omega, by simp⟩
    · rename_i h5
      have := vget_le (l := l.drop s.1) (by omega)
      rw [List.length_drop] at this
      exact ⟨h', rfl, by simp only; omega, this.2⟩
theorem ok_take (h : okS l s) (n : Int) : okS l (takeS l s n).1 := by
  unfold takeS
  split
  · exact ok_fail h (by omega)
  · exact ok_cut h _ _
theorem ok_num (h : okS l s) (n : Int) (big : Bool) : okS l (numS l s n big).1 := by
  unfold numS
  split
  · exact ok_fail h (by omega)
  · exact ok_cut h _ _
theorem ok_var (h : okS l s) : okS l (varS l s).1 := by
  obtain ⟨⟨_, h2, h3⟩, h4, h5, _⟩ := ok_peek h
  exact ⟨by simp only [varS]; omega, h2, h3⟩
theorem ok_text (h : okS l s) (m : Int) : okS l (textS l s m).1 := by
  unfold textS
  split
  · exact ok_fail (ok_peek h).1 (by omega)
  · exact ok_cut (ok_peek h).1 _ _
theorem ok_end (h : okS l s) : okS l (endS l s) := by
  unfold endS
  split
  · exact ok_fail h (by omega)
  · exact h
theorem beN_lt8 {b : List UInt8} (h : b.length ≤ 8) : beN b < 18446744073709551616 := by
  have h1 := beN_lt b
  have h2 : 256 ^ b.length ≤ 256 ^ 8 := Nat.pow_le_pow_right (by omega) h
  omega
theorem getS_lt {b : List UInt8} (h : b.length ≤ 8) (big : Bool) : getS b big < 18446744073709551616 := by
  unfold getS
  split
  · exact beN_lt8 h
  · rw [← beN_reverse]; exact beN_lt8 (by simpa using h)
theorem cut_len (l : List UInt8) (s : St) (k n : Nat) : (cutS l s k n).2.length ≤ n := by
  unfold cutS
  split
  · simp
  · split
    · simp
    · simp only [List.length_take]; omega
end
end Go.Proofs.Ytgohhojoahlfiaa

/- The reader: New, fail by states. -/
namespace Go.Proofs.Ytgohhojoahlfiaa
open Go.RowKit
set_option linter.unusedVariables false

theorem own_nec {w : World} {base g : Nat} {e t : TypeId} {n : Nat} {v : Value} {xs : List Value} {cs : Array Value} (h : w.ownsRow base e 1 v n xs) (hb : Blk w g t cs) (hne : t ≠ e) : ∀ k, v.ownBlock = some k → k ≠ g := by
  intro k hk e1
  subst e1
  rcases h.2 with ⟨rfl, _⟩ | ⟨g', cap, cur, rfl, _, hh, _⟩
  · cases hk
  · have : g' = k := by simpa [Value.ownBlock] using hk
    subst this
    have hb' : w.heap[g']? = some (.cells cs t) := hb
    rw [hh] at hb'
    injection hb' with hb'
    injection hb' with _ ht
    exact hne ht.symm

/-- Block g is a reader of l in the state s. -/
def RdW (w : World) (base g : Nat) (l : List UInt8) (s : St) : Prop := Rdr w base g l s.1 s.2.1 s.2.2
theorem RdW.below {w w' : World} {base g : Nat} {l : List UInt8} {s : St} (h : RdW w base g l s) (hb : Below w.heap.size w w') : RdW w' base g l s := Rdr.below h hb

set_option maxHeartbeats 400000 in
theorem rdNew_any (A : Option Addr) (n c : Nat) (l : List UInt8) (w : World) (hn : n = l.length) (hb : BS w w.heap.size A l) (hl : n ≤ 1000000000) :
    Calls Try.prog 28 #[.slice A n c] w fun e w' => ∃ g, e = .returned (.pointer (some ⟨g, 0, none⟩)) ∧ w.heap.size ≤ g ∧ g < w'.heap.size ∧ RdW w' w.heap.size g l (0, 0, 0) ∧ Below w.heap.size w w' := by
  subst hn
  have HB := Lib.hid hb
  clear hb
  go_enter Try.func28, Try.ntmps28
  go_wp2_with fail
  refine (clone_own _ _ _ l _ rfl HB.out (by omega)).mono ?_
  rintro e w1 ⟨A', c', rfl, hown, hb1⟩
  have Hown := Lib.hid hown
  clear hown
  go_wp2
  go_ret
  have hw2 : Below w1.heap.size w1 (w1.alloc (.cells #[.slice A' l.length c', .int .i64 0, .int .i64 0, .int .i64 0] 111)) := (Below.refl _ w1).alloc (Nat.le_refl _) _
  have hbl : Rd (w1.alloc (.cells #[.slice A' l.length c', .int .i64 0, .int .i64 0, .int .i64 0] 111)) w1.heap.size A' l.length c' 0 0 0 := Blk.new _ _ _ _ rfl
  have ho := own_below Hown.out hw2
  obtain ⟨_, _, e3, h3, _⟩ := own_slice Hown.out
  injection e3 with _ _ e4
  exact ⟨_, rfl, hb1.size, by simp, ⟨A', c', hbl, ho, own_nec ho hbl (by decide), by omega⟩, hb1.trans (hw2.mono hb1.size)⟩

set_option maxHeartbeats 400000 in
theorem rdFail_st (base g : Nat) (l : List UInt8) (s : St) (e : Nat) (w : World) (h : RdW w base g l s) :
    Calls Try.prog 71 #[.pointer (some ⟨g, 0, none⟩), .int .i64 (e : Int)] w fun x w' => x = .returned (.tuple #[]) ∧ RdW w' base g l (failS s e) ∧ w.grownBy w' (some g) :=
  (rdFail_any base g l s.1 s.2.1 s.2.2 e w h).mono fun x w' ⟨h1, h2, h3⟩ => ⟨h1, by
    unfold RdW failS
    by_cases hs : s.2.2 = 0
    · rw [if_pos hs] at h2 ⊢
      rw [if_pos hs] at h2
      exact h2
    · rw [if_neg hs] at h2 ⊢
      rw [if_neg hs] at h2
      exact h2, h3⟩
end Go.Proofs.Ytgohhojoahlfiaa

/- Blocks and own rows, while another block is written. -/
namespace Go.Proofs.Ytgohhojoahlfiaa
open Go.RowKit
set_option linter.unusedVariables false

section
variable {w w' : World} {g k : Nat} {t : TypeId} {cs : Array Value}
theorem Blk.grown (h : Blk w g t cs) {row : Option Nat} (hg : w.grownBy w' row) (hne : some g ≠ row) : Blk w' g t cs := (hg.block g h.lt hne).trans h
theorem Blk.ne {t' : TypeId} {cs' : Array Value} (h : Blk w g t cs) (h' : Blk w k t' cs') (ht : t ≠ t') : g ≠ k := fun e => by
  subst e
  unfold Blk at h h'
  rw [h] at h'
  injection h' with h'
  injection h' with _ ht'
  exact ht ht'
theorem own_blk_ne {base : Nat} {e : TypeId} {size n : Nat} {v : Value} {xs : List Value} (h : w.ownsRow base e size v n xs) (hb : Blk w k t cs) (ht : t ≠ e) : v.ownBlock = none ∨ v.ownBlock ≠ some k := by
  rcases h.2 with ⟨rfl, _⟩ | ⟨g', cap, cur, rfl, _, hh, _⟩
  · exact .inl rfl
  · right
    intro e1
    have : g' = k := by simpa [Value.ownBlock] using e1
    subst this
    have hb' : w.heap[g']? = some (.cells cs t) := hb
    rw [hh] at hb'
    injection hb' with hb'
    injection hb' with _ ht'
    exact ht ht'.symm
/-- A reader, while another block of another kind is written. -/
theorem RdW.off {base : Nat} {l : List UInt8} {s : St} (h : RdW w base g l s) (hg : w.grownBy w' (some k)) (hb : Blk w k t cs) (h1 : t ≠ 111) (h2 : t ≠ 5) : RdW w' base g l s := by
  obtain ⟨A, c, hr, hown, hne, hc⟩ := h
  exact ⟨A, c, Blk.grown hr hg (fun e => by injection e with e; exact (Blk.ne hb hr h1) e.symm), hown.kept hg (own_blk_ne hown hb h2), hne, hc⟩
theorem RdW.lt {base : Nat} {l : List UInt8} {s : St} (h : RdW w base g l s) : g < w.heap.size := by
  obtain ⟨A, c, hr, _⟩ := h
  exact Blk.lt hr
end

theorem grownSetNew {w w' : World} {g : Nat} (h : w.grownBy w' (some g)) {p : Addr} (hp : w.heap.size ≤ p.block) (u : Value) : w.grownBy (w'.setCell p u) (some g) :=
  ⟨h.os, h.tape, h.output, by simpa [World.setCell] using h.size, fun k hk hne => (Below.heap_setCell _ _ _ _ (fun e => by omega)).trans (h.block k hk hne)⟩
end Go.Proofs.Ytgohhojoahlfiaa

/- The reader: cut. -/
namespace Go.Proofs.Ytgohhojoahlfiaa
open Go.RowKit
set_option linter.unusedVariables false

theorem rdLeft_st (base g : Nat) (l : List UInt8) (s : St) (w : World) (h : RdW w base g l s) (hs : okS l s) (hl : l.length ≤ 1000000000) :
    Calls Try.prog 88 #[.pointer (some ⟨g, 0, none⟩)] w fun e w' => e = .returned (.int .i64 ((l.length : Int) - (s.1 : Int))) ∧ ∃ m, w' = w.drewN m := by
  obtain ⟨A, c, hr, _⟩ := h
  exact rdLeft_any g A l.length c s.1 s.2.1 s.2.2 w hr hl hs.1

theorem below_drewN {B : Nat} {w : World} (n : Nat) : Below B w (w.drewN n) := ⟨rfl, rfl, rfl, Nat.le_refl _, fun _ _ => rfl⟩
theorem RdW.drewN {w : World} {base g : Nat} {l : List UInt8} {s : St} (h : RdW w base g l s) (m : Nat) : RdW (w.drewN m) base g l s := h.below (below_drewN m)
theorem RdW.drew {w : World} {base g : Nat} {l : List UInt8} {s : St} (h : RdW w base g l s) : RdW w.drew base g l s := h.below ((Below.refl _ w).drew)

theorem own_le {w : World} {base : Nat} {e : TypeId} {size n m c : Nat} {A : Option Addr} {xs : List Value} (h : w.ownsRow base e size (.slice A n c) m xs) : n ≤ c := by
  obtain ⟨_, _, e3, h3, _⟩ := own_slice h
  injection e3 with _ e2 e4
  omega

/-- What a method that hands bytes back leaves. -/
def CutIs (w : World) (base g : Nat) (l : List UInt8) (r : St × List UInt8) (x : Ending) (w' : World) : Prop :=
  ∃ A c, x = .returned (.slice A r.2.length c) ∧ w'.ownsRow w.heap.size 5 1 (.slice A r.2.length c) r.2.length (bcells r.2) ∧ RdW w' base g l r.1 ∧ w.grownBy w' (some g)
theorem cutIs_no {w w' : World} {base g : Nat} {l : List UInt8} {s : St} (h : RdW w' base g l s) (hg : w.grownBy w' (some g)) : CutIs w base g l (s, []) (.returned (.slice none 0 0)) w' :=
  ⟨none, 0, rfl, World.ownsRow_nil _ _ _ _, h, hg⟩
theorem cut_fault {l : List UInt8} {s : St} {k n : Nat} (h : ¬ s.2.2 = 0) : cutS l s k n = (s, []) := if_pos h
theorem cut_short {l : List UInt8} {s : St} {k n : Nat} (h : s.2.2 = 0) (h2 : l.length < s.1 + k + n) : cutS l s k n = (failS s 2, []) := by
  unfold cutS
  rw [if_neg (by omega), if_pos h2]
theorem cut_ok {l : List UInt8} {s : St} {k n : Nat} (h : s.2.2 = 0) (h2 : s.1 + k + n ≤ l.length) : cutS l s k n = ((s.1 + k + n, s.2.1, s.2.2), (l.drop (s.1 + k)).take n) := by
  unfold cutS
  rw [if_neg (by omega), if_neg (by omega)]

set_option maxHeartbeats 800000 in
set_option maxRecDepth 100000 in
theorem rdCut_any (base g : Nat) (l : List UInt8) (s : St) (k n : Nat) (w : World) (h : RdW w base g l s) (hs : okS l s) (hk : s.1 + k ≤ l.length) (hl : l.length ≤ 1000000000) (hn : n < 9223372036854775808) :
    Calls Try.prog 72 #[.pointer (some ⟨g, 0, none⟩), .int .i64 (k : Int), .int .i64 (n : Int)] w (CutIs w base g l (cutS l s k n)) := by
  obtain ⟨at_, fa, fe⟩ := s
  have H := Lib.hid h
  have Hs := Lib.hid hs
  obtain ⟨A, c, hr, hown, hne, hc⟩ := h
  have h0 := Rd.c0 hr; have h1 := Rd.c1 hr; have h2 := Rd.c2 hr; have h3 := Rd.c3 hr
  have f1 := Rd.fr hr 1
  have Hr := Lib.hid hr
  have Hown := Lib.hid hown
  have ha : at_ + k ≤ l.length := hk
  have Hne := Lib.hid hne
  clear hr hown hs hk hne
  by_cases hfe : fe = 0
  · subst hfe
    have hw1 : IntKind.i64.wrap ((l.length : Int) - (at_ : Int) - (k : Int)) = (l.length : Int) - (at_ : Int) - (k : Int) := IntWalk.i64_in _ (by omega)
    by_cases hsh : l.length < at_ + k + n
    · have hshI : (l.length : Int) - (at_ : Int) - (k : Int) < (n : Int) := by omega
      rw [cut_short (s := (at_, fa, 0)) rfl hsh]
      go_enter Try.func72, Try.ntmps72
      go_wp2_with fail
      refine (rdLeft_st base g l _ w H.out Hs.out hl).mono ?_
      rintro e w1 ⟨rfl, m, rfl⟩
      go_wp2_with fail
      refine (rdFail_st base g l (at_, fa, 0) 2 _ (H.out.drewN m)).mono ?_
      rintro e w2 ⟨rfl, hR, hg⟩
      go_wp2
      go_ret
      exact cutIs_no hR (grownTrans (grownDrewN w m _) hg)
    · have hshI : ¬ (l.length : Int) - (at_ : Int) - (k : Int) < (n : Int) := by omega
      obtain ⟨bod, hbod⟩ : ∃ bod, (l.drop (at_ + k)).take n = bod := ⟨_, rfl⟩
      obtain ⟨E, hE⟩ : ∃ E, at_ + k + n = E := ⟨_, rfl⟩
      rw [show cutS l (at_, fa, 0) k n = ((E, fa, 0), bod) by rw [cut_ok (s := (at_, fa, 0)) rfl (by show at_ + k + n ≤ _; omega), ← hbod, ← hE]]
      have hEl : E ≤ l.length := by omega
      have Hbod := Lib.hid hbod
      have HE := Lib.hid hE
      clear hbod hE
      have hw2 : IntKind.i64.wrap ((at_ : Int) + (k : Int)) = (at_ : Int) + (k : Int) := IntWalk.i64_in _ (by omega)
      obtain ⟨a, ha2⟩ : ∃ a, at_ + k = a := ⟨_, rfl⟩
      have ha3 : (at_ : Int) + (k : Int) = (a : Int) := by omega
      go_enter Try.func72, Try.ntmps72
      go_wp2_with fail
      refine (rdLeft_st base g l _ w H.out Hs.out hl).mono ?_
      rintro e w1 ⟨rfl, m, rfl⟩
      go_wp2_with fail
      have hE2 : (a : Int) + (n : Int) = (E : Int) := by have := HE.out; omega
      rw [hE2]
      have hR0 : Rd ((w.drewN m).setCell ⟨g, 1, none⟩ (.int .i64 (E : Int))) g A l.length c E fa 0 := Blk.set_ (Blk.drewN Hr.out m) 1 (.int .i64 (E : Int))
      have hg0 : w.grownBy ((w.drewN m).setCell ⟨g, 1, none⟩ (.int .i64 (E : Int))) (some g) := grownTrans (grownDrewN w m _) (grownSet _ ⟨g, 1, none⟩ (.int .i64 (E : Int)))
      generalize ((w.drewN m).setCell ⟨g, 1, none⟩ (.int .i64 (E : Int))) = W at *
      have h0' := Rd.c0 hR0
      have h1' := Rd.c1 hR0
      have HR0 := Lib.hid hR0
      have Hg0 := Lib.hid hg0
      have Hown1 := Lib.hid (Hown.out.kept hg0 (.inr (fun e => Hne.out g e rfl)))
      have ha4 : (0 : Int) ≤ (a : Int) := by omega
      have hE4 : (a : Int) ≤ (E : Int) := by omega
      have hE5 : (E : Int) ≤ (c : Int) := by omega
      clear hR0 hg0
      have HL : Hid (E - a = bod.length) := by show _ = _; have := HE.out; rw [← Hbod.out, List.length_take, List.length_drop]; omega
      have hbs : BS W.drew W.drew.heap.size (if c = a then A else A.map (·.add a)) bod := by
        obtain ⟨b1, _⟩ := BS.of_own Hown1.out
        rw [← Hbod.out, ha2]
        exact (b1.drop (k := a) (cap := c) hc).take n
      have HbP : Hid (c = a → BS W.drew W.drew.heap.size A bod) := fun e => by rw [if_pos e] at hbs; exact hbs
      have HbN : Hid (¬ c = a → BS W.drew W.drew.heap.size (A.map (·.add a)) bod) := fun e => by rw [if_neg e] at hbs; exact hbs
      have Hsz : Hid (w.heap.size ≤ W.heap.size) := Hg0.out.size
      clear hbs hE2 ha2 ha3 hw1 hw2
      go_still_tail 10, (by kernel_rfl)
      change wpList _ _ _ _ _ W.drew
      go_wp2_with fail
      all_goals
        refine (clone_own _ _ _ bod _ HL.out (by first | exact HbP.out (by assumption) | exact HbN.out (by assumption)) (by omega)).mono ?_
        rintro e w3 ⟨A3, c3, rfl, hown3, hb3⟩
        have Hown3 := Lib.hid hown3
        clear hown3
        go_wp2
        go_ret
        have hd : Below W.heap.size W W.drew := (Below.refl _ W).drew
        have h13 : Below W.heap.size W w3 := hd.trans hb3
        exact ⟨A3, c3, rfl, own_base' Hown3.out Hsz.out, Rdr.turn (Blk.below HR0.out h13 (Blk.lt HR0.out)) Hown1.out Hne.out hc (grownOf h13), grownTrans Hg0.out (grownOf h13)⟩
  · rw [cut_fault (s := (at_, fa, fe)) hfe]
    have hfI : ((fe : Int) == 0) = false := by simp; omega
    have hfI2 : ((fe : Int) != 0) = true := by simp; omega
    go_enter Try.func72, Try.ntmps72
    go_wp2
    go_ret
    exact cutIs_no H.out (.refl _ _)
end Go.Proofs.Ytgohhojoahlfiaa

/- The reader: peek. -/
namespace Go.Proofs.Ytgohhojoahlfiaa
open Go.RowKit
set_option linter.unusedVariables false

theorem quiet_left' {P : Program} {f : FuncId} {args : Array Value} {w : World} {n : Nat} {v : Value}
    (h : Calls P f args (w.drewN n) fun e w' => e = .returned v ∧ w.drewN n = w') : Calls P f args (w.drewN n) fun e w'' => e = .returned v ∧ ∃ m, w'' = w.drewN m :=
  h.mono fun _ _ ⟨he, hm⟩ => ⟨he, n, hm.symm⟩

def PeekIs (w : World) (base g : Nat) (l : List UInt8) (r : St × Nat × Nat) (x : Ending) (w' : World) : Prop :=
  x = .returned (.tuple #[.int .u64 (r.2.1 : Int), .int .i64 (r.2.2 : Int)]) ∧ RdW w' base g l r.1 ∧ w.grownBy w' (some g)

set_option maxHeartbeats 800000 in
set_option maxRecDepth 100000 in
theorem rdPeek_any (base g : Nat) (l : List UInt8) (s : St) (w : World) (h : RdW w base g l s) (hs : okS l s) (hl : l.length ≤ 1000000000) :
    Calls Try.prog 87 #[.pointer (some ⟨g, 0, none⟩)] w (PeekIs w base g l (peekS l s)) := by
  obtain ⟨at_, fa, fe⟩ := s
  have H := Lib.hid h
  obtain ⟨A, c, hr, hown, hne, hc⟩ := h
  have h0 := Rd.c0 hr; have h1 := Rd.c1 hr; have h2 := Rd.c2 hr; have h3 := Rd.c3 hr
  have Hown := Lib.hid hown
  have ha : at_ ≤ l.length := hs.1
  clear hr hown hs hne
  by_cases hfe : fe = 0
  · subst hfe
    rcases hv : vgetS (l.drop at_) with ⟨n, k, e⟩
    have Hv := Lib.hid hv
    have HL : Hid (l.length - at_ = (l.drop at_).length) := by show _ = _; rw [List.length_drop]
    have hbs : BS w w.heap.size (if c = at_ then A else A.map (·.add at_)) (l.drop at_) := (BS.of_own Hown.out).1.drop hc
    have HbP : Hid (c = at_ → BS w w.heap.size A (l.drop at_)) := fun e => by rw [if_pos e] at hbs; exact hbs
    have HbN : Hid (¬ c = at_ → BS w w.heap.size (A.map (·.add at_)) (l.drop at_)) := fun e => by rw [if_neg e] at hbs; exact hbs
    have Hm : Hid (l.length - at_ ≤ maxLen) := by show _ ≤ maxLen; unfold maxLen; omega
    have ha0 : (0 : Int) ≤ (at_ : Int) := by omega
    have ha1 : (at_ : Int) ≤ (l.length : Int) := by omega
    clear hbs hv
    by_cases he : e = 0
    · subst he
      have hx : peekS l (at_, fa, 0) = ((at_, fa, 0), n, k) := by unfold peekS; rw [if_neg (by simp)]; simp only; rw [Hv.out, if_neg (by simp)]
      rw [hx]
      clear hx
      by_cases hca : c = at_
      all_goals
        go_enter Try.func87, Try.ntmps87
        go_wp2
        go_quiet ((go_at_call 100; exact quiet_left' (get_eq _ _ _ (l.drop at_) _ _ HL.out (BS.drewN (by first | exact HbP.out (by assumption) | exact HbN.out (by assumption)) _) Hm.out Hv.out)))
        go_wp2
        go_ret2
        exact ⟨rfl, H.out.drewN _, grownDrewN _ _ _⟩
    · have he' : (e : Int) ≠ 0 := by omega
      have hbad := vget_bad Hv.out he
      obtain ⟨rfl, rfl, he2⟩ := hbad
      have hx : peekS l (at_, fa, 0) = (failS (at_, fa, 0) e, 0, 0) := by unfold peekS; rw [if_neg (by simp)]; simp only; rw [Hv.out, if_pos he]
      rw [hx]
      clear hx
      by_cases hca : c = at_
      all_goals
        go_enter Try.func87, Try.ntmps87
        go_wp2
        go_quiet ((go_at_call 100; exact quiet_left' (get_eq _ _ _ (l.drop at_) _ _ HL.out (BS.drewN (by first | exact HbP.out (by assumption) | exact HbN.out (by assumption)) _) Hm.out Hv.out)))
        go_wp2_with fail
        refine (rdFail_st base g l (at_, fa, 0) e _ (H.out.drewN _)).mono ?_
        rintro x w2 ⟨rfl, hR, hg⟩
        go_wp2
        go_ret2
        exact ⟨rfl, hR, grownTrans (grownDrewN _ _ _) hg⟩
  · have hx : peekS l (at_, fa, fe) = ((at_, fa, fe), 0, 0) := if_pos hfe
    rw [hx]
    clear hx
    have hfI : ((fe : Int) == 0) = false := by simp; omega
    have hfI2 : ((fe : Int) != 0) = true := by simp; omega
    go_enter Try.func87, Try.ntmps87
    go_wp2
    go_ret2
    exact ⟨rfl, H.out, .refl _ _⟩
end Go.Proofs.Ytgohhojoahlfiaa

/- The reader: Take, Num, Var, Text, End. -/
namespace Go.Proofs.Ytgohhojoahlfiaa
open Go.RowKit
set_option linter.unusedVariables false

theorem octGet_any (big : Bool) (A : Option Addr) (n c : Nat) (l : List UInt8) (w : World) (hn : n = l.length) (hb : BS w w.heap.size A l) (hl : n ≤ 8) (hc : n ≤ c) :
    Calls Try.prog 86 #[.slice A n c, .bool big] w fun e w' => e = .returned (.int .u64 (getS l big : Int)) ∧ Below w.heap.size w w' := by
  rcases big with _ | _
  · exact octGetLe_any A n c l w hn hb hl hc
  · exact octGetBe_any A n c l w hn hb hl hc

def NumIs (w : World) (base g : Nat) (l : List UInt8) (r : St × Nat) (x : Ending) (w' : World) : Prop :=
  x = .returned (.int .u64 (r.2 : Int)) ∧ RdW w' base g l r.1 ∧ w.grownBy w' (some g)

section
variable (base g : Nat) (l : List UInt8) (s : St) (w : World)

set_option maxHeartbeats 800000 in
set_option maxRecDepth 100000 in
theorem rdTake_any (n : Int) (h : RdW w base g l s) (hs : okS l s) (hl : l.length ≤ 1000000000) (hn : n < 9223372036854775808) :
    Calls Try.prog 30 #[.pointer (some ⟨g, 0, none⟩), .int .i64 n] w (CutIs w base g l (takeS l s n)) := by
  have H := Lib.hid h
  have Hs := Lib.hid hs
  clear h hs
  by_cases h0 : n < 0
  · rw [show takeS l s n = (failS s 1, []) from if_pos h0]
    go_enter Try.func30, Try.ntmps30
    go_wp2_with fail
    refine (rdFail_st base g l s 1 _ H.out).mono ?_
    rintro x w2 ⟨rfl, hR, hg⟩
    go_wp2
    go_ret
    exact cutIs_no hR hg
  · obtain ⟨k, rfl⟩ : ∃ k : Nat, n = (k : Int) := ⟨n.toNat, by omega⟩
    rw [show takeS l s (k : Int) = cutS l s 0 k by unfold takeS; rw [if_neg h0]; rfl]
    go_enter Try.func30, Try.ntmps30
    go_wp2_with fail
    refine (rdCut_any base g l s 0 k _ H.out Hs.out Hs.out.1 hl (by omega)).mono ?_
    rintro x w2 ⟨A, c, rfl, hown, hR, hg⟩
    have Hown := Lib.hid hown
    clear hown
    go_wp2
    go_ret
    exact ⟨A, c, rfl, Hown.out, hR, hg⟩

set_option maxHeartbeats 800000 in
set_option maxRecDepth 100000 in
theorem rdNum_any (n : Int) (big : Bool) (h : RdW w base g l s) (hs : okS l s) (hl : l.length ≤ 1000000000) :
    Calls Try.prog 56 #[.pointer (some ⟨g, 0, none⟩), .int .i64 n, .bool big] w (NumIs w base g l (numS l s n big)) := by
  have H := Lib.hid h
  have Hs := Lib.hid hs
  clear h hs
  by_cases h1 : n < 1
  · rw [show numS l s n big = (failS s 1, 0) from if_pos (.inl h1)]
    go_enter Try.func56, Try.ntmps56
    go_wp2_with fail
    refine (rdFail_st base g l s 1 _ H.out).mono ?_
    rintro x w2 ⟨rfl, hR, hg⟩
    go_wp2
    go_ret
    exact ⟨rfl, hR, hg⟩
  · by_cases h2 : 8 < n
    · rw [show numS l s n big = (failS s 1, 0) from if_pos (.inr h2)]
      go_enter Try.func56, Try.ntmps56
      go_wp2_with fail
      refine (rdFail_st base g l s 1 _ H.out).mono ?_
      rintro x w2 ⟨rfl, hR, hg⟩
      go_wp2
      go_ret
      exact ⟨rfl, hR, hg⟩
    · obtain ⟨k, rfl⟩ : ∃ k : Nat, n = (k : Int) := ⟨n.toNat, by omega⟩
      rw [show numS l s (k : Int) big = ((cutS l s 0 k).1, getS (cutS l s 0 k).2 big) by unfold numS; rw [if_neg (by omega)]; rfl]
      have hlen := cut_len l s 0 k
      obtain ⟨r, hr⟩ : ∃ r, cutS l s 0 k = r := ⟨_, rfl⟩
      rw [hr] at hlen ⊢
      have Hr := Lib.hid hr
      clear hr
      go_enter Try.func56, Try.ntmps56
      go_wp2_with fail
      refine (rdCut_any base g l s 0 k _ H.out Hs.out Hs.out.1 hl (by omega)).mono ?_
      rw [Hr.out]
      rintro x w2 ⟨A, c, rfl, hown, hR, hg⟩
      have Hb := Lib.hid (BS.of_own hown).1
      have h3 := own_le hown
      clear hown
      go_wp2_with fail
      refine (octGet_any big _ _ _ r.2 _ rfl Hb.out (by omega) (by omega)).mono ?_
      rintro x w3 ⟨rfl, hb⟩
      go_wp2
      go_ret
      exact ⟨rfl, hR.below hb, grownTrans hg (grownOf hb)⟩

set_option maxHeartbeats 800000 in
set_option maxRecDepth 100000 in
theorem rdVar_any (h : RdW w base g l s) (hs : okS l s) (hl : l.length ≤ 1000000000) :
    Calls Try.prog 58 #[.pointer (some ⟨g, 0, none⟩)] w (NumIs w base g l (varS l s)) := by
  have H := Lib.hid h
  have Hs := Lib.hid hs
  have hok := ok_peek hs
  unfold varS
  rcases hp : peekS l s with ⟨⟨at_, fa, fe⟩, n, k⟩
  rw [hp] at hok
  have Hp := Lib.hid hp
  have hk : at_ + k ≤ l.length := by have := hok.2.1; have := hok.2.2.1; simp only at *; omega
  clear h hs hok hp
  go_enter Try.func58, Try.ntmps58
  go_wp2_with fail
  refine (rdPeek_any base g l s _ H.out Hs.out hl).mono ?_
  rw [Hp.out]
  rintro x w2 ⟨rfl, hR, hg⟩
  obtain ⟨A, c, hr, hown, hne, hc⟩ := hR
  have h0 := Rd.c0 hr; have h1 := Rd.c1 hr; have h2 := Rd.c2 hr; have h3 := Rd.c3 hr
  have f1 := Rd.fr hr 1
  have Hr := Lib.hid hr
  have Hown := Lib.hid hown
  have Hne := Lib.hid hne
  have hw : IntKind.i64.wrap ((at_ : Int) + (k : Int)) = (at_ : Int) + (k : Int) := IntWalk.i64_in _ (by omega)
  clear hr hown hne
  go_wp2
  go_ret
  have hgs := grownSet w2 ⟨g, 1, none⟩ (.int .i64 ((at_ : Int) + (k : Int)))
  exact ⟨rfl, Rdr.turn (Blk.set_ Hr.out 1 (.int .i64 ((at_ : Int) + (k : Int)))) Hown.out Hne.out hc hgs, grownTrans hg hgs⟩

set_option maxHeartbeats 800000 in
set_option maxRecDepth 100000 in
theorem rdEnd_any (h : RdW w base g l s) (hs : okS l s) (hl : l.length ≤ 1000000000) :
    Calls Try.prog 60 #[.pointer (some ⟨g, 0, none⟩)] w fun x w' => x = .returned (.tuple #[]) ∧ RdW w' base g l (endS l s) ∧ w.grownBy w' (some g) := by
  have H := Lib.hid h
  have Hs := Lib.hid hs
  have ha := hs.1
  clear h hs
  by_cases h1 : s.1 < l.length
  · rw [show endS l s = failS s 3 from if_pos h1]
    have hI : (0 : Int) < (l.length : Int) - (s.1 : Int) := by omega
    go_enter Try.func60, Try.ntmps60
    go_wp2_with fail
    refine (rdLeft_st base g l s w H.out Hs.out hl).mono ?_
    rintro e w1 ⟨rfl, m, rfl⟩
    go_wp2_with fail
    refine (rdFail_st base g l s 3 _ (H.out.drewN m)).mono ?_
    rintro x w3 ⟨rfl, hR3, hg3⟩
    go_wp2
    go_end0
    exact ⟨rfl, hR3, grownTrans (grownDrewN w m _) hg3⟩
  · rw [show endS l s = s from if_neg h1]
    have hI : ¬ (0 : Int) < (l.length : Int) - (s.1 : Int) := by omega
    go_enter Try.func60, Try.ntmps60
    go_wp2_with fail
    refine (rdLeft_st base g l s w H.out Hs.out hl).mono ?_
    rintro e w1 ⟨rfl, m, rfl⟩
    go_wp2
    go_end0
    exact ⟨rfl, H.out.drewN m, grownDrewN w m _⟩
end
end Go.Proofs.Ytgohhojoahlfiaa
