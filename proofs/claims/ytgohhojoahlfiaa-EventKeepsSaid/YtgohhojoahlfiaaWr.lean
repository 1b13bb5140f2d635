/- The writer: its words in memory; NewWriter, Bytes, Var, Out. -/
import Derived.Test.YtgohhojoahlfiaaK2
import Derived.Test.YtgohhojoahlfiaaKV
namespace Go.Proofs.Ytgohhojoahlfiaa
open Go.RowKit
set_option linter.unusedVariables false

/-- What is written, and the fault. -/
abbrev WSt : Type := List UInt8 × Nat
def bytesS (most : Nat) (s : WSt) (b : List UInt8) : WSt := if s.2 ≠ 0 then s else if most < s.1.length + b.length then (s.1, 4) else (s.1 ++ b, 0)

/-- Block g is a writer in the state s, its bytes the row '.slice A _ c' of the call's own, from block base on. -/
def Wtr (w : World) (base g : Nat) (A : Option Addr) (c most : Nat) (s : WSt) : Prop :=
  Blk w g 117 #[.slice A s.1.length c, .int .i64 (most : Int), .int .i64 (s.2 : Int)] ∧ w.ownsRow base 5 1 (.slice A s.1.length c) s.1.length (bcells s.1) ∧ base ≤ g

/-- All but block g, and block r if there is one, is as it was. -/
def Off2 (w w' : World) (g : Nat) (r : Option Nat) : Prop :=
  w'.os = w.os ∧ w'.tape = w.tape ∧ w'.output = w.output ∧ w.heap.size ≤ w'.heap.size ∧ ∀ k, k < w.heap.size → k ≠ g → some k ≠ r → w'.heap[k]? = w.heap[k]?
theorem Off2.refl (w : World) (g : Nat) (r : Option Nat) : Off2 w w g r := ⟨rfl, rfl, rfl, Nat.le_refl _, fun _ _ _ _ => rfl⟩
theorem Off2.trans {a b c : World} {g : Nat} {r : Option Nat} (h : Off2 a b g r) (k : Off2 b c g r) : Off2 a c g r :=
  ⟨k.1.trans h.1, k.2.1.trans h.2.1, k.2.2.1.trans h.2.2.1, Nat.le_trans h.2.2.2.1 k.2.2.2.1, fun i hi h1 h2 => (k.2.2.2.2 i (Nat.lt_of_lt_of_le hi h.2.2.2.1) h1 h2).trans (h.2.2.2.2 i hi h1 h2)⟩
theorem Off2.of_grown {w w' : World} {g : Nat} {r : Option Nat} (h : w.grownBy w' r) : Off2 w w' g r := ⟨h.os, h.tape, h.output, h.size, fun k hk _ h2 => h.block k hk h2⟩
theorem Off2.of_g {w w' : World} {g : Nat} {r : Option Nat} (h : w.grownBy w' (some g)) : Off2 w w' g r := ⟨h.os, h.tape, h.output, h.size, fun k hk h1 _ => h.block k hk (fun e => by injection e with e; exact h1 e)⟩
theorem Off2.of_below {w w' : World} {g : Nat} {r : Option Nat} (h : Below w.heap.size w w') : Off2 w w' g r := ⟨h.os, h.tape, h.output, h.size, fun k hk _ _ => h.block k hk⟩
theorem Off2.below {w w' : World} {g : Nat} {r : Option Nat} {B : Nat} (h : Off2 w w' g r) (hg : B ≤ g) (hr : ∀ k, r = some k → B ≤ k) (hB : B ≤ w.heap.size) : Below B w w' :=
  ⟨h.1, h.2.1, h.2.2.1, h.2.2.2.1, fun k hk => h.2.2.2.2 k (by omega) (by omega) (fun e => by have := hr k e.symm; omega)⟩
theorem Off2.own {w w' : World} {g : Nat} {r : Option Nat} (h : Off2 w w' g r) {base : Nat} {e : TypeId} {size n : Nat} {v : Value} {xs : List Value} (ho : w.ownsRow base e size v n xs) (h1 : v.ownBlock ≠ some g) (h2 : v.ownBlock = none ∨ v.ownBlock ≠ r) : w'.ownsRow base e size v n xs := by
  refine ⟨ho.1, ?_⟩
  rcases ho.2 with hn | ⟨k, cap, cur, rfl, hb, hgg, rest⟩
  · exact .inl hn
  · refine .inr ⟨k, cap, cur, rfl, hb, ?_, rest⟩
    have hk : k < w.heap.size := Blk.lt (w := w) (g := k) (t := e) (cs := cur) hgg
    rw [h.2.2.2.2 k hk (fun e => h1 (by rw [e]; rfl)) (fun e => by
      rcases h2 with h2 | h2
      · simp [Value.ownBlock] at h2
      · exact h2 e)]
    exact hgg
theorem Off2.blk {w w' : World} {g : Nat} {r : Option Nat} (h : Off2 w w' g r) {k : Nat} {t : TypeId} {cs : Array Value} (hb : Blk w k t cs) (h1 : k ≠ g) (h2 : some k ≠ r) : Blk w' k t cs := (h.2.2.2.2 k hb.lt h1 h2).trans hb

def WtrIs (w : World) (base g : Nat) (A : Option Addr) (most : Nat) (s : WSt) (x : Ending) (w' : World) : Prop :=
  x = .returned (.tuple #[]) ∧ ∃ A' c', Wtr w' base g A' c' most s ∧ Off2 w w' g (Value.slice A 0 0).ownBlock ∧ ((Value.slice A' 0 0).ownBlock = (Value.slice A 0 0).ownBlock ∨ ∃ k, (Value.slice A' 0 0).ownBlock = some k ∧ w.heap.size ≤ k)

theorem Wtr.below {w w' : World} {base g : Nat} {A : Option Addr} {c most : Nat} {s : WSt} (h : Wtr w base g A c most s) (hb : Below w.heap.size w w') : Wtr w' base g A c most s :=
  ⟨Blk.below h.1 hb h.1.lt, own_below h.2.1 hb, h.2.2⟩

set_option maxHeartbeats 800000 in
set_option maxRecDepth 100000 in
theorem newWriter_any (m : Int) (w : World) (hm : m < 9223372036854775808) :
    Calls Try.prog 43 #[.int .i64 m] w fun e w' => e = .returned (.pointer (some ⟨w.heap.size, 0, none⟩)) ∧ Wtr w' w.heap.size w.heap.size none 0 m.toNat ([], 0) ∧ Below w.heap.size w w' := by
  by_cases h0 : m < 0
  · have hmx : max m 0 = 0 := by omega
    have ht : m.toNat = 0 := by omega
    rw [ht]
    go_enter Try.func43, Try.ntmps43
    go_wp2
    go_ret
    exact ⟨rfl, ⟨Blk.new w _ _ _ rfl, World.ownsRow_nil _ _ _ _, Nat.le_refl _⟩, (Below.refl _ _).alloc (Nat.le_refl _) _⟩
  · obtain ⟨k, rfl⟩ : ∃ k : Nat, m = (k : Int) := ⟨m.toNat, by omega⟩
    have hmx : max (k : Int) 0 = (k : Int) := by omega
    go_enter Try.func43, Try.ntmps43
    go_wp2
    go_ret
    exact ⟨rfl, ⟨Blk.new w _ _ _ rfl, World.ownsRow_nil _ _ _ _, Nat.le_refl _⟩, (Below.refl _ _).alloc (Nat.le_refl _) _⟩
end Go.Proofs.Ytgohhojoahlfiaa
