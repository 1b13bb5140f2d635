/- The reader: items; may, check. -/
import Derived.Test.YtpeknjbcjpdmnabRdM
import Derived.Test.YtpeknjbcjpdmnabPieces
import Derived.WalkLawsBesides
namespace Go.Proofs.Ytpeknjbcjpdmnab
open Go.RowKit
set_option linter.unusedVariables false

def itemV (x : Item) : Value := .agg #[.int .i64 x.1, .int .i64 x.2.1, .bool x.2.2]
def mayB (x : Item) : Bool := if x.1 = 1 then decide (1 ≤ x.2.1 ∧ x.2.1 ≤ 8) else if x.1 = 3 ∨ x.1 = 4 then decide (0 ≤ x.2.1) else decide (x.1 = 2)

set_option maxHeartbeats 800000 in
set_option maxRecDepth 100000 in
theorem may_any (k n : Int) (big : Bool) (w : World) (b : Bool) (h : mayB (k, n, big) = b) :
    Calls Try.prog 40 #[.agg #[.int .i64 k, .int .i64 n, .bool big]] w fun e w' => e = .returned (.bool b) ∧ Below w.heap.size w w' := by
  subst h
  unfold mayB
  simp only
  by_cases h1 : k = 1
  · subst h1
    rw [if_pos rfl]
    by_cases h2 : 1 ≤ n
    · by_cases h3 : n ≤ 8
      · rw [decide_eq_true ⟨h2, h3⟩]
        go_enter Try.func40, Try.ntmps40
        go_wp2
        go_ret
        exact ⟨rfl, (Below.refl _ _).alloc (Nat.le_refl _) _⟩
      · rw [decide_eq_false (fun h => h3 h.2)]
        go_enter Try.func40, Try.ntmps40
        go_wp2
        go_ret
        exact ⟨rfl, (Below.refl _ _).alloc (Nat.le_refl _) _⟩
    · rw [decide_eq_false (fun h => h2 h.1)]
      go_enter Try.func40, Try.ntmps40
      go_wp2
      go_ret
      exact ⟨rfl, (Below.refl _ _).alloc (Nat.le_refl _) _⟩
  · rw [if_neg h1]
    have g1 : (k == 1) = false := by simp; exact h1
    by_cases h3 : k = 3
    · subst h3
      rw [if_pos (.inl rfl)]
      go_enter Try.func40, Try.ntmps40
      go_wp2
      go_ret
      exact ⟨rfl, (Below.refl _ _).alloc (Nat.le_refl _) _⟩
    · have g3 : (k == 3) = false := by simp; exact h3
      by_cases h4 : k = 4
      · subst h4
        rw [if_pos (.inr rfl)]
        go_enter Try.func40, Try.ntmps40
        go_wp2
        go_ret
        exact ⟨rfl, (Below.refl _ _).alloc (Nat.le_refl _) _⟩
      · have g4 : (k == 4) = false := by simp; exact h4
        rw [if_neg (by omega)]
        have ge : ∀ d : Bool, decide (k = 2) = d → (k == 2) = d := fun d h => by rw [← h]; rfl
        rcases hd : decide (k = 2) with _ | _
        all_goals
          have g2 := ge _ hd
          clear ge hd
          go_enter Try.func40, Try.ntmps40
          go_wp2
          go_ret
          exact ⟨rfl, (Below.refl _ _).alloc (Nat.le_refl _) _⟩

def spotV (s : St) : Value := .agg #[.int .i64 (s.2.1 : Int), .int .i64 (s.2.2 : Int)]
def spotPanic (s : St) : Ending := .panicked [{ v := .iface 28 (spotV s), recovered := false }]

set_option maxHeartbeats 800000 in
set_option maxRecDepth 100000 in
theorem check_ok (base g : Nat) (l : List UInt8) (s : St) (w : World) (h : RdW w base g l s) (h0 : s.2.2 = 0) :
    Calls Try.prog 38 #[.pointer (some ⟨g, 0, none⟩)] w fun e w' => e = .returned (.tuple #[]) ∧ w = w' := by
  obtain ⟨at_, fa, fe⟩ := s
  simp only at h0
  subst h0
  obtain ⟨A, c, hr, hown, hne, hc⟩ := h
  have h3 := Rd.c3 hr
  clear hr hown hne
  go_enter Try.func38, Try.ntmps38
  go_wp2
  go_end0
  exact ⟨rfl, rfl⟩

set_option maxHeartbeats 800000 in
set_option maxRecDepth 100000 in
theorem check_bad (base g : Nat) (l : List UInt8) (s : St) (w : World) (h : RdW w base g l s) (h0 : s.2.2 ≠ 0) :
    Calls Try.prog 38 #[.pointer (some ⟨g, 0, none⟩)] w fun e w' => e = spotPanic s ∧ w = w' := by
  obtain ⟨at_, fa, fe⟩ := s
  simp only at h0
  obtain ⟨A, c, hr, hown, hne, hc⟩ := h
  have h2 := Rd.c2 hr
  have h3 := Rd.c3 hr
  have hfI : ((fe : Int) == 0) = false := by simp; omega
  have hfI2 : ((fe : Int) != 0) = true := by simp; omega
  clear hr hown hne
  go_enter Try.func38, Try.ntmps38
  go_wp2
  exact ⟨rfl, rfl, rfl⟩
end Go.Proofs.Ytpeknjbcjpdmnab
