/- perm.Prime and the document's Prime, of numbers that an int holds easily. -/
import Derived.Test.YtmkeljcjhcaigaaKA
import Derived.Test.YtmkeljcjhcaigaaProg
import Derived.WalkKit
import Derived.Outline
import Derived.Deep.LoopGhost
import Derived.IntWalk
namespace Go.Proofs.Ytmkeljcjhcaigaa
open Go.RowKit
set_option linter.unusedVariables false

/-- Is a number a prime? -/
def primeB (n : Nat) : Bool := decide (2 ≤ n ∧ ∀ d, d < n + 1 → 2 ≤ d → d * d ≤ n → n % d ≠ 0)
theorem prime_no {n d : Nat} (h2 : 2 ≤ d) (hd : d * d ≤ n) (hm : n % d = 0) : primeB n = false := by
  unfold primeB
  refine decide_eq_false fun h => h.2 d ?_ h2 hd hm
  have : d ≤ d * d := Nat.le_mul_of_pos_left _ (by omega)
  omega
theorem prime_yes {n d : Nat} (h2 : 2 ≤ n) (hd : n < d * d) (h : ∀ e, 2 ≤ e → e < d → n % e ≠ 0) : primeB n = true := by
  unfold primeB
  refine decide_eq_true ⟨h2, fun e _ he hee => h e he ?_⟩
  rcases Nat.lt_or_ge e d with h1 | h1
  · exact h1
  · have := Nat.mul_le_mul h1 h1
    omega
theorem prime_small {n : Nat} (h : n < 2) : primeB n = false := by
  unfold primeB
  exact decide_eq_false fun h2 => by omega
theorem le_div_iff {n d : Nat} (hd : 0 < d) : d ≤ n / d ↔ d * d ≤ n := Nat.le_div_iff_mul_le hd

set_option maxHeartbeats 800000 in
set_option maxRecDepth 100000 in
theorem prime_any (n : Nat) (w : World) (hn : n ≤ 1000000) :
    Calls Try.prog 39 #[.int .i64 (n : Int)] w fun e w' => e = .returned (.bool (primeB n)) ∧ w = w' := by
  by_cases h2 : n < 2
  · have h2I : (n : Int) < 2 := by omega
    rw [prime_small h2]
    go_enter Try.func39, Try.ntmps39
    go_wp2
    go_ret
    exact ⟨rfl, rfl⟩
  · have h2I : ¬ (n : Int) < 2 := by omega
    have hn2 : 2 ≤ n := by omega
    have Hn2 := Lib.hid hn2
    go_enter Try.func39, Try.ntmps39
    go_wp2
    go_loopw [3] (fun i wr => ∃ d : Nat, 2 ≤ d ∧ d ≤ n + 1 ∧ i = .int .i64 (d : Int) ∧ w = wr ∧ Hid (∀ e, 2 ≤ e → e < d → n % e ≠ 0)) (fun i _ => n + 2 - (intOf i).toNat)
    case atStart => exact ⟨2, by omega, by omega, rfl, rfl, fun e h1 h2 => by omega⟩
    case round =>
      obtain ⟨d, hd2, hdn, rfl, rfl, hat⟩ := hrel
      have hd0 : ¬ (d : Int) = 0 := by omega
      obtain ⟨q, hqn⟩ : ∃ q, q = n / d := ⟨_, rfl⟩
      obtain ⟨r, hrn⟩ : ∃ r, r = n % d := ⟨_, rfl⟩
      have hqle : n / d ≤ n := Nat.div_le_self _ _
      have hq : wrap64 ((n : Int) / (d : Int)) = (q : Int) := by
        rw [show (n : Int) / (d : Int) = ((n / d : Nat) : Int) from (Int.natCast_ediv n d).symm, ← hqn]
        unfold wrap64
        omega
      have hr : (n : Int) % (d : Int) = (r : Int) := by rw [hrn]; exact (Int.natCast_emod n d).symm
      have Hqn := Lib.hid hqn
      have Hrn := Lib.hid hrn
      clear hqn hrn hqle
      by_cases hlt : d ≤ q
      · have hltI : (d : Int) ≤ (q : Int) := by omega
        have hdd : d * d ≤ n := (le_div_iff (by omega)).1 (by rw [← Hqn.out]; exact hlt)
        have hdn2 : d ≤ n := by
          have : d ≤ d * d := Nat.le_mul_of_pos_left _ (by omega)
          omega
        have Hdd := Lib.hid hdd
        clear hdd
        by_cases hm : r = 0
        · subst hm
          have Hp := Lib.hid (prime_no hd2 Hdd.out Hrn.out.symm)
          go_wp2
          go_ret
          exact ⟨by rw [Hp.out]; rfl, rfl⟩
        · have hmI : ¬ (r : Int) = 0 := by omega
          have Hat2 : Hid (∀ e, 2 ≤ e → e < d + 1 → n % e ≠ 0) := fun e h1 h2 => by
            rcases Nat.lt_or_ge e d with h3 | h3
            · exact hat.out e h1 h3
            · obtain rfl : e = d := by omega
              rw [← Hrn.out]
              exact hm
          go_wp2
          go_roundw
          case rel => exact ⟨d + 1, by omega, by omega, by go_num, trivial, Hat2⟩
          case measure => simp [intOf]; omega
      · have hltI : ¬ (d : Int) ≤ (q : Int) := by omega
        have hdd : n < d * d := by
          rcases Nat.lt_or_ge n (d * d) with h3 | h3
          · exact h3
          · have := (le_div_iff (by omega)).2 h3
            rw [← Hqn.out] at this
            omega
        have Hp := Lib.hid (prime_yes Hn2.out hdd hat.out)
        clear hdd
        go_wp2
        go_ret
        exact ⟨by rw [Hp.out]; rfl, rfl⟩

set_option maxHeartbeats 800000 in
set_option maxRecDepth 100000 in
theorem refPrime_any (n : Nat) (w : World) (hn : n ≤ 1000000) :
    Calls Try.prog 41 #[.int .i64 (n : Int)] w fun e w' => e = .returned (.bool (primeB n)) ∧ w = w' := by
  by_cases h2 : n < 2
  · have h2I : (n : Int) < 2 := by omega
    rw [prime_small h2]
    go_enter Try.func41, Try.ntmps41
    go_wp2
    go_ret
    exact ⟨rfl, rfl⟩
  · have h2I : ¬ (n : Int) < 2 := by omega
    have hn2 : 2 ≤ n := by omega
    have Hn2 := Lib.hid hn2
    go_enter Try.func41, Try.ntmps41
    go_wp2
    go_loopw [3] (fun i wr => ∃ d : Nat, 2 ≤ d ∧ d ≤ n + 1 ∧ i = .int .i64 (d : Int) ∧ w = wr ∧ Hid (∀ e, 2 ≤ e → e < d → n % e ≠ 0)) (fun i _ => n + 2 - (intOf i).toNat)
    case atStart => exact ⟨2, by omega, by omega, rfl, rfl, fun e h1 h2 => by omega⟩
    case round =>
      obtain ⟨d, hd2, hdn, rfl, rfl, hat⟩ := hrel
      have hd0 : ¬ (d : Int) = 0 := by omega
      obtain ⟨q, hqn⟩ : ∃ q, q = d * d := ⟨_, rfl⟩
      obtain ⟨r, hrn⟩ : ∃ r, r = n % d := ⟨_, rfl⟩
      have hqle : d * d ≤ 1000001 * 1000001 := Nat.mul_le_mul (by omega) (by omega)
      have hq : (d : Int) * (d : Int) = (q : Int) := by rw [hqn]; exact (Int.natCast_mul d d).symm
      have hq64 : wrap64 (q : Int) = (q : Int) := by unfold wrap64; omega
      have hr : (n : Int) % (d : Int) = (r : Int) := by rw [hrn]; exact (Int.natCast_emod n d).symm
      have Hqn := Lib.hid hqn
      have Hrn := Lib.hid hrn
      clear hqn hrn hqle
      by_cases hlt : q ≤ n
      · have hltI : (q : Int) ≤ (n : Int) := by omega
        have hdd : d * d ≤ n := by rw [← Hqn.out]; exact hlt
        have hdn2 : d ≤ n := by
          have : d ≤ d * d := Nat.le_mul_of_pos_left _ (by omega)
          omega
        have Hdd := Lib.hid hdd
        clear hdd
        by_cases hm : r = 0
        · subst hm
          have Hp := Lib.hid (prime_no hd2 Hdd.out Hrn.out.symm)
          go_wp2
          go_ret
          exact ⟨by rw [Hp.out]; rfl, rfl⟩
        · have hmI : ¬ (r : Int) = 0 := by omega
          have Hat2 : Hid (∀ e, 2 ≤ e → e < d + 1 → n % e ≠ 0) := fun e h1 h2 => by
            rcases Nat.lt_or_ge e d with h3 | h3
            · exact hat.out e h1 h3
            · obtain rfl : e = d := by omega
              rw [← Hrn.out]
              exact hm
          go_wp2
          go_roundw
          case rel => exact ⟨d + 1, by omega, by omega, by go_num, trivial, Hat2⟩
          case measure => simp [intOf]; omega
      · have hltI : ¬ (q : Int) ≤ (n : Int) := by omega
        have hdd : n < d * d := by rw [← Hqn.out]; omega
        have Hp := Lib.hid (prime_yes Hn2.out hdd hat.out)
        clear hdd
        go_wp2
        go_ret
        exact ⟨by rw [Hp.out]; rfl, rfl⟩
end Go.Proofs.Ytmkeljcjhcaigaa
