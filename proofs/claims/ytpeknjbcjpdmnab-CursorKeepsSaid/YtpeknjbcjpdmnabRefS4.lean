/- The walks of wayleaveref04.Same and wayleaveref04.Few. -/
import Derived.Test.YtpeknjbcjpdmnabPieces
import Derived.Test.YtpeknjbcjpdmnabProg
import Derived.WalkKit
import Derived.Outline
import Derived.IntWalk
import Derived.Deep.QuietTactic
import Derived.BigQuiet
namespace Go.Proofs.Ytpeknjbcjpdmnab
open Go.RowKit
set_option linter.unusedVariables false

theorem belowN {B : Nat} {a w : World} (h : Below B a w) (n : Nat) : Below B a (w.drewN n) := ⟨h.os, h.tape, h.output, h.size, h.block⟩
theorem take_step3 {α : Type} {xs : List α} {k : Nat} (h : k < xs.length) : xs.take (k + 1) = xs.take k ++ [xs[k]] := by
  rw [List.take_add_one, List.getElem?_eq_getElem h]; rfl
theorem take_step2 {α : Type} {xs ys : List α} {k : Nat} (h : k < xs.length) (h' : k < ys.length) (e : xs.take k = ys.take k) (e' : xs[k] = ys[k]) : xs.take (k + 1) = ys.take (k + 1) := by
  rw [take_step3 h, take_step3 h', e, e']

set_option maxHeartbeats 3200000 in
set_option maxRecDepth 100000 in
theorem sameP_any (A : Option Addr) (n c : Nat) (ls : List Piece) (A' : Option Addr) (n' c' : Nat) (ls' : List Piece) (w : World) (hn : n = ls.length) (hn' : n' = ls'.length) (hb : PS w w.heap.size A ls) (hb' : PS w w.heap.size A' ls') (hl : n ≤ 1000000000) :
    Calls Try.prog 13 #[.slice A n c, .slice A' n' c'] w fun e w' => e = .returned (.bool (ls == ls')) ∧ Below w.heap.size w w' := by
  subst hn hn'
  have HB := Lib.hid hb
  have HB' := Lib.hid hb'
  clear hb hb'
  by_cases hlen : ls.length = ls'.length
  · have hI : ((ls.length : Nat) : Int) = ((ls'.length : Nat) : Int) := by omega
    have Hlen := Lib.hid hlen
    rw [← hlen]
    clear hlen hI
    go_enter Try.func13, Try.ntmps13
    go_wp2
    go_loopw [5] (fun i wr => ∃ (k : Nat), k ≤ ls.length ∧ i = .int .i64 (k : Int) ∧ Below w.heap.size w wr ∧ Hid (ls.take k = ls'.take k)) (fun i _ => ls.length - (intOf i).toNat)
    case atStart => exact ⟨0, by omega, rfl, Below.refl _ _, by simp [Hid]⟩
    case round =>
      obtain ⟨k, hk, rfl, hbel, heq⟩ := hrel
      by_cases hlt : k < ls.length
      · have hkI : (k : Int) < (ls.length : Int) := by omega
        have hkI0 : (0 : Int) ≤ (k : Int) := by omega
        have hlt' : k < ls'.length := by have := Hlen.out; omega
        obtain ⟨ad, A1, c1, rfl, _, ha, hc, hcc, hbs⟩ := (HB.out.below hbel).whole hlt
        obtain ⟨ad', A2, c2, rfl, _, ha', hc', hcc', hbs'⟩ := (HB'.out.below hbel).whole hlt'
        have hstep := Lib.hid (fun e => take_step2 hlt hlt' heq.out e)
        have hdiff : Hid (ls[k] ≠ ls'[k] → (ls == ls') = false) := fun h => by
          rw [beq_eq_false_iff_ne]
          intro e
          subst e
          exact h rfl
        rcases hp1 : ls[k] with ⟨q1, l1⟩
        rcases hp2 : ls'[k] with ⟨q2, l2⟩
        rw [hp1] at ha hc hcc hbs
        rw [hp2] at ha' hc' hcc' hbs'
        simp only at ha hc hcc hbs ha' hc' hcc' hbs'
        have Hp1 := Lib.hid hp1
        have Hp2 := Lib.hid hp2
        have hv1 : ∀ n, (convert 22 9 (.slice A1 l1.length c1)).run Try.prog (wr.drewN n) = .ok (.string ⟨l1.toArray⟩) (wr.drewN n) := fun n => run_convert_bs (P := Try.prog) 22 9 5 Try.underlying22 Try.underlying5 Try.underlying9 _ w.heap.size A1 l1 (hbs.drewN n) _ _ rfl
        have hv2 : ∀ n, (convert 22 9 (.slice A2 l2.length c2)).run Try.prog (wr.drewN n) = .ok (.string ⟨l2.toArray⟩) (wr.drewN n) := fun n => run_convert_bs (P := Try.prog) 22 9 5 Try.underlying22 Try.underlying5 Try.underlying9 _ w.heap.size A2 l2 (hbs'.drewN n) _ _ rfl
        clear hbs hbs' hcc hcc' hp1 hp2
        by_cases hqq : q1 = q2
        · subst hqq
          have hqI : ((q1 : Int) != (q1 : Int)) = false := by simp
          go_wp2
          go_quiet (fail)
          rcases hq : (l1 == l2) with _ | _
          · have hx := hdiff.out (by rw [Hp1.out, Hp2.out]; intro e; injection e with _ e; exact (beq_eq_false_iff_ne.1 hq) e)
            go_wp2
            go_ret
            exact ⟨by rw [hx]; rfl, belowN hbel _⟩
          · have hx := hstep.out (by rw [Hp1.out, Hp2.out, beq_iff_eq.1 hq])
            have Hx := Lib.hid hx
            clear hx
            go_wp2
            go_roundw
            case rel => exact ⟨k + 1, by omega, by go_num, belowN hbel _, Hx.out⟩
            case measure => simp [intOf]; omega
        · have hqI : ((q1 : Int) != (q2 : Int)) = true := by simp; omega
          have hx := hdiff.out (by rw [Hp1.out, Hp2.out]; intro e; injection e with e _; exact hqq e)
          have Hx := Lib.hid hx
          clear hx hqq
          go_wp2
          go_quiet (fail)
          go_wp2
          go_ret
          exact ⟨by rw [Hx.out]; rfl, belowN hbel _⟩
      · have he : (ls == ls') = true := by
          have := heq.out
          rw [List.take_of_length_le (by omega), List.take_of_length_le (by have := Hlen.out; omega)] at this
          rw [beq_iff_eq]
          exact this
        have He := Lib.hid he
        clear he
        go_wp2
        go_ret
        exact ⟨by rw [He.out]; rfl, hbel⟩
  · have hI : ¬ ((ls.length : Nat) : Int) = ((ls'.length : Nat) : Int) := by omega
    have hI2 : (((ls.length : Nat) : Int) != ((ls'.length : Nat) : Int)) = true := by simp; omega
    have he : Hid ((ls == ls') = false) := by
      show _ = _
      rw [beq_eq_false_iff_ne]
      intro e
      subst e
      exact hlen rfl
    clear hlen
    go_enter Try.func13, Try.ntmps13
    go_wp2
    go_ret
    exact ⟨by rw [he.out]; rfl, Below.refl _ _⟩

/-- Few pieces, and short. -/
def fewP (ls : List Piece) : Bool := decide (ls.length ≤ 40) && ls.all fun p => decide (p.2.length ≤ 300)

set_option maxHeartbeats 1600000 in
set_option maxRecDepth 100000 in
theorem fewP_any (A : Option Addr) (n c : Nat) (ls : List Piece) (w : World) (hn : n = ls.length) (hb : PS w w.heap.size A ls) (hl : n ≤ maxLen) :
    Calls Try.prog 14 #[.slice A n c] w fun e w' => e = .returned (.bool (fewP ls)) ∧ w = w' := by
  subst hn
  have hl' : ls.length ≤ 9223372036854775807 := by unfold maxLen at hl; omega
  have HB := Lib.hid hb
  clear hb
  go_enter Try.func14, Try.ntmps14
  go_wp2
  go_loop [3] (fun i => ∃ (k : Nat), k ≤ ls.length ∧ k ≤ 100 ∧ i = .int .i64 (k : Int) ∧ Hid (∀ p ∈ ls.take k, p.2.length ≤ 300)) (fun i => ls.length - (intOf i).toNat)
  case atStart => exact ⟨0, by omega, by omega, rfl, by simp [Hid]⟩
  case round =>
    obtain ⟨k, hk, hk50, rfl, heq⟩ := hrel
    by_cases hlt : k < ls.length
    · have hkI : (k : Int) < (ls.length : Int) := by omega
      have hkI0 : (0 : Int) ≤ (k : Int) := by omega
      by_cases h50 : k < 100
      · have h50I : (k : Int) < 100 := by omega
        obtain ⟨ad, A1, c1, rfl, _, _, hc, hcc, hbs⟩ := HB.out.whole hlt
        have hge : ls[k] ∈ ls := List.getElem_mem hlt
        have hbig : Hid (300 < (ls[k]).2.length → fewP ls = false) := fun h => by
          rw [fewP, Bool.and_eq_false_iff]
          right
          rw [List.all_eq_false]
          exact ⟨_, hge, by simp; omega⟩
        have hstep : Hid ((ls[k]).2.length ≤ 300 → ∀ p ∈ ls.take (k + 1), p.2.length ≤ 300) := fun h l hl => by
          rw [take_step3 hlt, List.mem_append] at hl
          rcases hl with hl | hl
          · exact heq.out l hl
          · simp at hl
            subst hl
            exact h
        clear hge hbs hcc
        generalize (ls[k]).2.length = L at *
        by_cases hL : 300 < L
        · have hLI : (300 : Int) < (L : Int) := by omega
          have hx := hbig.out hL
          go_wp2
          go_ret
          exact ⟨rfl, rfl⟩
        · have hLI : ¬ (300 : Int) < (L : Int) := by omega
          have Hx := Lib.hid (hstep.out (by omega))
          go_wp2
          go_round
          case rel => exact ⟨k + 1, by omega, by omega, by go_num, Hx.out⟩
          case measure => simp [intOf]; omega
      · have h50I : ¬ (k : Int) < 100 := by omega
        have hx : fewP ls = false := by
          rw [fewP, Bool.and_eq_false_iff]
          left
          simp
          omega
        have Hx := Lib.hid hx
        have h40 : ¬ (ls.length : Int) ≤ 40 := by omega
        clear hx
        go_wp2
        go_ret
        exact ⟨by rw [Hx.out]; rfl, rfl⟩
    · obtain rfl : k = ls.length := by omega
      have hx : fewP ls = decide ((ls.length : Int) ≤ 40) := by
        have h1 := heq.out
        rw [List.take_of_length_le (Nat.le_refl _)] at h1
        rw [fewP, List.all_eq_true.2 (fun p hp => by simpa using h1 p hp), Bool.and_true]
        exact decide_eq_decide.2 (by omega)
      have Hx := Lib.hid hx
      clear hx
      go_wp2
      go_ret
      exact ⟨by rw [Hx.out]; rfl, rfl⟩
end Go.Proofs.Ytpeknjbcjpdmnab
