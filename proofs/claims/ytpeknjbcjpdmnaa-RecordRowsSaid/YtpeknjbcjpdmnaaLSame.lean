/- The walk of wayleaveref05.Same: are two lists of texts the same. -/
import Derived.Test.YtpeknjbcjpdmnaaLists
import Derived.Test.YtpeknjbcjpdmnaaRefN
import Derived.Deep.QuietTactic
import Derived.BigQuiet
namespace Go.Proofs.Ytpeknjbcjpdmnaa
open Go.RowKit
set_option linter.unusedVariables false

theorem belowN {B : Nat} {a w : World} (h : Below B a w) (n : Nat) : Below B a (w.drewN n) := ⟨h.os, h.tape, h.output, h.size, h.block⟩
theorem take_step2 {α : Type} {xs ys : List α} {k : Nat} (h : k < xs.length) (h' : k < ys.length) (e : xs.take k = ys.take k) (e' : xs[k] = ys[k]) : xs.take (k + 1) = ys.take (k + 1) := by
  rw [List.take_add_one, List.take_add_one, e, List.getElem?_eq_getElem h, List.getElem?_eq_getElem h', e']

set_option maxHeartbeats 1600000 in
set_option maxRecDepth 100000 in
theorem rowSame_any (A : Option Addr) (n c : Nat) (ls : List (List UInt8)) (A' : Option Addr) (n' c' : Nat) (ls' : List (List UInt8)) (w : World) (hn : n = ls.length) (hn' : n' = ls'.length) (hb : LS w w.heap.size A ls) (hb' : LS w w.heap.size A' ls') (hl : n ≤ 1000000000) :
    Calls Try.prog 20 #[.slice A n c, .slice A' n' c'] w fun e w' => e = .returned (.bool (ls == ls')) ∧ Below w.heap.size w w' := by
  subst hn hn'
  have HB := Lib.hid hb
  have HB' := Lib.hid hb'
  clear hb hb'
  by_cases hlen : ls.length = ls'.length
  · have hI : ((ls.length : Nat) : Int) = ((ls'.length : Nat) : Int) := by omega
    have Hlen := Lib.hid hlen
    rw [← hlen]
    clear hlen hI
    go_enter Try.func20, Try.ntmps20
    go_wp2
    go_loopw [5] (fun i wr => ∃ (k : Nat), k ≤ ls.length ∧ i = .int .i64 (k : Int) ∧ Below w.heap.size w wr ∧ Hid (ls.take k = ls'.take k)) (fun i _ => ls.length - (intOf i).toNat)
    case atStart => exact ⟨0, by omega, rfl, Below.refl _ _, by simp [Hid]⟩
    case round =>
      obtain ⟨k, hk, rfl, hbel, heq⟩ := hrel
      by_cases hlt : k < ls.length
      · have hkI : (k : Int) < (ls.length : Int) := by omega
        have hkI0 : (0 : Int) ≤ (k : Int) := by omega
        have hlt' : k < ls'.length := by have := Hlen.out; omega
        obtain ⟨ad, A1, c1, rfl, _, hc, hcc, hbs⟩ := (HB.out.below hbel).at_ hlt
        obtain ⟨ad', A2, c2, rfl, _, hc', hcc', hbs'⟩ := (HB'.out.below hbel).at_ hlt'
        have hstep := Lib.hid (fun e => take_step2 hlt hlt' heq.out e)
        have hdiff : Hid (ls[k] ≠ ls'[k] → (ls == ls') = false) := fun h => by
          rw [beq_eq_false_iff_ne]
          intro e
          subst e
          exact h rfl
        generalize ls[k] = l1 at *
        generalize ls'[k] = l2 at *
        have hv1 : ∀ n, (convert 22 9 (.slice A1 l1.length c1)).run Try.prog (wr.drewN n) = .ok (.string ⟨l1.toArray⟩) (wr.drewN n) := fun n => conv_bs _ w.heap.size A1 l1 (hbs.drewN n) _ _ rfl
        have hv2 : ∀ n, (convert 22 9 (.slice A2 l2.length c2)).run Try.prog (wr.drewN n) = .ok (.string ⟨l2.toArray⟩) (wr.drewN n) := fun n => conv_bs _ w.heap.size A2 l2 (hbs'.drewN n) _ _ rfl
        clear hbs hbs' hcc hcc'
        go_wp2
        go_quiet (fail)
        rcases hq : (l1 == l2) with _ | _
        · have hx := hdiff.out (beq_eq_false_iff_ne.1 hq)
          go_wp2
          go_ret
          exact ⟨by rw [hx]; rfl, belowN hbel _⟩
        · have hx := hstep.out (beq_iff_eq.1 hq)
          have Hx := Lib.hid hx
          clear hx
          go_wp2
          go_roundw
          case rel => exact ⟨k + 1, by omega, by go_num, belowN hbel _, Hx.out⟩
          case measure => simp [intOf]; omega
      · have he : (ls == ls') = true := by
          have := heq.out
          rw [List.take_of_length_le (by omega), List.take_of_length_le (by have := Hlen.out; omega)] at this
          rw [beq_iff_eq]
          exact this
        have He := Lib.hid he
        clear he
        go_wp2
        go_ret
        exact ⟨by rw [He.out]; rfl, hbel⟩
  · have hI : ¬ ((ls.length : Nat) : Int) = ((ls'.length : Nat) : Int) := by omega
    have he : Hid ((ls == ls') = false) := by
      show _ = _
      rw [beq_eq_false_iff_ne]
      intro e
      subst e
      exact hlen rfl
    go_enter Try.func20, Try.ntmps20
    go_wp2
    go_ret
    exact ⟨by rw [he.out]; rfl, Below.refl _ _⟩
end Go.Proofs.Ytpeknjbcjpdmnaa
