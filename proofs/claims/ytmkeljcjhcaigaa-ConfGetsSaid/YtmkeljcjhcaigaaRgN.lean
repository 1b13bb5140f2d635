/- The document's 'num' of a config; what the walk of its Get knows. -/
import Derived.Test.YtmkeljcjhcaigaaRgP
import Derived.Test.YtmkeljcjhcaigaaRPut
import Derived.Test.YtmkeljcjhcaigaaVm
namespace Go.Proofs.Ytmkeljcjhcaigaa
open Go.RowKit
set_option linter.unusedVariables false
set_option linter.unusedSimpArgs false

theorem belowN {B : Nat} {a w : World} (h : Below B a w) (n : Nat) : Below B a (w.drewN n) := ⟨h.os, h.tape, h.output, h.size, h.block⟩
set_option maxRecDepth 100000 in
theorem rnum_no (A : Option Addr) (n c : Nat) (l : List UInt8) (w : World) (hn : n = l.length) (hc : n ≤ c) (hb : BS w w.heap.size A l) (hl : n ≤ 1000000000) (h : rnumS l = none) :
    Calls Try.prog 48 #[.slice A n c] w fun e w' => e = .returned (.tuple #[.int .i64 0, .slice none 0 0, .bool false]) ∧ Below w.heap.size w w' := by
  subst hn
  rcases hv : vgetS l with ⟨a, b, e⟩
  unfold rnumS at h
  rw [hv] at h
  simp only at h
  have hbad : ¬ (e = 0 ∧ a ≤ 1048577) := fun hh => by rw [if_pos hh] at h; cases h
  clear h
  have Hg := Lib.hid (refGet_eq A _ c l w w.heap.size rfl hb (by unfold maxLen; omega) hv)
  clear hb hv
  go_enter Try.func48, Try.ntmps48
  go_wp2_with fail
  refine Hg.out.mono ?_
  rintro x w2 ⟨rfl, rfl⟩
  by_cases he : e = 0
  · subst he
    have haI : (1048577 : Int) < (a : Int) := by omega
    clear hbad Hg
    go_wp2
    go_ret3
    exact ⟨rfl, Below.refl _ _⟩
  · have heI : ((e : Int) == 0) = false := beq_eq_false_iff_ne.2 (by omega)
    have heN : ¬ (e : Int) = 0 := by omega
    clear hbad he Hg
    go_wp2
    go_ret3
    exact ⟨rfl, Below.refl _ _⟩
set_option maxRecDepth 100000 in
theorem rnum_yes (A : Option Addr) (n c : Nat) (l : List UInt8) (w : World) (hn : n = l.length) (hc : n ≤ c) (hb : BS w w.heap.size A l) (hl : n ≤ 1000000000) {m : Nat} {r : List UInt8} (h : rnumS l = some (m, r)) :
    Calls Try.prog 48 #[.slice A n c] w fun e w' => ∃ A' c', e = .returned (.tuple #[.int .i64 (m : Int), .slice A' r.length c', .bool true]) ∧ (∀ (w0 : World) (B : Nat), BS w0 B A l → BS w0 B A' r) ∧ r.length ≤ c' ∧ Below w.heap.size w w' := by
  subst hn
  rcases hv : vgetS l with ⟨a, b, e⟩
  unfold rnumS at h
  rw [hv] at h
  simp only at h
  split at h
  · rename_i hh
    obtain ⟨rfl, ha⟩ := hh
    simp only [Option.some.injEq, Prod.mk.injEq] at h
    obtain ⟨rfl, rfl⟩ := h
    obtain ⟨h1, h2, h3, -, -⟩ := vget_only hv
    have Hg := Lib.hid (refGet_eq A _ c l w w.heap.size rfl hb (by unfold maxLen; omega) hv)
    have hd : ∀ (w0 : World) (B : Nat), BS w0 B A l → BS w0 B (if c = b then A else A.map (·.add b)) (l.drop b) := fun w0 B h => h.drop (k := b) hc
    have hdl : Hid ((l.drop b).length = l.length - b) := by show _ = _; rw [List.length_drop]
    clear hb hv
    have hbI : (b : Int) ≤ (c : Int) := by omega
    have haI : ¬ (1048577 : Int) < (a : Int) := by omega
    by_cases hcb : c = b
    · simp only [if_pos hcb] at hd
      have Hd := Lib.hid hd
      subst hcb
      clear hd
      go_enter Try.func48, Try.ntmps48
      go_wp2_with fail
      refine Hg.out.mono ?_
      rintro x w2 ⟨rfl, rfl⟩
      clear Hg
      go_wp2
      go_quiet (fail)
      go_wp2
      go_ret3
      have h0 : (l.drop c).length = 0 := by rw [hdl.out]; omega
      exact ⟨A, 0, by rw [h0]; rfl, Hd.out, by rw [h0]; omega, belowN (Below.refl _ _) _⟩
    · simp only [if_neg hcb] at hd
      have Hd := Lib.hid hd
      clear hd
      go_enter Try.func48, Try.ntmps48
      go_wp2_with fail
      refine Hg.out.mono ?_
      rintro x w2 ⟨rfl, rfl⟩
      clear Hg
      go_wp2
      go_quiet (fail)
      go_wp2
      go_ret3
      exact ⟨A.map (·.add b), c - b, by rw [hdl.out]; rfl, Hd.out, by rw [hdl.out]; omega, belowN (Below.refl _ _) _⟩
  · cases h
end Go.Proofs.Ytmkeljcjhcaigaa
