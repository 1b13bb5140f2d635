/- The walk of slices.Reverse over the bytes of a row of the call's own. -/
import Derived.Test.YtgohhojoahlfiaaRev
import Derived.Deep.LoopGhost
namespace Go.Proofs.Ytgohhojoahlfiaa
open Go.RowKit
set_option linter.unusedVariables false

set_option maxHeartbeats 1600000 in
set_option maxRecDepth 100000 in
theorem reverse_own (base : Nat) (A : Option Addr) (n c : Nat) (l : List UInt8) (w : World) (hn : n = l.length) (hown : w.ownsRow base 5 1 (.slice A n c) n (bcells l)) (hl : n ≤ 1000000000) :
    Calls Try.prog 94 #[.slice A n c] w fun e w' => e = .returned (.tuple #[]) ∧ w'.ownsRow base 5 1 (.slice A n c) n (bcells l.reverse) ∧ Below base w w' := by
  subst hn
  have Hown := Lib.hid hown
  clear hown
  go_enter Try.func94, Try.ntmps94
  go_wp2
  go_loopw [2, 3] (fun s2 s3 wr => ∃ (i : Nat) (xs : List UInt8), 2 * i ≤ l.length ∧ s2 = .int .i64 (i : Int) ∧ s3 = .int .i64 ((l.length : Int) - 1 - (i : Int)) ∧ Hid (RevAt l i xs) ∧ Below base w wr ∧ Hid (wr.ownsRow base 5 1 (.slice A l.length c) l.length (bcells xs))) (fun s2 _ _ => l.length - (intOf s2).toNat)
  case atStart => exact ⟨0, l, by omega, rfl, by simp, revAt_start l, Below.refl _ _, Hown⟩
  case round =>
    obtain ⟨i, xs, hi, rfl, rfl, hr, hbel, hw⟩ := hrel
    by_cases hlt : 2 * i + 1 < l.length
    · have hj : ∃ j, l.length - 1 - i = j := ⟨_, rfl⟩
      obtain ⟨j, hj⟩ := hj
      have hjI : (l.length : Int) - 1 - (i : Int) = (j : Int) := by omega
      rw [hjI]
      have hltI : (i : Int) < (j : Int) := by omega
      have h1 : i < xs.length := by have := hr.out.1; omega
      have h2 : j < xs.length := by have := hr.out.1; omega
      have hst := revAt_step hr.out hlt h1 (by omega)
      simp only [hj] at hst
      have Hst := Lib.hid hst
      obtain ⟨g, cap, hv3, hg2, hg3⟩ := hw.out.form (by omega)
      have hA : A = some ⟨g, 0, none⟩ := by injection hv3
      subst hA
      clear hv3
      have c1 := hw.out.cellAt i (by omega)
      have c2 := hw.out.cellAt j (by omega)
      have d1 : (bcells xs)[i]? = some (.int .u8 ((xs[i]).toNat : Int)) := by rw [bcells, List.getElem?_map, List.getElem?_eq_getElem h1]; rfl
      have d2 : (bcells xs)[j]? = some (.int .u8 ((xs[j]).toNat : Int)) := by rw [bcells, List.getElem?_map, List.getElem?_eq_getElem h2]; rfl
      rw [d1] at c1
      rw [d2] at c2
      have f1 := hw.out.frozenAt i
      have f2 := hw.out.frozenAt j
      have hs1 := (hw.out.stored i (.int .u8 ((xs[j]).toNat : Int))).1
      have hs2 := (hs1.stored j (.int .u8 ((xs[i]).toNat : Int))).1
      have ht1 := (hw.out.stored j (.int .u8 ((xs[i]).toNat : Int))).1
      have ht2 := (ht1.stored i (.int .u8 ((xs[j]).toNat : Int))).1
      rw [← bcells_set', ← bcells_set'] at hs2 ht2
      rw [List.set_comm _ _ (by omega)] at ht2
      have Hs2 := Lib.hid hs2
      have Ht2 := Lib.hid ht2
      have hi0 : (0 : Int) ≤ (i : Int) := by omega
      have hj0 : (0 : Int) ≤ (j : Int) := by omega
      have hjl : (j : Int) < (l.length : Int) := by omega
      have hil : (i : Int) < (l.length : Int) := by omega
      have hne : i ≠ j := by omega
      clear d1 d2 hs1 hs2 ht1 ht2 hst
      generalize hxi : (xs[i]).toNat = xi at *
      generalize hxj : (xs[j]).toNat = xj at *
      go_wp2
      go_region
      go_wp2
      go_roundw
      case rel =>
        refine ⟨i + 1, _, by omega, by go_num, by congr 1; omega, Hst.out, ?_, ?_⟩
        · first
            | exact ((hbel.drew.setCell (p := ⟨g, i, none⟩) hg2 _).setCell (p := ⟨g, j, none⟩) hg2 _)
            | exact ((hbel.drew.setCell (p := ⟨g, j, none⟩) hg2 _).setCell (p := ⟨g, i, none⟩) hg2 _)
        · first
            | exact Hs2.out
            | exact Ht2.out
      case measure => simp [intOf]; omega
    · have he := revAt_end hr.out (by omega)
      subst he
      have hltI : ¬ (i : Int) < (l.length : Int) - 1 - (i : Int) := by omega
      go_wp2
      go_end0
      exact ⟨rfl, hw.out, hbel⟩
end Go.Proofs.Ytgohhojoahlfiaa
