/- The walk of chapter 2's statement Folds. -/
import Derived.Test.YtoieidpiebfjlaaVarintM
namespace Go.Proofs.Ytoieidpiebfjlaa
open Go.RowKit
set_option linter.unusedVariables false

theorem foldS_bd {n : Int} (h0 : -9223372036854775808 ≤ n) (h1 : n ≤ 9223372036854775807) : 0 ≤ foldS n ∧ foldS n ≤ 18446744073709551615 := by unfold foldS; split <;> omega
theorem openS_bd {n : Int} (h0 : 0 ≤ n) (h1 : n ≤ 18446744073709551615) : -9223372036854775808 ≤ openS n ∧ openS n ≤ 9223372036854775807 := by unfold openS; split <;> omega
theorem refFold_eq {m : Int} (n : Int) (w : World) (h0 : -9223372036854775808 ≤ n) (h1 : n ≤ 9223372036854775807) (h : foldS n = m) :
    Calls Try.prog 22 #[.int .i64 n] w fun e w' => e = .returned (.int .u64 m) ∧ w = w' :=
  (refFold_any n w h0 h1).mono fun _ _ hh => ⟨by rw [← h]; exact hh.1, hh.2⟩
theorem refOpen_eq {m : Int} (n : Int) (w : World) (h0 : 0 ≤ n) (h1 : n ≤ 18446744073709551615) (h : openS n = m) :
    Calls Try.prog 24 #[.int .u64 n] w fun e w' => e = .returned (.int .i64 m) ∧ w = w' :=
  (refOpen_any n w h0 h1).mono fun _ _ hh => ⟨by rw [← h]; exact hh.1, hh.2⟩
theorem fold_small {n : Int} (h0 : -64 ≤ n) (h1 : n ≤ 63) : (foldS n).toNat < 128 := by unfold foldS; split <;> omega
theorem fold_near {n m : Int} (h : n.natAbs < m.natAbs) : foldS n < foldS m := by unfold foldS; split <;> split <;> omega

set_option maxHeartbeats 1000000 in
set_option maxRecDepth 100000 in
theorem folds_eq (a0 : Int) (u fnN : Nat) (ou : Int) (w : World) (n0 : -9223372036854775808 ≤ a0) (n1 : a0 ≤ 9223372036854775807) (m0 : -9223372036854775808 ≤ a0) (m1 : a0 ≤ 9223372036854775807) (u0 : (0 : Int) ≤ (u : Int)) (u1 : (u : Int) ≤ 18446744073709551615) (fn0 : (0 : Int) ≤ (fnN : Int)) (fn1 : (fnN : Int) ≤ 18446744073709551615) (ou0 : -9223372036854775808 ≤ ou) (ou1 : ou ≤ 9223372036854775807) (hnear : Hid (a0.natAbs < a0.natAbs → (fnN : Int) < (fnN : Int))) (hsm : Hid (-64 ≤ a0 → a0 ≤ 63 → ((fnN : Int)).toNat < 128)) (Hfn : Hid (foldS a0 = (fnN : Int))) (Hfm : Hid (foldS a0 = (fnN : Int))) (Hou : Hid (openS (u : Int) = ou)) (Hof : Hid (openS (fnN : Int) = a0)) (Hfo : Hid (foldS ou = (u : Int))) :
    Calls Try.prog 8 #[.int .i64 a0, .int .i64 a0, .int .u64 u] w fun e w' => e = .returned (.bool true) ∧ Below w.heap.size w w' := by
  go_enter Try.func8, Try.ntmps8
  go_wp2_with fail
  refine (awake2_any _).mono ?_
  rintro e w1 ⟨rfl, hb1⟩
  go_wp2_with fail
  refine (fold_eq _ _ n0 n1 Hfn.out).mono ?_
  rintro e w2 ⟨rfl, rfl⟩
  go_wp2_with fail
  refine (fold_eq _ _ m0 m1 Hfm.out).mono ?_
  rintro e w2 ⟨rfl, rfl⟩
  go_wp2_with fail
  refine (refFold_eq _ _ n0 n1 Hfn.out).mono ?_
  rintro e w2 ⟨rfl, rfl⟩
  go_wp2_with fail
  refine (open_eq _ _ fn0 fn1 Hof.out).mono ?_
  rintro e w2 ⟨rfl, rfl⟩
  go_wp2_with fail
  refine (open_eq _ _ u0 u1 Hou.out).mono ?_
  rintro e w2 ⟨rfl, rfl⟩
  go_wp2_with fail
  refine (fold_eq _ _ ou0 ou1 Hfo.out).mono ?_
  rintro e w2 ⟨rfl, rfl⟩
  go_wp2_with fail
  refine (open_eq _ _ u0 u1 Hou.out).mono ?_
  rintro e w2 ⟨rfl, rfl⟩
  go_wp2_with fail
  refine (refOpen_eq _ _ u0 u1 Hou.out).mono ?_
  rintro e w2 ⟨rfl, rfl⟩
  by_cases hs : -64 ≤ a0 ∧ a0 ≤ 63
  · obtain ⟨hs1, hs2⟩ := hs
    go_wp2_with fail
    refine (put_any _ _ fnN rfl (by omega)).mono ?_
    rintro e w2 ⟨v, rfl, hown, hb2⟩
    have hl : (vput fnN).length = 1 := by rw [vput_lo (by have := hsm.out hs1 hs2; omega)]; rfl
    rw [hl] at hown
    obtain ⟨A2, c2, rfl, _, _⟩ := own_slice hown
    have Ho2 := Lib.hid hown
    clear hown hl
    go_wp2
    all_goals
      go_ret
      exact ⟨ret_true (by first | rfl | (rw [decide_eq_true (hnear.out (by omega)), Bool.or_true]) | exact decide_eq_true (hnear.out (by omega))), hb1.trans (hb2.mono hb1.size)⟩
  · by_cases hs1 : -64 ≤ a0
    all_goals
      by_cases hs2 : a0 ≤ 63
    · exact absurd ⟨hs1, hs2⟩ hs
    all_goals
      clear hs
      go_wp2
      all_goals
        go_ret
        exact ⟨ret_true (by first | rfl | (rw [decide_eq_true (hnear.out (by omega)), Bool.or_true]) | exact decide_eq_true (hnear.out (by omega))), hb1⟩

set_option maxHeartbeats 1000000 in
set_option maxRecDepth 100000 in
theorem folds_ne (a0 a1 : Int) (u fnN : Nat) (fm ou : Int) (w : World) (n0 : -9223372036854775808 ≤ a0) (n1 : a0 ≤ 9223372036854775807) (m0 : -9223372036854775808 ≤ a1) (m1 : a1 ≤ 9223372036854775807) (u0 : (0 : Int) ≤ (u : Int)) (u1 : (u : Int) ≤ 18446744073709551615) (fn0 : (0 : Int) ≤ (fnN : Int)) (fn1 : (fnN : Int) ≤ 18446744073709551615) (fm0 : 0 ≤ fm) (fm1 : fm ≤ 18446744073709551615) (ou0 : -9223372036854775808 ≤ ou) (ou1 : ou ≤ 9223372036854775807) (hnear : Hid (a0.natAbs < a1.natAbs → (fnN : Int) < fm)) (hsm : Hid (-64 ≤ a0 → a0 ≤ 63 → ((fnN : Int)).toNat < 128)) (Hfn : Hid (foldS a0 = (fnN : Int))) (Hfm : Hid (foldS a1 = fm)) (Hou : Hid (openS (u : Int) = ou)) (Hof : Hid (openS (fnN : Int) = a0)) (Hfo : Hid (foldS ou = (u : Int))) (hne : (a0 == a1) = false) (hne2 : ((fnN : Int) == fm) = false) :
    Calls Try.prog 8 #[.int .i64 a0, .int .i64 a1, .int .u64 u] w fun e w' => e = .returned (.bool true) ∧ Below w.heap.size w w' := by
  go_enter Try.func8, Try.ntmps8
  go_wp2_with fail
  refine (awake2_any _).mono ?_
  rintro e w1 ⟨rfl, hb1⟩
  go_wp2_with fail
  refine (fold_eq _ _ n0 n1 Hfn.out).mono ?_
  rintro e w2 ⟨rfl, rfl⟩
  go_wp2_with fail
  refine (fold_eq _ _ m0 m1 Hfm.out).mono ?_
  rintro e w2 ⟨rfl, rfl⟩
  go_wp2_with fail
  refine (refFold_eq _ _ n0 n1 Hfn.out).mono ?_
  rintro e w2 ⟨rfl, rfl⟩
  go_wp2_with fail
  refine (open_eq _ _ fn0 fn1 Hof.out).mono ?_
  rintro e w2 ⟨rfl, rfl⟩
  go_wp2_with fail
  refine (open_eq _ _ u0 u1 Hou.out).mono ?_
  rintro e w2 ⟨rfl, rfl⟩
  go_wp2_with fail
  refine (fold_eq _ _ ou0 ou1 Hfo.out).mono ?_
  rintro e w2 ⟨rfl, rfl⟩
  go_wp2_with fail
  refine (open_eq _ _ u0 u1 Hou.out).mono ?_
  rintro e w2 ⟨rfl, rfl⟩
  go_wp2_with fail
  refine (refOpen_eq _ _ u0 u1 Hou.out).mono ?_
  rintro e w2 ⟨rfl, rfl⟩
  by_cases hs : -64 ≤ a0 ∧ a0 ≤ 63
  · obtain ⟨hs1, hs2⟩ := hs
    go_wp2_with fail
    refine (put_any _ _ fnN rfl (by omega)).mono ?_
    rintro e w2 ⟨v, rfl, hown, hb2⟩
    have hl : (vput fnN).length = 1 := by rw [vput_lo (by have := hsm.out hs1 hs2; omega)]; rfl
    rw [hl] at hown
    obtain ⟨A2, c2, rfl, _, _⟩ := own_slice hown
    have Ho2 := Lib.hid hown
    clear hown hl
    go_wp2
    all_goals
      go_ret
      exact ⟨ret_true (by first | rfl | (rw [decide_eq_true (hnear.out (by omega)), Bool.or_true]) | exact decide_eq_true (hnear.out (by omega))), hb1.trans (hb2.mono hb1.size)⟩
  · by_cases hs1 : -64 ≤ a0
    all_goals
      by_cases hs2 : a0 ≤ 63
    · exact absurd ⟨hs1, hs2⟩ hs
    all_goals
      clear hs
      go_wp2
      all_goals
        go_ret
        exact ⟨ret_true (by first | rfl | (rw [decide_eq_true (hnear.out (by omega)), Bool.or_true]) | exact decide_eq_true (hnear.out (by omega))), hb1⟩

theorem walk_varintFolds (a0 a1 a2 : Int) (w : World) (w0 : (Lit.int .i64 a0).wf = true) (w1 : (Lit.int .i64 a1).wf = true) (w2 : (Lit.int .u64 a2).wf = true) :
    Calls Try.prog 8 #[.int .i64 a0, .int .i64 a1, .int .u64 a2] w fun e w' => e = .returned (.bool true) ∧ Below w.heap.size w w' := by
  obtain ⟨n0, n1⟩ := i64_of_wf w0
  obtain ⟨m0, m1⟩ := i64_of_wf w1
  obtain ⟨u, rfl, hu⟩ := u64_of_wf w2
  have u0 : (0 : Int) ≤ (u : Int) := by omega
  have u1 : (u : Int) ≤ 18446744073709551615 := by omega
  clear w0 w1 w2 hu
  obtain ⟨fn0, fn1⟩ := foldS_bd n0 n1
  obtain ⟨fm0, fm1⟩ := foldS_bd m0 m1
  obtain ⟨ou0, ou1⟩ := openS_bd u0 u1
  have hnear := Lib.hid (@fold_near a0 a1)
  have hof : openS (foldS a0) = a0 := open_fold
  have hofm : openS (foldS a1) = a1 := open_fold
  have hfo : foldS (openS (u : Int)) = (u : Int) := fold_open u0
  have hsm := Lib.hid (@fold_small a0)
  generalize hfn : foldS a0 = fn at *
  generalize hfm : foldS a1 = fm at *
  generalize hou : openS (u : Int) = ou at *
  have Hfn := Lib.hid hfn
  have Hfm := Lib.hid hfm
  have Hou := Lib.hid hou
  have Hof := Lib.hid hof
  have Hfo := Lib.hid hfo
  have hinj : a0 ≠ a1 → fn ≠ fm := fun h e => h (by rw [← hof, ← hofm, e])
  have Hinj := Lib.hid hinj
  clear hfn hfm hou hof hofm hfo hinj
  obtain ⟨fnN, rfl⟩ := Int.eq_ofNat_of_zero_le fn0
  have hcase : (a0 = a1 ∧ (fnN : Int) = fm) ∨ ((a0 == a1) = false ∧ ((fnN : Int) == fm) = false) := by
    by_cases hnm : a0 = a1
    · refine .inl ⟨hnm, ?_⟩
      rw [← Hfn.out, ← Hfm.out, hnm]
    · exact .inr ⟨beq_eq_false_iff_ne.2 hnm, beq_eq_false_iff_ne.2 (Hinj.out hnm)⟩
  rcases hcase with ⟨rfl, rfl⟩ | ⟨hne, hne2⟩
  · exact folds_eq a0 u fnN ou w n0 n1 m0 m1 u0 u1 fn0 fn1 ou0 ou1 hnear hsm Hfn Hfm Hou Hof Hfo
  · exact folds_ne a0 a1 u fnN fm ou w n0 n1 m0 m1 u0 u1 fn0 fn1 fm0 fm1 ou0 ou1 hnear hsm Hfn Hfm Hou Hof Hfo hne hne2
end Go.Proofs.Ytoieidpiebfjlaa
