/- The walk of chapter 2's statement Only. -/
import Derived.Test.YtoieidpiebfjlaaVarintL
import Derived.Test.YtoieidpiebfjlaaVarintW
import Derived.Deep.RegionHeld3
namespace Go.Proofs.Ytoieidpiebfjlaa
open Go.RowKit
set_option linter.unusedVariables false

set_option maxHeartbeats 400000 in
set_option maxRecDepth 100000 in
theorem walk_varintOnly (a0 : Option Addr) (len0 cap0 : Nat) (z0 : List Int) (w : World) (w0 : IsRow .u8 w a0 len0 cap0 z0) :
    Calls Try.prog 6 #[.slice a0 len0 cap0] w fun e w' => e = .returned (.bool true) ∧ Below w.heap.size w w' := by
  obtain ⟨l, rfl, hlc, hm, hB⟩ := BS.of_row w0
  clear w0
  have HB := Lib.hid hB
  clear hB
  by_cases hlen : 1000 < l.length
  · go_enter Try.func6, Try.ntmps6
    go_wp2_with fail
    refine (awake2_any _).mono ?_
    rintro e w1 ⟨rfl, hb1⟩
    go_wp2_with fail
    refine (awake2_any _).mono ?_
    rintro e w2 ⟨rfl, hb2⟩
    go_wp2
    go_ret
    exact ⟨rfl, hb1.trans (hb2.mono hb1.size)⟩
  · have hl : l.length ≤ maxLen := by omega
    have hml := Lib.hid hl
    clear hl hm
    rcases hv : vgetS l with ⟨n, k, e⟩
    by_cases he : e = 0
    · subst he
      obtain ⟨hn, hk1, hk2, hk3, hk4⟩ := vget_only hv
      have Hv := Lib.hid hv
      have Hn := Lib.hid hn
      have H3 := Lib.hid hk3
      have H4 := Lib.hid hk4
      have heq : (vput n == l.take k) = true := by rw [hk4]; simp
      clear hv hn hk3 hk4
      have hk1' : (1 : Int) ≤ (k : Int) := by omega
      have hk0' : (0 : Int) ≤ (k : Int) := by omega
      have hk3' : (k : Int) ≤ (cap0 : Int) := by omega
      have hk4' : k ≤ cap0 := by omega
      have hk2' : (k : Int) ≤ (l.length : Int) := by omega
      go_enter Try.func6, Try.ntmps6
      go_wp2_with fail
      refine (awake2_any _).mono ?_
      rintro e w1 ⟨rfl, hb1⟩
      go_wp2_with fail
      refine (get_eq _ _ _ l _ _ rfl (HB.out.below hb1) hml.out Hv.out).mono ?_
      rintro e w2 ⟨rfl, rfl⟩
      go_wp2_with fail
      go_region_held3 (fun _ => True) (first | trivial)
        (first
          | (go_at_call 17
             refine (put_any _ _ n rfl Hn.out).mono ?_
             rintro e w2 ⟨v, rfl, hown, hb2⟩
             obtain ⟨A2, c2, rfl, _, _⟩ := own_slice hown
             have Ho2 := Lib.hid hown
             clear hown)
          | (go_at_call 18
             refine (same_any A2 _ c2 (vput n) a0 _ cap0 (l.take k) _ w2.heap.size w.heap.size rfl (by rw [List.length_take]; omega) (BS.of_own Ho2.out).1 (by first | exact ((HB.out.below (hb1.trans (hb2.mono hb1.size))).take k) | exact ((HB.out.below (hb1.drew.trans (hb2.mono hb1.size))).take k))).mono ?_
             rintro e w4 ⟨rfl, rfl⟩))
      go_wp2
      go_ret
      exact ⟨rfl, hb1.drew.trans (hb2.mono hb1.size)⟩
    · obtain ⟨rfl, rfl, he'⟩ := vget_bad hv he
      have Hv := Lib.hid hv
      clear hv
      rcases he' with rfl | rfl
      all_goals
        go_enter Try.func6, Try.ntmps6
        go_wp2_with fail
        refine (awake2_any _).mono ?_
        rintro e w1 ⟨rfl, hb1⟩
        go_wp2_with fail
        refine (get_eq _ _ _ l _ _ rfl (HB.out.below hb1) hml.out Hv.out).mono ?_
        rintro e w2 ⟨rfl, rfl⟩
        go_wp2
        go_ret
        exact ⟨rfl, hb1⟩

end Go.Proofs.Ytoieidpiebfjlaa
