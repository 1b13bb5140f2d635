/- The walk of the statement CursorOnly. -/
import Derived.Test.YtpeknjbcjpdmnabCurA
import Derived.Test.YtpeknjbcjpdmnabCurP
import Derived.Test.YtpeknjbcjpdmnabSame
import Derived.Test.YtpeknjbcjpdmnabTrodP
namespace Go.Proofs.Ytpeknjbcjpdmnab
open Go.RowKit
set_option linter.unusedVariables false

theorem same_yes (A : Option Addr) (n c : Nat) (l : List UInt8) (A' : Option Addr) (n' c' : Nat) (w : World) (B B' : Nat) (hn : n = l.length) (hn' : n' = l.length) (hb : BS w B A l) (hb' : BS w B' A' l) :
    Calls Try.prog 17 #[.slice A n c, .slice A' n' c'] w fun e w' => e = .returned (.bool true) ∧ w = w' := by
  have := same_any A n c l A' n' c' l w B B' hn hn' hb hb'
  rw [show (l == l) = true from beq_self_eq_true l] at this
  exact this

set_option maxHeartbeats 4000000 in
set_option maxRecDepth 100000 in
theorem walk_cursorOnly (w : World) (A : Option Addr) (n c : Nat) (l : List UInt8) (hn : n = l.length) (hnc : n ≤ c) (hnm : n ≤ maxLen) (hb : BS w w.heap.size A l)
    (P : Option Addr) (m d : Nat) (plan : List Item) (hm : m = plan.length) (hmd : m ≤ d) (hmm : m ≤ maxLen) (hp : IS w w.heap.size P plan) (hok : ∀ x ∈ plan, itemOk x) :
    Calls Try.prog 6 #[.slice A n c, .slice P m d] w fun e w' => e = .returned (.bool true) ∧ Below w.heap.size w w' := by
  subst hn hm
  unfold maxLen at hnm hmm
  have HB := Lib.hid hb
  have HP := Lib.hid hp
  have Hpn : Hid (∀ x ∈ plan, x.2.1 < 9223372036854775808) := fun x hx => (hok x hx).2
  clear hb hp hok
  by_cases h1 : 1000 < l.length
  · have h1I : (1000 : Int) < (l.length : Int) := by omega
    go_enter Try.func6, Try.ntmps6
    go_wp2_with fail
    refine (curAwake _).mono ?_
    rintro e w1 ⟨rfl, hb1⟩
    go_wp2_with fail
    refine (curAwake _).mono ?_
    rintro e w2 ⟨rfl, hb2⟩
    go_wp2
    go_ret
    exact ⟨rfl, bthen hb1 hb2⟩
  · have h1I : ¬ (1000 : Int) < (l.length : Int) := by omega
    by_cases h2 : 40 < plan.length
    · have h2I : (40 : Int) < (plan.length : Int) := by omega
      go_enter Try.func6, Try.ntmps6
      go_wp2_with fail
      refine (curAwake _).mono ?_
      rintro e w1 ⟨rfl, hb1⟩
      go_wp2_with fail
      refine (curAwake _).mono ?_
      rintro e w2 ⟨rfl, hb2⟩
      go_wp2
      go_ret
      exact ⟨rfl, bthen hb1 hb2⟩
    · have h2I : ¬ (40 : Int) < (plan.length : Int) := by omega
      rcases scan_or l plan (0, 0, 0) [] with ⟨ps, hs⟩ | ⟨a, e, hs, he⟩
      · have Hs : Hid (scanS l plan = (ps, 0, 0)) := hs
        obtain ⟨hlay, hpok⟩ := scan_only (by omega) hs
        have Hlay := Lib.hid hlay
        have Hpok := Lib.hid hpok
        have hpl : ps.length ≤ plan.length := by
          have := scan_len l plan (0, 0, 0) []
          rw [hs] at this
          simpa using this
        clear hs hlay hpok
        go_enter Try.func6, Try.ntmps6
        go_wp2_with fail
        refine (curAwake _).mono ?_
        rintro e w1 ⟨rfl, hb1⟩
        have Hb1 := Lib.hid hb1
        clear hb1
        go_wp2_with fail
        refine (scan_eq _ _ _ l _ _ _ plan _ rfl ((HB.out.below Hb1.out).more Hb1.out.size) (by omega) rfl ((HP.out.below Hb1.out).more Hb1.out.size) hmd (by omega) Hpn.out Hs.out).mono ?_
        rintro e w2 ⟨A1, c1, rfl, hP2, hb2⟩
        have HP2 := Lib.hid hP2
        have Hb2 : Hid (Below w.heap.size w w2) := Hb1.out.trans (hb2.mono Hb1.out.size)
        have Hc1 : Hid (ps.length ≤ c1) := hP2.le
        clear hP2 hb2
        go_wp2_with fail
        obtain ⟨W, hW⟩ : ∃ W, W = w2.alloc (.cells #[.int .i64 0, .int .i64 0] 28) := ⟨_, rfl⟩
        have hbW : Below w2.heap.size w2 W := by rw [hW]; exact (Below.refl _ w2).alloc (Nat.le_refl _) _
        have HbW := Lib.hid (Hb2.out.trans (hbW.mono Hb2.out.size))
        have HPW := Lib.hid (HP2.out.below hbW)
        rw [← hW]
        clear hW hbW
        refine (lay_eq _ _ _ plan A1 _ c1 ps W rfl ((HP.out.below HbW.out).more HbW.out.size) hmd (by omega) Hpn.out rfl HPW.out.to_PS Hc1.out (by omega) Hpok.out Hlay.out).mono ?_
        rintro e w3 ⟨A3, c3, rfl, hown3, hb3⟩
        have Hown3 := Lib.hid hown3
        have Hb3 := Lib.hid (HbW.out.trans (hb3.mono HbW.out.size))
        clear hown3 hb3
        go_wp2_with fail
        refine (same_yes A _ c l A3 _ c3 w3 _ _ rfl rfl (HB.out.below Hb3.out) (BS.of_own Hown3.out).1).mono ?_
        rintro e w4 ⟨rfl, rfl⟩
        go_wp2
        go_ret
        exact ⟨rfl, Hb3.out⟩
      · have Hs : Hid (scanS l plan = ([], a, e)) := hs
        have heI : ((e : Int) != 0) = true := by simp; omega
        have heI2 : ((e : Int) == 0) = false := by simp; omega
        clear hs he
        go_enter Try.func6, Try.ntmps6
        go_wp2_with fail
        refine (curAwake _).mono ?_
        rintro e w1 ⟨rfl, hb1⟩
        have Hb1 := Lib.hid hb1
        clear hb1
        go_wp2_with fail
        refine (scan_eq _ _ _ l _ _ _ plan _ rfl ((HB.out.below Hb1.out).more Hb1.out.size) (by omega) rfl ((HP.out.below Hb1.out).more Hb1.out.size) hmd (by omega) Hpn.out Hs.out).mono ?_
        rintro e w2 ⟨A1, c1, rfl, hP2, hb2⟩
        have Hb2 : Hid (Below w.heap.size w w2) := Hb1.out.trans (hb2.mono Hb1.out.size)
        clear hP2 hb2
        go_wp2
        go_ret
        exact ⟨rfl, Hb2.out.alloc Hb2.out.size _⟩
end Go.Proofs.Ytpeknjbcjpdmnab
