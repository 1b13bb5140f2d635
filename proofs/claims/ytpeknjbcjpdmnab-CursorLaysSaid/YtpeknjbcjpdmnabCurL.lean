/- The walk of the statement CursorLays. -/
import Derived.Test.YtpeknjbcjpdmnabCurB
import Derived.Test.YtpeknjbcjpdmnabRefLay
namespace Go.Proofs.Ytpeknjbcjpdmnab
open Go.RowKit
set_option linter.unusedVariables false

theorem rlay_eq {r : Option (List UInt8)} (P : Option Addr) (m d : Nat) (plan : List Item) (L : Option Addr) (n c : Nat) (ps : List Piece) (w : World)
    (hm : m = plan.length) (hp : IS w w.heap.size P plan) (hmd : m ≤ d) (hml : m ≤ 1000000) (hpn : ∀ x ∈ plan, x.2.1 < 9223372036854775808)
    (hn : n = ps.length) (hl : PS w w.heap.size L ps) (hnc : n ≤ c) (hnl : n ≤ 9223372036854775807) (hok : ∀ p ∈ ps, pOk p) (h : layS plan ps = r) :
    Calls Try.prog 16 #[.slice P m d, .slice L n c] w (RLayIs w r) := by
  subst h
  exact rlay_any P m d plan L n c ps w hm hp hmd hml hpn hn hl hnc hnl hok

set_option maxHeartbeats 2000000 in
set_option maxRecDepth 100000 in
theorem walk_cursorLays (w : World) (P : Option Addr) (m d : Nat) (plan : List Item) (hm : m = plan.length) (hmd : m ≤ d) (hmm : m ≤ maxLen) (hp : IS w w.heap.size P plan) (hok : ∀ x ∈ plan, itemOk x)
    (L : Option Addr) (n c : Nat) (ps : List Piece) (hn : n = ps.length) (hnc : n ≤ c) (hnm : n ≤ maxLen) (hl : PS w w.heap.size L ps) (hpo : ∀ x ∈ ps, x.1 < 18446744073709551616 ∧ x.2.length ≤ maxLen) :
    Calls Try.prog 4 #[.slice P m d, .slice L n c] w fun e w' => e = .returned (.bool true) ∧ Below w.heap.size w w' := by
  subst hn hm
  have HP := Lib.hid hp
  have HL := Lib.hid hl
  have Hpn : Hid (∀ x ∈ plan, x.2.1 < 9223372036854775808) := fun x hx => (hok x hx).2
  have H64 : Hid (∀ p ∈ ps, p.1 < 18446744073709551616) := fun x hx => (hpo x hx).1
  have Hnm := Lib.hid hnm
  unfold maxLen at hmm hnm
  clear hp hl hok hpo
  by_cases h2 : 40 < plan.length
  · have h2I : (40 : Int) < (plan.length : Int) := by omega
    go_enter Try.func4, Try.ntmps4
    go_wp2_with fail
    refine (curAwake _).mono ?_
    rintro e w1 ⟨rfl, hb1⟩
    go_wp2_with fail
    refine (curAwake _).mono ?_
    rintro e w2 ⟨rfl, hb2⟩
    go_wp2
    go_ret
    exact ⟨rfl, bthen hb1 hb2⟩
  · have h2I : ¬ (40 : Int) < (plan.length : Int) := by omega
    rcases hfew : fewP ps with _ | _
    · have Hfew := Lib.hid hfew
      clear hfew
      go_enter Try.func4, Try.ntmps4
      go_wp2_with fail
      refine (curAwake _).mono ?_
      rintro e w1 ⟨rfl, hb1⟩
      go_wp2_with fail
      refine (fewP_eq _ _ _ ps w1 rfl ((HL.out.below hb1).more hb1.size) Hnm.out Hfew.out).mono ?_
      rintro e w1' ⟨rfl, rfl⟩
      go_wp2_with fail
      refine (curAwake _).mono ?_
      rintro e w2 ⟨rfl, hb2⟩
      go_wp2
      go_ret
      exact ⟨rfl, bthen hb1 hb2⟩
    · have Hfew := Lib.hid hfew
      obtain ⟨hpok, hp40, _⟩ := fewP_ok hfew H64.out
      have Hpok := Lib.hid hpok
      clear hfew hpok
      rcases hlay : layS plan ps with _ | full
      · have Hlay := Lib.hid hlay
        clear hlay
        go_enter Try.func4, Try.ntmps4
        go_wp2_with fail
        refine (curAwake _).mono ?_
        rintro e w1 ⟨rfl, hb1⟩
        have Hb1 := Lib.hid hb1
        clear hb1
        go_wp2_with fail
        refine (fewP_eq _ _ _ ps w1 rfl ((HL.out.below Hb1.out).more Hb1.out.size) Hnm.out Hfew.out).mono ?_
        rintro e w1' ⟨rfl, rfl⟩
        go_wp2_with fail
        refine (lay_eq P _ d plan L _ c ps w1 rfl ((HP.out.below Hb1.out).more Hb1.out.size) hmd (by omega) Hpn.out rfl ((HL.out.below Hb1.out).more Hb1.out.size) hnc hnm Hpok.out Hlay.out).mono ?_
        rintro e w3 ⟨A3, c3, rfl, hown3, hb3⟩
        have Hb3 := Lib.hid (Hb1.out.trans (hb3.mono Hb1.out.size))
        clear hown3 hb3
        go_wp2_with fail
        refine (rlay_eq P _ d plan L _ c ps w3 rfl ((HP.out.below Hb3.out).more Hb3.out.size) hmd (by omega) Hpn.out rfl ((HL.out.below Hb3.out).more Hb3.out.size) hnc hnm Hpok.out Hlay.out).mono ?_
        rintro e w4 ⟨A4, c4, rfl, hown4, hb4⟩
        have Hb4 := Lib.hid (Hb3.out.trans (hb4.mono Hb3.out.size))
        clear hown4 hb4
        go_wp2
        go_ret
        exact ⟨rfl, Hb4.out⟩
      · have Hlay := Lib.hid hlay
        clear hlay
        go_enter Try.func4, Try.ntmps4
        go_wp2_with fail
        refine (curAwake _).mono ?_
        rintro e w1 ⟨rfl, hb1⟩
        have Hb1 := Lib.hid hb1
        clear hb1
        go_wp2_with fail
        refine (fewP_eq _ _ _ ps w1 rfl ((HL.out.below Hb1.out).more Hb1.out.size) Hnm.out Hfew.out).mono ?_
        rintro e w1' ⟨rfl, rfl⟩
        go_wp2_with fail
        refine (lay_eq P _ d plan L _ c ps w1 rfl ((HP.out.below Hb1.out).more Hb1.out.size) hmd (by omega) Hpn.out rfl ((HL.out.below Hb1.out).more Hb1.out.size) hnc hnm Hpok.out Hlay.out).mono ?_
        rintro e w3 ⟨A3, c3, rfl, hown3, hb3⟩
        have Hb3 := Lib.hid (Hb1.out.trans (hb3.mono Hb1.out.size))
        have HB3 : Hid (BS w3 w3.heap.size A3 full) := (BS.of_own hown3).1
        clear hown3 hb3
        go_wp2_with fail
        refine (rlay_eq P _ d plan L _ c ps w3 rfl ((HP.out.below Hb3.out).more Hb3.out.size) hmd (by omega) Hpn.out rfl ((HL.out.below Hb3.out).more Hb3.out.size) hnc hnm Hpok.out Hlay.out).mono ?_
        rintro e w4 ⟨A4, c4, rfl, hown4, hb4⟩
        have Hb4 := Lib.hid (Hb3.out.trans (hb4.mono Hb3.out.size))
        have HB4 : Hid (BS w4 w4.heap.size A4 full) := (BS.of_own hown4).1
        have HB34 : Hid (BS w4 w3.heap.size A3 full) := HB3.out.below hb4
        clear hown4 hb4
        go_wp2_with fail
        refine (same_yes A3 _ c3 full A4 _ c4 w4 _ _ rfl rfl HB34.out HB4.out).mono ?_
        rintro e w5 ⟨rfl, rfl⟩
        go_wp2
        go_ret
        exact ⟨rfl, Hb4.out⟩
end Go.Proofs.Ytpeknjbcjpdmnab
