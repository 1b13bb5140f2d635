/- The walk of the statement CursorScans. -/
import Derived.Test.YtpeknjbcjpdmnabCurB
import Derived.Test.YtpeknjbcjpdmnabRScan
namespace Go.Proofs.Ytpeknjbcjpdmnab
open Go.RowKit
set_option linter.unusedVariables false

theorem scanGo_le {l : List UInt8} : ∀ (plan : List Item) (s : St) (acc : List Piece), okS l s → (scanGo l s acc plan).2.1 ≤ l.length := by
  intro plan
  induction plan with
  | nil =>
    intro s acc h
    unfold scanGo
    split
    · exact Nat.zero_le _
    · exact (ok_end h).2.1
  | cons x xs ih =>
    intro s acc h
    unfold scanGo
    split
    · exact ih _ _ (ok_read h x)
    · exact (ok_read h x).2.1
theorem scanS_le (l : List UInt8) (plan : List Item) : (scanS l plan).2.1 ≤ l.length := scanGo_le plan (0, 0, 0) [] ⟨Nat.zero_le _, Nat.zero_le _, Nat.zero_le _⟩

theorem rscan_eq {r : List Piece × Nat × Nat} (A : Option Addr) (n c : Nat) (l : List UInt8) (P : Option Addr) (m d : Nat) (plan : List Item) (w : World) (hn : n = l.length) (hb : BS w w.heap.size A l) (hl : n ≤ 1000000000) (hc : n ≤ c)
    (hm : m = plan.length) (hp : IS w w.heap.size P plan) (hmd : m ≤ d) (hml : m ≤ 1000000) (hpn : ∀ x ∈ plan, x.2.1 < 9223372036854775808) (h : scanS l plan = r) :
    Calls Try.prog 12 #[.slice A n c, .slice P m d] w (ScanIs w r) := by
  subst h
  exact rscan_any A n c l P m d plan w hn hb hl hc hm hp hmd hml hpn

theorem scanGo_len {l : List UInt8} : ∀ (plan : List Item) (s : St) (acc : List Piece), (scanGo l s acc plan).1.length ≤ acc.length + plan.length := by
  intro plan
  induction plan with
  | nil =>
    intro s acc
    unfold scanGo
    split <;> simp
  | cons x xs ih =>
    intro s acc
    unfold scanGo
    split
    · have := ih (readS l s x).1 (acc ++ [(readS l s x).2])
      simp at this ⊢
      omega
    · simp

set_option maxHeartbeats 4000000 in
set_option maxRecDepth 100000 in
theorem walk_cursorScans (w : World) (A : Option Addr) (n c : Nat) (l : List UInt8) (hn : n = l.length) (hnc : n ≤ c) (hnm : n ≤ maxLen) (hb : BS w w.heap.size A l)
    (P : Option Addr) (m d : Nat) (plan : List Item) (hm : m = plan.length) (hmd : m ≤ d) (hmm : m ≤ maxLen) (hp : IS w w.heap.size P plan) (hok : ∀ x ∈ plan, itemOk x) :
    Calls Try.prog 3 #[.slice A n c, .slice P m d] w fun e w' => e = .returned (.bool true) ∧ Below w.heap.size w w' := by
  subst hn hm
  unfold maxLen at hnm hmm
  have HB := Lib.hid hb
  have HP := Lib.hid hp
  have Hpn : Hid (∀ x ∈ plan, x.2.1 < 9223372036854775808) := fun x hx => (hok x hx).2
  clear hb hp hok
  by_cases h1 : 1000 < l.length
  · have h1I : (1000 : Int) < (l.length : Int) := by omega
    go_enter Try.func3, Try.ntmps3
    go_wp2_with fail
    refine (curAwake _).mono ?_
    rintro e w1 ⟨rfl, hb1⟩
    go_wp2_with fail
    refine (curAwake _).mono ?_
    rintro e w2 ⟨rfl, hb2⟩
    go_wp2
    go_ret
    exact ⟨rfl, bthen hb1 hb2⟩
  · have h1I : ¬ (1000 : Int) < (l.length : Int) := by omega
    by_cases h2 : 40 < plan.length
    · have h2I : (40 : Int) < (plan.length : Int) := by omega
      go_enter Try.func3, Try.ntmps3
      go_wp2_with fail
      refine (curAwake _).mono ?_
      rintro e w1 ⟨rfl, hb1⟩
      go_wp2_with fail
      refine (curAwake _).mono ?_
      rintro e w2 ⟨rfl, hb2⟩
      go_wp2
      go_ret
      exact ⟨rfl, bthen hb1 hb2⟩
    · have h2I : ¬ (40 : Int) < (plan.length : Int) := by omega
      rcases hs : scanS l plan with ⟨ps, a, e⟩
      have hal : a ≤ l.length := by have := scanS_le l plan; rw [hs] at this; exact this
      have halI : (a : Int) ≤ (l.length : Int) := by omega
      have hpl : ps.length ≤ plan.length := by
        have := scanGo_len (l := l) plan (0, 0, 0) []
        rw [show scanGo l (0, 0, 0) [] plan = (ps, a, e) from hs] at this
        simpa using this
      have Hs := Lib.hid hs
      clear hs hal
      go_enter Try.func3, Try.ntmps3
      go_wp2_with fail
      refine (curAwake _).mono ?_
      rintro e w1 ⟨rfl, hb1⟩
      have Hb1 := Lib.hid hb1
      clear hb1
      go_wp2_with fail
      refine (scan_eq _ _ _ l _ _ _ plan _ rfl ((HB.out.below Hb1.out).more Hb1.out.size) (by omega) rfl ((HP.out.below Hb1.out).more Hb1.out.size) hmd (by omega) Hpn.out Hs.out).mono ?_
      rintro e w2 ⟨A1, c1, rfl, hP2, hb2⟩
      have HP2 := Lib.hid hP2
      have Hb2 : Hid (Below w.heap.size w w2) := Hb1.out.trans (hb2.mono Hb1.out.size)
      clear hP2 hb2
      go_wp2_with fail
      obtain ⟨W, hW⟩ : ∃ W, W = w2.alloc (.cells #[.int .i64 (a : Int), .int .i64 (e : Int)] 28) := ⟨_, rfl⟩
      have hbW : Below w2.heap.size w2 W := by rw [hW]; exact (Below.refl _ w2).alloc (Nat.le_refl _) _
      have hXW : Blk W w2.heap.size 28 #[.int .i64 (a : Int), .int .i64 (e : Int)] := by rw [hW]; exact Blk.new w2 _ _ _ rfl
      have HbW := Lib.hid (Hb2.out.trans (hbW.mono Hb2.out.size))
      have HPW := Lib.hid (HP2.out.below hbW)
      have HXW := Lib.hid hXW
      have Hsz := Lib.hid (Hb2.out.size)
      rw [← hW]
      clear hW hbW hXW HP2
      refine (rscan_eq _ _ _ l _ _ _ plan _ rfl ((HB.out.below HbW.out).more HbW.out.size) (by omega) hnc rfl ((HP.out.below HbW.out).more HbW.out.size) hmd (by omega) Hpn.out Hs.out).mono ?_
      rintro e w3 ⟨A3, c3, rfl, hP3, hb3⟩
      have HX3 := Lib.hid (Blk.below HXW.out hb3 HXW.out.lt)
      have HPa := Lib.hid (HPW.out.below hb3)
      have Hb3 : Hid (Below w.heap.size w w3) := HbW.out.trans (hb3.mono HbW.out.size)
      have HP3 := Lib.hid hP3
      clear hP3 hb3
      have x0 : ∀ o, (w3.alloc o).cell? ⟨w2.heap.size, 0, none⟩ = some (.int .i64 (a : Int)) := fun o => (Blk.alloc HX3.out o).cell 0
      have x1 : ∀ o, (w3.alloc o).cell? ⟨w2.heap.size, 1, none⟩ = some (.int .i64 (e : Int)) := fun o => (Blk.alloc HX3.out o).cell 1
      go_wp2_with fail
      refine (sameP_yes A1 _ c1 A3 _ c3 ps _ rfl rfl (HPa.out.below ((Below.refl _ w3).alloc (Nat.le_refl _) _)).to_PS (HP3.out.below ((Below.refl _ w3).alloc (Nat.le_refl _) _)).to_PS (by omega)).mono ?_
      rintro e4 w4 ⟨rfl, hb4⟩
      have hx4 := Blk.below (Blk.alloc HX3.out (.cells #[.int .i64 (a : Int), .int .i64 (e : Int)] 28)) hb4 (Blk.lt (Blk.alloc HX3.out (.cells #[.int .i64 (a : Int), .int .i64 (e : Int)] 28)))
      have y0 : w4.cell? ⟨w2.heap.size, 0, none⟩ = some (.int .i64 (a : Int)) := hx4.cell 0
      have y1 : w4.cell? ⟨w2.heap.size, 1, none⟩ = some (.int .i64 (e : Int)) := hx4.cell 1
      have hq3 : Below w.heap.size w (w3.alloc (.cells #[.int .i64 (a : Int), .int .i64 (e : Int)] 28)) := Hb3.out.alloc Hb3.out.size _
      have Hb4 : Hid (Below w.heap.size w w4) := hq3.trans (hb4.mono hq3.size)
      clear hx4 hq3 hb4
      go_wp2
      go_ret
      exact ⟨by simp, Hb4.out⟩
end Go.Proofs.Ytpeknjbcjpdmnab
