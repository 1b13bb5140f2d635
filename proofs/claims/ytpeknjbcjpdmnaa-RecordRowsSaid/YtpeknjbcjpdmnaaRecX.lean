/- The walk of RecordNexts. -/
import Derived.Test.YtpeknjbcjpdmnaaRefA
import Derived.Test.YtpeknjbcjpdmnaaLSame
namespace Go.Proofs.Ytpeknjbcjpdmnaa
open Go.RowKit
set_option linter.unusedVariables false

theorem all_eq {xs : List (List UInt8)} {a e : Nat} (A : Option Addr) (m c : Nat) (b : List UInt8) (w : World) (hn : m = b.length) (hb : BS w w.heap.size A b) (hl : m ≤ 1000000000) (hc : m ≤ c) (h : allS b = (xs, a, e)) :
    Calls Try.prog 18 #[.slice A m c] w fun x w' => ∃ A' c', x = .returned (.tuple #[.slice A' xs.length c', .int .i64 (a : Int), .int .i64 (e : Int)]) ∧ LOwn 22 5 w' w.heap.size A' c' xs ∧ Below w.heap.size w w' :=
  (recAll_any A m c b w hn hb hl hc).mono fun _ _ hh => by
    obtain ⟨A', c', h1, h2, h3⟩ := hh
    rw [h] at h1 h2
    exact ⟨A', c', h1, h2, h3⟩
theorem refAll_eq {xs : List (List UInt8)} {a e : Nat} (A : Option Addr) (m c : Nat) (b : List UInt8) (w : World) (hn : m = b.length) (hb : BS w w.heap.size A b) (hl : m ≤ 1000000000) (hc : m ≤ c) (h : allS b = (xs, a, e)) :
    Calls Try.prog 19 #[.slice A m c] w fun x w' => ∃ A' c', x = .returned (.tuple #[.slice A' xs.length c', .int .i64 (a : Int), .int .i64 (e : Int)]) ∧ LOwn 22 5 w' w.heap.size A' c' xs ∧ Below w.heap.size w w' :=
  (refAll_any A m c b w hn hb hl hc).mono fun _ _ hh => by
    obtain ⟨A', c', h1, h2, h3⟩ := hh
    rw [h] at h1 h2
    exact ⟨A', c', h1, h2, h3⟩

theorem allGo_len : ∀ (f : Nat) (b : List UInt8), (allGo f b).1.length ≤ b.length
  | 0, b => by simp [allGo]
  | f + 1, b => by
    rw [allGo]
    split
    · simp
    · split
      · simp
      · rename_i h0 h1
        rcases hv : nextS b with ⟨body, k, e⟩
        rw [hv] at h1
        have he : e = 0 := by
          rcases Nat.decEq e 0 with h | h
          · exact absurd h h1
          · exact h
        subst he
        obtain ⟨n, j, g1, g2, g3, g4, _⟩ := nextS_ok hv
        have ih := allGo_len f (b.drop k)
        rw [List.length_drop] at ih
        simp only [List.length_cons]
        omega
theorem allS_len (b : List UInt8) : (allS b).1.length ≤ b.length := allGo_len _ b

set_option maxHeartbeats 1600000 in
set_option maxRecDepth 100000 in
theorem walk_recordNexts (a0 : Option Addr) (len0 cap0 : Nat) (z0 : List Int) (w : World) (w0 : IsRow .u8 w a0 len0 cap0 z0) :
    Calls Try.prog 6 #[.slice a0 len0 cap0] w fun e w' => e = .returned (.bool true) ∧ Below w.heap.size w w' := by
  obtain ⟨l, rfl, hlc, hm, hB⟩ := BS.of_row w0
  clear w0
  have HB := Lib.hid hB
  clear hB
  by_cases hlen : 3000 < l.length
  · go_enter Try.func6, Try.ntmps6
    go_wp2_with fail
    refine (awake5_any _).mono ?_
    rintro e w1 ⟨rfl, hb1⟩
    go_wp2_with fail
    refine (awake5_any _).mono ?_
    rintro e w2 ⟨rfl, hb2⟩
    go_wp2
    go_ret
    exact ⟨rfl, bthen hb1 hb2⟩
  · have hl : l.length ≤ 1000000000 := by omega
    rcases hv : nextS l with ⟨body, k, e⟩
    rcases hw : allS l with ⟨xs, a, g⟩
    have hxl : xs.length ≤ 1000000000 := by
      have := allS_len l
      rw [hw] at this
      simp only at this
      omega
    have Hv := Lib.hid hv
    have Hw := Lib.hid hw
    have hoo : (body == body) = true := by simp
    have hxx : (xs == xs) = true := by simp
    clear hv hw
    go_enter Try.func6, Try.ntmps6
    go_wp2_with fail
    refine (awake5_any _).mono ?_
    rintro e w1 ⟨rfl, hb1⟩
    go_wp2_with fail
    refine (next_eq _ _ _ l _ rfl ((HB.out.below hb1).more hb1.size) hl hlc Hv.out).mono ?_
    rintro e w2 ⟨A2, c2, rfl, hown2, hb2⟩
    have hB2 := bthen hb1 hb2
    have Hown2 := Lib.hid hown2
    clear hown2
    go_wp2_with fail
    refine (refNext_eq _ _ _ l _ rfl ((HB.out.below hB2).more hB2.size) hl hlc Hv.out).mono ?_
    rintro e w3 ⟨A3, c3, rfl, hown3, hb3⟩
    have hB3 := bthen hB2 hb3
    have Hown3 := Lib.hid hown3
    clear hown3
    go_wp2_with fail
    refine (all_eq _ _ _ l _ rfl ((HB.out.below hB3).more hB3.size) hl hlc Hw.out).mono ?_
    rintro e w4 ⟨A4, c4, rfl, hown4, hb4⟩
    have hB4 := bthen hB3 hb4
    have Hown4 := Lib.hid hown4
    clear hown4
    go_wp2_with fail
    refine (refAll_eq _ _ _ l _ rfl ((HB.out.below hB4).more hB4.size) hl hlc Hw.out).mono ?_
    rintro e w5 ⟨A5, c5, rfl, hown5, hb5⟩
    have hB5 := bthen hB4 hb5
    have Hown5 := Lib.hid hown5
    clear hown5
    have hx2 : Hid (BS w5 w2.heap.size A2 body) := (BS.of_own Hown2.out).1.below (hb3.trans ((hb4.trans (hb5.mono hb4.size)).mono hb3.size))
    have hx3 : Hid (BS w5 w3.heap.size A3 body) := (BS.of_own Hown3.out).1.below (hb4.trans (hb5.mono hb4.size))
    have hx4 : Hid (LS w5 w5.heap.size A4 xs) := (Hown4.out.to_LS.below hb5).more hb5.size
    have hx5 : Hid (LS w5 w5.heap.size A5 xs) := Hown5.out.to_LS
    go_wp2_with fail
    refine (same_any A2 _ c2 body A3 _ c3 body _ w2.heap.size w3.heap.size rfl rfl hx2.out hx3.out).mono ?_
    rintro e w6 ⟨rfl, rfl⟩
    go_wp2_with fail
    refine (rowSame_any A4 _ c4 xs A5 _ c5 xs _ rfl rfl hx4.out hx5.out hxl).mono ?_
    rintro e w6 ⟨rfl, hb6⟩
    go_wp2
    go_ret
    exact ⟨rfl, bthen hB5 hb6⟩
end Go.Proofs.Ytpeknjbcjpdmnaa
