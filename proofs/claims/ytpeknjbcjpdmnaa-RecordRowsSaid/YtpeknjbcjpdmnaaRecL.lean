/- The walks of chapter 5's awake, and of its statement Puts. -/
import Derived.Test.YtpeknjbcjpdmnaaRecR
import Derived.Test.YtpeknjbcjpdmnaaSame
import Derived.Lib.SlBytesConst
namespace Go.Proofs.Ytpeknjbcjpdmnaa
open Go.RowKit
set_option linter.unusedVariables false

theorem recAB : recB [97, 98] = [2, 97, 98] ++ leB 4 (ofS [2, 97, 98]) := by unfold recB recH; rw [vput_lo (by decide)]; rfl
theorem recAB' : recB [97, 98] = [2, 97, 98, 147, 175, 200, 60] := by rw [recAB]; decide +kernel
theorem recNil' : recB [] = [0, 81, 83, 125, 82] := by
  have : recB [] = [0] ++ leB 4 (ofS [0]) := by unfold recB recH; rw [vput_lo (by decide)]; rfl
  rw [this]
  decide +kernel
theorem next1 : nextS [2, 97, 98, 147, 175, 200, 60, 9] = ([97, 98], 7, 0) := by decide +kernel
theorem next2 : nextS [] = ([], 0, 2) := by decide +kernel
theorem next3 : nextS [0, 1, 2, 3, 4] = ([], 0, 8) := by decide +kernel
theorem size2 : (vput 2).length + 2 + 4 = 7 := by rw [vput_lo (by decide)]; rfl
theorem le9 {n : Nat} (h : n ≤ 5000) : n ≤ 1000000000 := by omega

/-- record.Next with its answer named. -/
theorem next_eq {body : List UInt8} {k e : Nat} (A : Option Addr) (m c : Nat) (l : List UInt8) (w : World) (hn : m = l.length) (hb : BS w w.heap.size A l) (hl : m ≤ 1000000000) (hc : m ≤ c) (h : nextS l = (body, k, e)) :
    Calls Try.prog 15 #[.slice A m c] w fun x w' => ∃ A' c', x = .returned (.tuple #[.slice A' body.length c', .int .i64 (k : Int), .int .i64 (e : Int)]) ∧ w'.ownsRow w.heap.size 5 1 (.slice A' body.length c') body.length (bcells body) ∧ Below w.heap.size w w' :=
  (recNext_any A m c l w hn hb hl hc).mono fun _ _ hh => by
    obtain ⟨A', c', h1, h2, h3⟩ := hh
    rw [h] at h1 h2
    exact ⟨A', c', h1, h2, h3⟩
theorem put_eq {out : List UInt8} (A : Option Addr) (n c : Nat) (l : List UInt8) (w : World) (hn : n = l.length) (hb : BS w w.heap.size A l) (hl : n ≤ 1048576) (h : recB l = out) :
    Calls Try.prog 11 #[.slice A n c] w fun e w' => ∃ A' c', e = .returned (.tuple #[.slice A' out.length c', .int .i64 0]) ∧ w'.ownsRow w.heap.size 5 1 (.slice A' out.length c') out.length (bcells out) ∧ Below w.heap.size w w' := by
  subst h
  exact recPut_any A n c l w hn hb hl
theorem refRecPut_eq {out : List UInt8} (A : Option Addr) (n c : Nat) (l : List UInt8) (w : World) (hn : n = l.length) (hb : BS w w.heap.size A l) (hl : n ≤ 1048576) (h : recB l = out) :
    Calls Try.prog 13 #[.slice A n c] w fun e w' => ∃ A' c', e = .returned (.slice A' out.length c') ∧ w'.ownsRow w.heap.size 5 1 (.slice A' out.length c') out.length (bcells out) ∧ Below w.heap.size w w' := by
  subst h
  exact refRecPut_any A n c l w hn hb hl
theorem recSize_eq {k : Nat} (n : Int) (w : World) (m : Nat) (hn : n = (m : Int)) (hm : m ≤ 1048576) (h : (vput m).length + m + 4 = k) :
    Calls Try.prog 14 #[.int .i64 n] w fun e w' => e = .returned (.int .i64 (k : Int)) ∧ w = w' := by
  subst h
  exact recSize_any n w m hn hm
theorem own_cap {w : World} {base : Nat} {e : TypeId} {size n n' : Nat} {A : Option Addr} {c : Nat} {xs : List Value} (h : w.ownsRow base e size (.slice A n' c) n xs) : n ≤ c := by
  obtain ⟨A', c', e1, h1, _⟩ := own_slice h
  injection e1 with _ _ e2
  omega
theorem two20 : 2 ≤ 1048576 := by omega
theorem lit_ge {w : World} {o : Obj} {A : Option Addr} {l : List UInt8} {a : Nat} (h : BS (w.alloc o) (a + 1) A l) (ha : w.heap.size = a) : BS (w.alloc o) (w.alloc o).heap.size A l := h.more (lit_le ha)

set_option maxHeartbeats 800000 in
set_option maxRecDepth 100000 in
theorem awake5_any (w : World) : Calls Try.prog 10 #[] w fun e w' => e = .returned (.bool true) ∧ Below w.heap.size w w' := by
  have kc := fun (w : World) (C : Array Value) (n c : Nat) => Lib.run_convert_bytes_const (P := Try.prog) w 22 5 C n c Try.underlying22 Try.underlying5
  obtain ⟨i0, hi0, hz0, hz1, hz2⟩ := info_parts u8_infoO
  go_enter Try.func10, Try.ntmps10
  go_wp2_with fail
  refine (put_eq _ 2 2 [97, 98] _ rfl (lit_ge (BS.lit' _ [97, 98] _ rfl _ _ _ rfl) rfl) two20 recAB').mono ?_
  rintro e w1 ⟨A1, c1, rfl, hown1, hb1⟩
  have hB1 := Lib.hid (bthen (balloc (Below.refl _ w) _) hb1)
  have Hown1 := Lib.hid hown1
  clear hb1 hown1
  go_wp2_with (first
    | (at_builtin; refine wpList_append_bytes _ rfl _ _ 22 rfl w1.heap.size 5 i0 (.int .u8 0) 1 Try.underlying22 hi0 hz0 hz1 hz2 rfl (.slice (some ⟨w1.heap.size, 0, none⟩) 0 0) [] rfl (own_none _ _ _ (Nat.le_refl _) _ rfl) w1.heap.size A1 _ c1 [2, 97, 98, 147, 175, 200, 60] rfl rfl ((BS.of_own Hown1.out).1.alloc (Nat.le_refl _) _) (by simp [maxLen]) (by simp) (by simp) ?_; intro A3 c3 w3 hown3 hg3 _; have hb3 : Below w1.heap.size w1 w3 := ((Below.refl _ _).alloc (Nat.le_refl _) _).grown hg3 (by simp) (by intro k hk; simp [Value.ownBlock] at hk; omega))
    | (at_builtin; refine wpList_append_bytes _ rfl _ _ 22 rfl w1.heap.size 5 i0 (.int .u8 0) 1 Try.underlying22 hi0 hz0 hz1 hz2 rfl (.slice A3 7 c3) [2, 97, 98, 147, 175, 200, 60] rfl (hown3.alloc _) _ _ 1 _ [9] rfl rfl (BS.one' _ _ _ rfl _) (by simp [maxLen]) (by simp) (by have := hb3.size; simp; omega) ?_; intro A4 c4 w4 hown4 hg4 _; have hb4 : Below w1.heap.size w1 w4 := (hb3.alloc hb3.size _).grown hg4 (by have := hb3.size; simp; omega) (fun k hk => (hown3.lt k hk).1)))
  have hB4 := Lib.hid (bthen hB1.out hb4)
  have Hown4 : Hid (w4.ownsRow w1.heap.size 5 1 (.slice A4 8 c4) 8 (bcells [2, 97, 98, 147, 175, 200, 60, 9])) := hown4
  have hc8 : 8 ≤ c4 := own_cap Hown4.out
  clear hown3 hown4 hg3 hg4 hb3 hb4
  refine (next_eq A4 8 c4 [2, 97, 98, 147, 175, 200, 60, 9] _ rfl (BS.of_own Hown4.out).1 (le9 (by omega)) hc8 next1).mono ?_
  rintro e w5 ⟨A5, c5, rfl, hown5, hb5⟩
  have hB5 := Lib.hid (bthen hB4.out hb5)
  have Hown5 := Lib.hid hown5
  clear hb5 hown5 hB4
  go_wp2_with fail
  refine (next_eq none 0 0 [] _ rfl (BS.nil _ _ _) (le9 (by omega)) (Nat.le_refl _) next2).mono ?_
  rintro e w6 ⟨A6, c6, rfl, _, hb6⟩
  have hB6 := Lib.hid (bthen hB5.out hb6)
  have Hown6 := Lib.hid (own_below Hown5.out hb6)
  clear hb6 hB5 Hown5
  go_wp2_with fail
  refine (put_eq none 0 0 [] _ rfl (BS.nil _ _ _) (by omega) recNil').mono ?_
  rintro e w7 ⟨A7, c7, rfl, hown7, hb7⟩
  have hB7 := Lib.hid (bthen hB6.out hb7)
  have Hown7' := Lib.hid (own_below Hown6.out hb7)
  have Hown7 := Lib.hid hown7
  clear hb7 hB6 Hown6 hown7
  go_wp2_with fail
  refine (next_eq _ 5 5 [0, 1, 2, 3, 4] _ rfl (lit_ge (BS.lit' _ [0, 1, 2, 3, 4] _ rfl _ _ _ rfl) rfl) (le9 (by omega)) (Nat.le_refl _) next3).mono ?_
  rintro e w8 ⟨A8, c8, rfl, _, hb8⟩
  have hb8' : Below w7.heap.size w7 w8 := bthen (balloc (Below.refl _ w7) _) hb8
  have hB8 := Lib.hid (bthen hB7.out hb8')
  have Hown8 := own_below Hown7'.out hb8'
  have hx := own_below Hown7.out hb8'
  have h1 := run_convert_bs (P := Try.prog) 22 9 5 Try.underlying22 Try.underlying5 Try.underlying9 w8 _ A5 [97, 98] (BS.of_own Hown8).1 2 c5 rfl
  obtain ⟨ad, rfl, _, hc0⟩ := (BS.of_own hx).1.at_ (k := 0) (by simp)
  have hc0' : w8.cell? ad = some (.int .u8 0) := by simpa [Addr.add] using hc0
  have Hown8' := Lib.hid Hown8
  have Hx := Lib.hid hx
  clear hb8 hb8' hB7 Hown7 Hown7' Hown8 hx
  clear hc0
  go_wp2_with fail
  refine (recSize_eq 2 _ 2 rfl two20 size2).mono ?_
  rintro e w9 ⟨rfl, rfl⟩
  go_wp2
  go_ret
  exact ⟨rfl, hB8.out⟩

set_option maxHeartbeats 800000 in
set_option maxRecDepth 100000 in
theorem walk_recordPuts (a0 : Option Addr) (len0 cap0 : Nat) (z0 : List Int) (w : World) (w0 : IsRow .u8 w a0 len0 cap0 z0) :
    Calls Try.prog 3 #[.slice a0 len0 cap0] w fun e w' => e = .returned (.bool true) ∧ Below w.heap.size w w' := by
  obtain ⟨l, rfl, hlc, hm, hB⟩ := BS.of_row w0
  clear w0
  have HB := Lib.hid hB
  clear hB
  by_cases hlen : 3000 < l.length
  · go_enter Try.func3, Try.ntmps3
    go_wp2_with fail
    refine (awake5_any _).mono ?_
    rintro e w1 ⟨rfl, hb1⟩
    go_wp2_with fail
    refine (awake5_any _).mono ?_
    rintro e w2 ⟨rfl, hb2⟩
    go_wp2
    go_ret
    exact ⟨rfl, bthen hb1 hb2⟩
  · have hl : l.length ≤ 1048576 := by omega
    obtain ⟨o, ho⟩ : ∃ o, recB l = o := ⟨_, rfl⟩
    have hol : (vput l.length).length + l.length + 4 = o.length := by rw [← recB_length, ho]
    have Ho := Lib.hid ho
    have Hol := Lib.hid hol
    have hoo : (o == o) = true := by simp
    clear ho hol
    go_enter Try.func3, Try.ntmps3
    go_wp2_with fail
    refine (awake5_any _).mono ?_
    rintro e w1 ⟨rfl, hb1⟩
    go_wp2_with fail
    refine (put_eq _ _ _ l _ rfl ((HB.out.below hb1).more hb1.size) hl Ho.out).mono ?_
    rintro e w2 ⟨A2, c2, rfl, hown2, hb2⟩
    have hB2 := bthen hb1 hb2
    have Hown2 := Lib.hid hown2
    clear hown2
    go_wp2_with fail
    refine (refRecPut_eq _ _ _ l _ rfl ((HB.out.below hB2).more hB2.size) hl Ho.out).mono ?_
    rintro e w3 ⟨A3, c3, rfl, hown3, hb3⟩
    have hB3 := bthen hB2 hb3
    have Hown3 := Lib.hid hown3
    clear hown3
    go_wp2_with fail
    refine (same_any A2 _ c2 o A3 _ c3 o _ w2.heap.size w3.heap.size rfl rfl ((BS.of_own Hown2.out).1.below hb3) (BS.of_own Hown3.out).1).mono ?_
    rintro e w4 ⟨rfl, rfl⟩
    go_wp2_with fail
    refine (recSize_eq _ _ l.length rfl hl Hol.out).mono ?_
    rintro e w4 ⟨rfl, rfl⟩
    go_wp2
    go_ret
    exact ⟨rfl, hB3⟩
end Go.Proofs.Ytpeknjbcjpdmnaa
