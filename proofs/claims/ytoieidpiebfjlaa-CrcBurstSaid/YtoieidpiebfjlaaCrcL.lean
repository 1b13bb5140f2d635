/- The walks of chapter 3's statements: Of, More, Join. -/
import Derived.Test.YtoieidpiebfjlaaCrcK
import Derived.Test.YtoieidpiebfjlaaSame
import Derived.Lib.SlBytesConst
namespace Go.Proofs.Ytoieidpiebfjlaa
open Go.RowKit
set_option linter.unusedVariables false

theorem u8_info3 : (Try.prog.info? 5).map (fun i => (i.zero, i.size, i.bytes)) = some (some (.int .u8 0), 1, 1) := by kernel_rfl
theorem le_maxLen {n : Nat} (h : n ≤ 1000) : n ≤ maxLen := by unfold maxLen; omega
theorem of_eq {x : Nat} (A : Option Addr) (n c : Nat) (l : List UInt8) (w : World) (B : Nat) (hn : n = l.length) (hb : BS w B A l) (hB : B ≤ w.heap.size) (hl : n ≤ maxLen) (h : ofS l = x) :
    Calls Try.prog 26 #[.slice A n c] w fun e w' => e = .returned (.int .u32 (x : Int)) ∧ Below w.heap.size w w' := by
  subst h
  exact of_any A n c l w B hn hb hB hl
theorem refOf_eq {x : Nat} (A : Option Addr) (n c : Nat) (l : List UInt8) (w : World) (B : Nat) (hn : n = l.length) (hb : BS w B A l) (hl : n ≤ maxLen) (h : ofS l = x) :
    Calls Try.prog 27 #[.slice A n c] w fun e w' => e = .returned (.int .u32 (x : Int)) ∧ w = w' := by
  subst h
  exact refOf_any A n c l w B hn hb hl
theorem more_eq {x y : Nat} (s : Int) (A : Option Addr) (n c : Nat) (l : List UInt8) (w : World) (B : Nat) (hs : s = (x : Int)) (hx : x < 4294967296) (hn : n = l.length) (hb : BS w B A l) (hB : B ≤ w.heap.size) (hl : n ≤ maxLen) (h : moreS x l = y) :
    Calls Try.prog 28 #[.int .u32 s, .slice A n c] w fun e w' => e = .returned (.int .u32 (y : Int)) ∧ Below w.heap.size w w' := by
  subst h
  exact more_any s A n c l w B x hs hx hn hb hB hl
theorem refMore_eq {x y : Nat} (s : Int) (A : Option Addr) (n c : Nat) (l : List UInt8) (w : World) (B : Nat) (hs : s = (x : Int)) (hx : x < 4294967296) (hn : n = l.length) (hb : BS w B A l) (hl : n ≤ maxLen) (h : moreS x l = y) :
    Calls Try.prog 29 #[.int .u32 s, .slice A n c] w fun e w' => e = .returned (.int .u32 (y : Int)) ∧ w = w' := by
  subst h
  exact refMore_any s A n c l w B x hs hx hn hb hl
theorem join_eq {x y z m : Nat} (a b n : Int) (w : World) (ha : a = (x : Int)) (hb : b = (y : Int)) (hn : n = (m : Int)) (hx : x < 4294967296) (hy : y < 4294967296) (hm : m < 9223372036854775808) (h : shN (8 * m) x ^^^ y = z) :
    Calls Try.prog 30 #[.int .u32 a, .int .u32 b, .int .i64 n] w fun e w' => e = .returned (.int .u32 (z : Int)) ∧ Below w.heap.size w w' := by
  subst h
  exact join_any a b n w x y m ha hb hn hx hy hm

theorem of19 : ofS [49, 50, 51, 52, 53, 54, 55, 56, 57] = 3808858755 := by decide +kernel
theorem of14 : ofS [49, 50, 51, 52] = 4131058926 := by decide +kernel
theorem of59 : ofS [53, 54, 55, 56, 57] = 2209703384 := by decide +kernel
theorem lt14 : 4131058926 < 4294967296 := by omega
theorem lt59 : 2209703384 < 4294967296 := by omega
theorem lt5 : 5 < 9223372036854775808 := by omega
theorem more59 : moreS 4131058926 [53, 54, 55, 56, 57] = 3808858755 := by decide +kernel
theorem join59 : shN (8 * 5) 4131058926 ^^^ 2209703384 = 3808858755 := by decide +kernel

set_option maxHeartbeats 400000 in
set_option maxRecDepth 100000 in
theorem awake3_any (w : World) : Calls Try.prog 25 #[] w fun e w' => e = .returned (.bool true) ∧ Below w.heap.size w w' := by
  have kc := fun (w : World) (C : Array Value) (n c : Nat) => Lib.run_convert_bytes_const (P := Try.prog) w 22 5 C n c Try.underlying22 Try.underlying5
  go_enter Try.func25, Try.ntmps25
  go_wp2_with fail
  refine (of_eq _ 9 9 [49, 50, 51, 52, 53, 54, 55, 56, 57] _ _ rfl (BS.lit' _ [49, 50, 51, 52, 53, 54, 55, 56, 57] _ rfl _ _ _ rfl) (lit_le rfl) (le_maxLen (by omega)) of19).mono ?_
  rintro e w1 ⟨rfl, hb1⟩
  have hB1 := Lib.hid (bthen (balloc (Below.refl _ w) _) hb1)
  clear hb1
  go_wp2_with fail
  refine (of_eq _ 4 4 [49, 50, 51, 52] _ _ rfl (BS.lit' _ [49, 50, 51, 52] _ rfl _ _ _ rfl) (lit_le rfl) (le_maxLen (by omega)) of14).mono ?_
  rintro e w2 ⟨rfl, hb2⟩
  have hB2 := Lib.hid (bthen (balloc hB1.out _) hb2)
  clear hb2 hB1
  go_wp2_with fail
  refine (more_eq 4131058926 _ 5 5 [53, 54, 55, 56, 57] _ _ rfl lt14 rfl (BS.lit' _ [53, 54, 55, 56, 57] _ rfl _ _ _ rfl) (lit_le rfl) (le_maxLen (by omega)) more59).mono ?_
  rintro e w3 ⟨rfl, hb3⟩
  have hB3 := Lib.hid (bthen (balloc hB2.out _) hb3)
  clear hb3 hB2
  go_wp2_with fail
  refine (of_eq _ 4 4 [49, 50, 51, 52] _ _ rfl (BS.lit' _ [49, 50, 51, 52] _ rfl _ _ _ rfl) (lit_le rfl) (le_maxLen (by omega)) of14).mono ?_
  rintro e w4 ⟨rfl, hb4⟩
  have hB4 := Lib.hid (bthen (balloc hB3.out _) hb4)
  clear hb4 hB3
  go_wp2_with fail
  refine (of_eq _ 5 5 [53, 54, 55, 56, 57] _ _ rfl (BS.lit' _ [53, 54, 55, 56, 57] _ rfl _ _ _ rfl) (lit_le rfl) (le_maxLen (by omega)) of59).mono ?_
  rintro e w5 ⟨rfl, hb5⟩
  have hB5 := Lib.hid (bthen (balloc hB4.out _) hb5)
  clear hb5 hB4
  go_wp2_with fail
  refine (join_eq 4131058926 2209703384 5 _ rfl rfl rfl lt14 lt59 lt5 join59).mono ?_
  rintro e w6 ⟨rfl, hb6⟩
  have hB6 := Lib.hid (bthen hB5.out hb6)
  clear hb6 hB5
  go_wp2
  go_ret
  exact ⟨rfl, hB6.out⟩

set_option maxHeartbeats 400000 in
set_option maxRecDepth 100000 in
theorem walk_crcOf (a0 : Option Addr) (len0 cap0 : Nat) (z0 : List Int) (a1 : Int) (w : World) (w0 : IsRow .u8 w a0 len0 cap0 z0) (w1 : (Lit.int .u32 a1).wf = true) :
    Calls Try.prog 9 #[.slice a0 len0 cap0, .int .u32 a1] w fun e w' => e = .returned (.bool true) ∧ Below w.heap.size w w' := by
  obtain ⟨l, rfl, hlc, hm, hB⟩ := BS.of_row w0
  obtain ⟨x, rfl, hx⟩ := u32_of_wf w1
  clear w0 w1
  have HB := Lib.hid hB
  clear hB
  by_cases hlen : 1000 < l.length
  · go_enter Try.func9, Try.ntmps9
    go_wp2_with fail
    refine (awake3_any _).mono ?_
    rintro e w1 ⟨rfl, hb1⟩
    go_wp2_with fail
    refine (awake3_any _).mono ?_
    rintro e w2 ⟨rfl, hb2⟩
    go_wp2
    go_ret
    exact ⟨rfl, bthen hb1 hb2⟩
  · have hl : l.length ≤ maxLen := by omega
    have hml := Lib.hid hl
    clear hl hm
    obtain ⟨o, ho⟩ : ∃ o, ofS l = o := ⟨_, rfl⟩
    obtain ⟨m, hmo⟩ : ∃ m, moreS x l = m := ⟨_, rfl⟩
    have Ho := Lib.hid ho
    have Hmo := Lib.hid hmo
    clear ho hmo
    go_enter Try.func9, Try.ntmps9
    go_wp2_with fail
    refine (awake3_any _).mono ?_
    rintro e w1 ⟨rfl, hb1⟩
    go_wp2_with fail
    refine (of_eq _ _ _ l _ _ rfl (HB.out.below hb1) hb1.size hml.out Ho.out).mono ?_
    rintro e w2 ⟨rfl, hb2⟩
    have hB2 := bthen hb1 hb2
    go_wp2_with fail
    refine (refOf_eq _ _ _ l _ _ rfl (HB.out.below hB2) hml.out Ho.out).mono ?_
    rintro e w3 ⟨rfl, rfl⟩
    go_wp2_with fail
    refine (more_eq _ _ _ _ l _ _ rfl hx rfl (HB.out.below hB2) hB2.size hml.out Hmo.out).mono ?_
    rintro e w3 ⟨rfl, hb3⟩
    have hB3 := bthen hB2 hb3
    go_wp2_with fail
    refine (refMore_eq _ _ _ _ l _ _ rfl hx rfl (HB.out.below hB3) hml.out Hmo.out).mono ?_
    rintro e w4 ⟨rfl, rfl⟩
    go_wp2
    go_ret
    exact ⟨rfl, hB3⟩
end Go.Proofs.Ytoieidpiebfjlaa
