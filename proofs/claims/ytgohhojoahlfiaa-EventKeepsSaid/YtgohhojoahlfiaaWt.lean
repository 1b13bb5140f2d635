/- Weights: a number's bits, of each NaN the same; whether two are one; their bytes; by the program and by the document. -/
import Derived.Test.YtgohhojoahlfiaaPutX
import Derived.Test.YtgohhojoahlfiaaEG
import Derived.WalkLawsBesides
import Derived.BigQuiet
import Derived.Laws.Externs
namespace Go.Proofs.Ytgohhojoahlfiaa
open Go.RowKit
set_option linter.unusedVariables false
set_option linter.unusedSimpArgs false

/-- Is a number (by its bits) a NaN? -/
def nanB (n : Nat) : Bool := n / 4503599627370496 % 2048 == 2047 && n % 4503599627370496 != 0
def wbits (n : Nat) : Nat := if nanB n then 9221120237041090560 else n
theorem nan_of (n : Nat) (h : nanB n = true) : 9218868437227405312 < n % 9223372036854775808 := by
  simp only [nanB, Bool.and_eq_true, beq_iff_eq, bne_iff_ne] at h
  omega
theorem not_nan (n : Nat) (h : nanB n = false) : n % 9223372036854775808 ≤ 9218868437227405312 := by
  rcases Nat.lt_or_ge 9218868437227405312 (n % 9223372036854775808) with hc | hc
  · have : nanB n = true := by
      simp only [nanB, Bool.and_eq_true, beq_iff_eq, bne_iff_ne]
      omega
    rw [this] at h; cases h
  · exact hc
theorem order_self (n : Nat) : FloatKind.f64.format.order n n = if nanB n then none else some .eq := by
  have e1 : Ieee.double.signWeight = 9223372036854775808 := by decide
  have e2 : Ieee.double.binade = 4503599627370496 := by decide
  have e3 : Ieee.double.infRung = 9218868437227405312 := by decide
  show (Ieee.double.read n).order (Ieee.double.read n) = _
  unfold Ieee.Format.read
  simp only [e1, e2, e3]
  rcases h : nanB n with _ | _
  · have := not_nan n h
    simp only [Bool.false_eq_true, if_false]
    split
    · simp [Ieee.Datum.order]
    · split
      · simp [Ieee.Datum.order]
      · rw [if_pos (by omega)]
        simp [Ieee.Datum.order]
  · have := nan_of n h
    rw [if_neg (by omega), if_neg (by omega), if_neg (by omega)]
    simp [Ieee.Datum.order]
theorem neq_self (n : Nat) : (FloatKind.f64.format.order n n != some .eq) = nanB n := by
  rw [order_self]
  cases nanB n <;> rfl
theorem wbits_lt {n : Nat} (h : n < 18446744073709551616) : wbits n < 18446744073709551616 := by unfold wbits; split <;> omega
theorem wbits_idem (n : Nat) : wbits (wbits n) = wbits n := by
  unfold wbits
  rcases h : nanB n with _ | _
  · simp [h]
  · simp only [if_true]
    rw [if_pos (by decide)]

theorem run_f64bits (n : Nat) (w : World) : (callFunc 83 #[.float .f64 n]).run Try.prog w = .ok (.value (.int .u64 (n : Int))) w := by
  rw [run_callFunc_extern Try.func83 (by kernel_rfl) (by kernel_rfl) (by kernel_rfl) (e := Extern.MathFloatBits.float64bits) (by kernel_rfl)]
  rfl
theorem run_f64from (n : Nat) (w : World) : (callFunc 101 #[.int .u64 (n : Int)]).run Try.prog w = .ok (.value (.float .f64 n)) w := by
  rw [run_callFunc_extern Try.func101 (by kernel_rfl) (by kernel_rfl) (by kernel_rfl) (e := Extern.MathFloatBits.float64frombits) (by kernel_rfl)]
  rfl

theorem isNaN_any (n : Nat) (w : World) : Calls Try.prog 102 #[.float .f64 n] w fun e w' => e = .returned (.bool (nanB n)) ∧ w = w' := by
  have h := neq_self n
  go_enter Try.func102, Try.ntmps102
  go_wp2
  go_ret
  exact ⟨by rfl, rfl⟩
theorem wbits_any (n : Nat) (w : World) : Calls Try.prog 91 #[.float .f64 n] w fun e w' => e = .returned (.int .u64 (wbits n : Int)) ∧ w = w' := by
  have h := run_f64bits n w
  go_enter Try.func91, Try.ntmps91
  go_wp2_with fail
  refine (isNaN_any n w).mono ?_
  rintro e w2 ⟨rfl, rfl⟩
  rcases hn : nanB n with _ | _
  · go_wp2
    go_ret
    exact ⟨by unfold wbits; rw [hn]; rfl, rfl⟩
  · go_wp2
    go_ret
    exact ⟨by unfold wbits; rw [hn]; rfl, rfl⟩
theorem wsame_any (a b : Nat) (w : World) : Calls Try.prog 73 #[.float .f64 a, .float .f64 b] w fun e w' => e = .returned (.bool (wbits a == wbits b)) ∧ w = w' := by
  go_enter Try.func73, Try.ntmps73
  go_wp2_with fail
  refine (wbits_any a w).mono ?_
  rintro e w2 ⟨rfl, rfl⟩
  go_wp2_with fail
  refine (wbits_any b w).mono ?_
  rintro e w2 ⟨rfl, rfl⟩
  have h : ((wbits a : Int) == (wbits b : Int)) = (wbits a == wbits b) := by
    by_cases h : wbits a = wbits b
    · rw [h]; simp
    · rw [beq_eq_false_iff_ne.2 h, beq_eq_false_iff_ne.2 (by omega)]
  go_wp2
  go_ret
  exact ⟨by rfl, rfl⟩
/-- The bytes of a weight. -/
def wput (n : Nat) : List UInt8 := putS 8 (wbits n) true
theorem wput_len (n : Nat) : (wput n).length = 8 := putS_length _ _ _
theorem wPut_any (n : Nat) (w : World) (hn : n < 18446744073709551616) : Calls Try.prog 78 #[.float .f64 n] w fun e w' => ∃ A c, e = .returned (.slice A 8 c) ∧ w'.ownsRow w.heap.size 5 1 (.slice A 8 c) 8 (bcells (wput n)) ∧ Below w.heap.size w w' := by
  have hP := octPut_x true (wbits n) 8 w (wbits_lt hn)
  rw [show clampN 8 = 8 from rfl, show (putS 8 (wbits n) true).length = 8 from putS_length _ _ _] at hP
  have HP := Lib.hid hP
  clear hP
  go_enter Try.func78, Try.ntmps78
  go_wp2_with fail
  refine (wbits_any n w).mono ?_
  rintro e w2 ⟨rfl, rfl⟩
  go_wp2_with fail
  refine HP.out.mono ?_
  rintro e w2 ⟨A, c, rfl, hown, hb⟩
  go_wp2
  go_ret
  exact ⟨A, c, rfl, hown, hb⟩
/-- What the bytes tell: a weight, if they are its. -/
def wgetS (l : List UInt8) : Nat × Bool := if l.length = 8 ∧ wbits (beN l) = beN l then (beN l, true) else (0, false)
theorem wGet_any (A : Option Addr) (n c : Nat) (l : List UInt8) (w : World) (hn : n = l.length) (hb : BS w w.heap.size A l) (hl : n ≤ 8) (hc : n ≤ c) :
    Calls Try.prog 98 #[.slice A n c] w fun e w' => e = .returned (.tuple #[.float .f64 (wgetS l).1, .bool (wgetS l).2]) ∧ Below w.heap.size w w' := by
  subst hn
  have Hg := Lib.hid (octGetBe_any A _ c l w rfl hb hl hc)
  obtain ⟨m, hm⟩ : ∃ m, m = beN l := ⟨_, rfl⟩
  have hw : wgetS l = if l.length = 8 ∧ wbits m = m then (m, true) else (0, false) := by rw [hm]; rfl
  rw [← hm] at Hg
  have Hw := Lib.hid hw
  clear hm hb hw
  obtain ⟨nl, hnl⟩ : ∃ n, n = l.length := ⟨_, rfl⟩
  rw [← hnl] at Hw Hg hl hc ⊢
  clear hnl
  go_enter Try.func98, Try.ntmps98
  go_wp2_with fail
  refine Hg.out.mono ?_
  rintro e w2 ⟨rfl, hb2⟩
  have Hb2 := Lib.hid hb2
  have hf := run_f64from m w2
  clear hb2 Hg
  go_upto_region 3 with fail
  by_cases h8 : nl = 8
  · subst h8
    go_wp2_with fail
    refine (wbits_any m w2).mono ?_
    rintro e w3 ⟨rfl, rfl⟩
    by_cases hm : wbits m = m
    · have hmI : ((wbits m : Int) != (m : Int)) = false := by rw [hm]; simp
      have Hm := Lib.hid hm
      clear hm
      go_wp2
      go_ret2
      have hfin : wgetS l = (m, true) := Hw.out.trans (by simp [Hm.out])
      exact ⟨by rw [hfin]; rfl, Hb2.out⟩
    · have hmI : ((wbits m : Int) != (m : Int)) = true := by simp; omega
      have Hm := Lib.hid hm
      clear hm
      go_wp2
      go_ret2
      have hfin : wgetS l = (0, false) := Hw.out.trans (if_neg (fun h => Hm.out h.2))
      exact ⟨by rw [hfin]; rfl, Hb2.out⟩
  · have h8I : ((nl : Int) != 8) = true := by simp; omega
    have H8 := Lib.hid h8
    clear h8
    go_wp2
    go_ret2
    have hfin : wgetS l = (0, false) := Hw.out.trans (if_neg (fun h => H8.out h.1))
    exact ⟨by rw [hfin]; rfl, Hb2.out⟩

/- The document's. -/
theorem and_lo (n : Nat) (hn : n < 18446744073709551616) : bits BinOp.and IntKind.u64 (n : Int) 4503599627370495 = ((n % 4503599627370496 : Nat) : Int) := by
  have h := bits_and_u64_nat n 4503599627370495 (by omega) (by omega)
  rw [show (4503599627370495 : Nat) = 2 ^ 52 - 1 by decide, Nat.and_two_pow_sub_one_eq_mod] at h
  exact h
theorem and_hi (n : Nat) (hn : n < 18446744073709551616) : bits BinOp.and IntKind.u64 (n : Int) 2047 = ((n % 2048 : Nat) : Int) := by
  have h := bits_and_u64_nat n 2047 (by omega) (by omega)
  rw [show (2047 : Nat) = 2 ^ 11 - 1 by decide, Nat.and_two_pow_sub_one_eq_mod] at h
  exact h
theorem parts_any (n : Nat) (hn : n < 18446744073709551616) (w : World) : Calls Try.prog 97 #[.float .f64 n] w fun e w' => ∃ s : Bool, e = .returned (.tuple #[.bool s, .int .i64 ((n / 4503599627370496 % 2048 : Nat) : Int), .int .u64 ((n % 4503599627370496 : Nat) : Int)]) ∧ w = w' := by
  have hf := run_f64bits n w
  have h1 := and_lo n hn
  have h2 := and_hi (n / 4503599627370496) (by omega)
  rw [show ((n / 4503599627370496 : Nat) : Int) = (n : Int) / 4503599627370496 by omega] at h2
  go_enter Try.func97, Try.ntmps97
  go_wp2
  go_ret3
  exact ⟨_, rfl, rfl⟩
theorem refNan_any (n : Nat) (hn : n < 18446744073709551616) (w : World) : Calls Try.prog 82 #[.float .f64 n] w fun e w' => e = .returned (.bool (nanB n)) ∧ w = w' := by
  have Hp := Lib.hid (parts_any n hn w)
  obtain ⟨a, ha⟩ : ∃ a, a = n / 4503599627370496 % 2048 := ⟨_, rfl⟩
  obtain ⟨b, hb⟩ : ∃ b, b = n % 4503599627370496 := ⟨_, rfl⟩
  have hx : nanB n = (a == 2047 && b != 0) := by rw [ha, hb]; rfl
  rw [← ha, ← hb] at Hp
  rw [hx]
  clear ha hb hx
  go_enter Try.func82, Try.ntmps82
  go_wp2_with fail
  refine Hp.out.mono ?_
  rintro e w2 ⟨s, rfl, rfl⟩
  have h1 : ((a : Int) == 2047) = (a == 2047) := by
    by_cases h : a = 2047
    · subst h; rfl
    · rw [beq_eq_false_iff_ne.2 h, beq_eq_false_iff_ne.2 (by omega)]
  have h2 : ((b : Int) != 0) = (b != 0) := by
    by_cases h : b = 0
    · subst h; rfl
    · rw [bne_iff_ne.2 h, bne_iff_ne.2 (by omega)]
  rcases h3 : (a == 2047) with _ | _
  · rw [h3] at h1
    have h4 : ¬ (a : Int) = 2047 := by simpa using h1
    go_wp2
    go_ret
    exact ⟨by rw [h3]; rfl, rfl⟩
  · rw [h3] at h1
    have h4 : a = 2047 := by simpa using h3
    subst h4
    go_wp2
    go_ret
    exact ⟨by simp [h2], rfl⟩
theorem wput_nan : putS 8 9221120237041090560 true = [127, 248, 0, 0, 0, 0, 0, 0] := by decide +kernel
theorem refWPut_any (n : Nat) (w : World) (hn : n < 18446744073709551616) : Calls Try.prog 51 #[.float .f64 n] w fun e w' => ∃ A c, e = .returned (.slice A 8 c) ∧ w'.ownsRow w.heap.size 5 1 (.slice A 8 c) 8 (bcells (wput n)) ∧ Below w.heap.size w w' := by
  rcases hx : nanB n with _ | _
  · have hP := refPut_x true n 8 w hn
    have hw : wput n = putS 8 n true := by unfold wput wbits; rw [hx]; rfl
    rw [show clampN 8 = 8 from rfl, ← hw, wput_len] at hP
    have HP := Lib.hid hP
    have Hn := Lib.hid (refNan_any n hn w)
    rw [hx] at Hn
    have hf := run_f64bits n w
    clear hP hw hx
    go_enter Try.func51, Try.ntmps51
    go_wp2_with fail
    refine Hn.out.mono ?_
    rintro e w2 ⟨rfl, rfl⟩
    go_wp2_with fail
    refine HP.out.mono ?_
    rintro e w2 ⟨A, c, rfl, hown, hb⟩
    go_wp2
    go_ret
    exact ⟨A, c, rfl, hown, hb⟩
  · have hw : wput n = [127, 248, 0, 0, 0, 0, 0, 0] := by unfold wput wbits; rw [hx]; exact wput_nan
    have Hw := Lib.hid hw
    have Hn := Lib.hid (refNan_any n hn w)
    rw [hx] at Hn
    clear hw hx
    go_enter Try.func51, Try.ntmps51
    go_wp2_with fail
    refine Hn.out.mono ?_
    rintro e w2 ⟨rfl, rfl⟩
    go_wp2
    go_ret
    refine ⟨_, _, rfl, ?_, (Below.refl _ _).alloc (Nat.le_refl _) _⟩
    rw [Hw.out]
    exact World.ownsRow_lit w _ 8 (Nat.le_refl _) (by unfold maxLen; omega) (by simp)
theorem putS_inj {a b : Nat} (ha : a < 18446744073709551616) (hb : b < 18446744073709551616) (h : putS 8 a true = putS 8 b true) : a = b := by
  have h2 : leB 8 a = leB 8 b := by
    have := congrArg List.reverse h
    simpa [putS] using this
  have e := congrArg val h2
  rw [leB_val 8 a (by omega), leB_val 8 b (by omega)] at e
  exact e
theorem wput_beq {a b : Nat} (ha : a < 18446744073709551616) (hb : b < 18446744073709551616) : (wput a == wput b) = (wbits a == wbits b) := by
  by_cases h : wbits a = wbits b
  · rw [show wput a = wput b by unfold wput; rw [h], h]; simp
  · have hne : wput a ≠ wput b := fun e => h (putS_inj (wbits_lt ha) (wbits_lt hb) e)
    rw [beq_eq_false_iff_ne.2 h]
    exact beq_eq_false_iff_ne.2 hne
end Go.Proofs.Ytgohhojoahlfiaa
