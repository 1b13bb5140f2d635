/- The reader: Text. -/
import Derived.Test.YtgohhojoahlfiaaK2
namespace Go.Proofs.Ytgohhojoahlfiaa
open Go.RowKit
set_option linter.unusedVariables false

section
variable (base g : Nat) (l : List UInt8) (s : St) (w : World)
set_option maxHeartbeats 800000 in
set_option maxRecDepth 100000 in
theorem rdText_any (m : Int) (h : RdW w base g l s) (hs : okS l s) (hl : l.length ≤ 1000000000) (hm : m < 9223372036854775808) :
    Calls Try.prog 84 #[.pointer (some ⟨g, 0, none⟩), .int .i64 m] w (CutIs w base g l (textS l s m)) := by
  have H := Lib.hid h
  have Hs := Lib.hid hs
  have hok := ok_peek hs
  unfold textS
  rcases hp : peekS l s with ⟨s1, n, k⟩
  rw [hp] at hok
  have Hp := Lib.hid hp
  simp only at hok
  obtain ⟨hok1, hok2, hok3, hok4⟩ := hok
  have Hok1 := Lib.hid hok1
  have Hok2 := Lib.hid hok2
  clear h hs hp hok1 hok2 hok4
  by_cases h0 : m < 0
  · rw [if_pos (.inl h0)]
    go_enter Try.func84, Try.ntmps84
    go_wp2_with fail
    refine (rdPeek_any base g l s _ H.out Hs.out hl).mono ?_
    rw [Hp.out]
    rintro x w2 ⟨rfl, hR, hg⟩
    go_wp2_with fail
    refine (rdFail_st base g l s1 4 _ hR).mono ?_
    rintro x w3 ⟨rfl, hR3, hg3⟩
    go_wp2
    go_ret
    exact cutIs_no hR3 (grownTrans hg hg3)
  · obtain ⟨q, rfl⟩ : ∃ q : Nat, m = (q : Int) := ⟨m.toNat, by omega⟩
    have hwq : IntKind.u64.wrap (q : Int) = (q : Int) := wrap_u64_nat q (by omega)
    by_cases h1 : (q : Int) < (n : Int)
    · rw [if_pos (.inr h1)]
      go_enter Try.func84, Try.ntmps84
      go_wp2_with fail
      refine (rdPeek_any base g l s _ H.out Hs.out hl).mono ?_
      rw [Hp.out]
      rintro x w2 ⟨rfl, hR, hg⟩
      go_wp2_with fail
      refine (rdFail_st base g l s1 4 _ hR).mono ?_
      rintro x w3 ⟨rfl, hR3, hg3⟩
      go_wp2
      go_ret
      exact cutIs_no hR3 (grownTrans hg hg3)
    · rw [if_neg (by simp only; omega)]
      have hwn : IntKind.i64.wrap (n : Int) = (n : Int) := IntWalk.i64_in _ (by omega)
      have Hn : Hid (n < 9223372036854775808) := by show n < _; omega
      clear hm
      go_enter Try.func84, Try.ntmps84
      go_wp2_with fail
      refine (rdPeek_any base g l s _ H.out Hs.out hl).mono ?_
      rw [Hp.out]
      rintro x w2 ⟨rfl, hR, hg⟩
      go_wp2_with fail
      refine (rdCut_any base g l s1 k n _ hR Hok1.out (by rw [Hok2.out]; exact hok3) hl Hn.out).mono ?_
      rintro x w3 ⟨A, c, rfl, hown, hR3, hg3⟩
      have Hown := Lib.hid hown
      clear hown
      go_wp2
      go_ret
      exact ⟨A, c, rfl, own_base' Hown.out hg.size, hR3, grownTrans hg hg3⟩
end
end Go.Proofs.Ytgohhojoahlfiaa
