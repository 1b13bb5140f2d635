/- The reader: Take, Num, Var, Text, End. -/
import Derived.Test.YtpeknjbcjpdmnabRdP
import Derived.Test.YtpeknjbcjpdmnabOctGB
namespace Go.Proofs.Ytpeknjbcjpdmnab
open Go.RowKit
set_option linter.unusedVariables false

theorem octGet_any (big : Bool) (A : Option Addr) (n c : Nat) (l : List UInt8) (w : World) (hn : n = l.length) (hb : BS w w.heap.size A l) (hl : n ≤ 8) (hc : n ≤ c) :
    Calls Try.prog 48 #[.slice A n c, .bool big] w fun e w' => e = .returned (.int .u64 (getS l big : Int)) ∧ Below w.heap.size w w' := by
  rcases big with _ | _
  · exact octGetLe_any A n c l w hn hb hl hc
  · exact octGetBe_any A n c l w hn hb hl hc

def NumIs (w : World) (base g : Nat) (l : List UInt8) (r : St × Nat) (x : Ending) (w' : World) : Prop :=
  x = .returned (.int .u64 (r.2 : Int)) ∧ RdW w' base g l r.1 ∧ w.grownBy w' (some g)

section
variable (base g : Nat) (l : List UInt8) (s : St) (w : World)

set_option maxHeartbeats 800000 in
set_option maxRecDepth 100000 in
theorem rdTake_any (n : Int) (h : RdW w base g l s) (hs : okS l s) (hl : l.length ≤ 1000000000) (hn : n < 9223372036854775808) :
    Calls Try.prog 19 #[.pointer (some ⟨g, 0, none⟩), .int .i64 n] w (CutIs w base g l (takeS l s n)) := by
  have H := Lib.hid h
  have Hs := Lib.hid hs
  clear h hs
  by_cases h0 : n < 0
  · rw [show takeS l s n = (failS s 1, []) from if_pos h0]
    go_enter Try.func19, Try.ntmps19
    go_wp2_with fail
    refine (rdFail_st base g l s 1 _ H.out).mono ?_
    rintro x w2 ⟨rfl, hR, hg⟩
    go_wp2
    go_ret
    exact cutIs_no hR hg
  · obtain ⟨k, rfl⟩ : ∃ k : Nat, n = (k : Int) := ⟨n.toNat, by omega⟩
    rw [show takeS l s (k : Int) = cutS l s 0 k by unfold takeS; rw [if_neg h0]; rfl]
    go_enter Try.func19, Try.ntmps19
    go_wp2_with fail
    refine (rdCut_any base g l s 0 k _ H.out Hs.out Hs.out.1 hl (by omega)).mono ?_
    rintro x w2 ⟨A, c, rfl, hown, hR, hg⟩
    have Hown := Lib.hid hown
    clear hown
    go_wp2
    go_ret
    exact ⟨A, c, rfl, Hown.out, hR, hg⟩

set_option maxHeartbeats 800000 in
set_option maxRecDepth 100000 in
theorem rdNum_any (n : Int) (big : Bool) (h : RdW w base g l s) (hs : okS l s) (hl : l.length ≤ 1000000000) :
    Calls Try.prog 20 #[.pointer (some ⟨g, 0, none⟩), .int .i64 n, .bool big] w (NumIs w base g l (numS l s n big)) := by
  have H := Lib.hid h
  have Hs := Lib.hid hs
  clear h hs
  by_cases h1 : n < 1
  · rw [show numS l s n big = (failS s 1, 0) from if_pos (.inl h1)]
    go_enter Try.func20, Try.ntmps20
    go_wp2_with fail
    refine (rdFail_st base g l s 1 _ H.out).mono ?_
    rintro x w2 ⟨rfl, hR, hg⟩
    go_wp2
    go_ret
    exact ⟨rfl, hR, hg⟩
  · by_cases h2 : 8 < n
    · rw [show numS l s n big = (failS s 1, 0) from if_pos (.inr h2)]
      go_enter Try.func20, Try.ntmps20
      go_wp2_with fail
      refine (rdFail_st base g l s 1 _ H.out).mono ?_
      rintro x w2 ⟨rfl, hR, hg⟩
      go_wp2
      go_ret
      exact ⟨rfl, hR, hg⟩
    · obtain ⟨k, rfl⟩ : ∃ k : Nat, n = (k : Int) := ⟨n.toNat, by omega⟩
      rw [show numS l s (k : Int) big = ((cutS l s 0 k).1, getS (cutS l s 0 k).2 big) by unfold numS; rw [if_neg (by omega)]; rfl]
      have hlen := cut_len l s 0 k
      obtain ⟨r, hr⟩ : ∃ r, cutS l s 0 k = r := ⟨_, rfl⟩
      rw [hr] at hlen ⊢
      have Hr := Lib.hid hr
      clear hr
      go_enter Try.func20, Try.ntmps20
      go_wp2_with fail
      refine (rdCut_any base g l s 0 k _ H.out Hs.out Hs.out.1 hl (by omega)).mono ?_
      rw [Hr.out]
      rintro x w2 ⟨A, c, rfl, hown, hR, hg⟩
      have Hb := Lib.hid (BS.of_own hown).1
      have h3 := own_le hown
      clear hown
      go_wp2_with fail
      refine (octGet_any big _ _ _ r.2 _ rfl Hb.out (by omega) (by omega)).mono ?_
      rintro x w3 ⟨rfl, hb⟩
      go_wp2
      go_ret
      exact ⟨rfl, hR.below hb, grownTrans hg (grownOf hb)⟩

set_option maxHeartbeats 800000 in
set_option maxRecDepth 100000 in
theorem rdVar_any (h : RdW w base g l s) (hs : okS l s) (hl : l.length ≤ 1000000000) :
    Calls Try.prog 21 #[.pointer (some ⟨g, 0, none⟩)] w (NumIs w base g l (varS l s)) := by
  have H := Lib.hid h
  have Hs := Lib.hid hs
  have hok := ok_peek hs
  unfold varS
  rcases hp : peekS l s with ⟨⟨at_, fa, fe⟩, n, k⟩
  rw [hp] at hok
  have Hp := Lib.hid hp
  have hk : at_ + k ≤ l.length := by have := hok.2.1; have := hok.2.2.1; simp only at *; omega
  clear h hs hok hp
  go_enter Try.func21, Try.ntmps21
  go_wp2_with fail
  refine (rdPeek_any base g l s _ H.out Hs.out hl).mono ?_
  rw [Hp.out]
  rintro x w2 ⟨rfl, hR, hg⟩
  obtain ⟨A, c, hr, hown, hne, hc⟩ := hR
  have h0 := Rd.c0 hr; have h1 := Rd.c1 hr; have h2 := Rd.c2 hr; have h3 := Rd.c3 hr
  have f1 := Rd.fr hr 1
  have Hr := Lib.hid hr
  have Hown := Lib.hid hown
  have Hne := Lib.hid hne
  have hw : IntKind.i64.wrap ((at_ : Int) + (k : Int)) = (at_ : Int) + (k : Int) := IntWalk.i64_in _ (by omega)
  clear hr hown hne
  go_wp2
  go_ret
  have hgs := grownSet w2 ⟨g, 1, none⟩ (.int .i64 ((at_ : Int) + (k : Int)))
  exact ⟨rfl, Rdr.turn (Blk.set_ Hr.out 1 (.int .i64 ((at_ : Int) + (k : Int)))) Hown.out Hne.out hc hgs, grownTrans hg hgs⟩

set_option maxHeartbeats 800000 in
set_option maxRecDepth 100000 in
theorem rdText_any (m : Int) (h : RdW w base g l s) (hs : okS l s) (hl : l.length ≤ 1000000000) (hm : m < 9223372036854775808) :
    Calls Try.prog 22 #[.pointer (some ⟨g, 0, none⟩), .int .i64 m] w (CutIs w base g l (textS l s m)) := by
  have H := Lib.hid h
  have Hs := Lib.hid hs
  have hok := ok_peek hs
  unfold textS
  rcases hp : peekS l s with ⟨s1, n, k⟩
  rw [hp] at hok
  have Hp := Lib.hid hp
  simp only at hok
  obtain ⟨hok1, hok2, hok3, hok4⟩ := hok
  have Hok1 := Lib.hid hok1
  have Hok2 := Lib.hid hok2
  clear h hs hp hok1 hok2 hok4
  by_cases h0 : m < 0
  · rw [if_pos (.inl h0)]
    go_enter Try.func22, Try.ntmps22
    go_wp2_with fail
    refine (rdPeek_any base g l s _ H.out Hs.out hl).mono ?_
    rw [Hp.out]
    rintro x w2 ⟨rfl, hR, hg⟩
    go_wp2_with fail
    refine (rdFail_st base g l s1 4 _ hR).mono ?_
    rintro x w3 ⟨rfl, hR3, hg3⟩
    go_wp2
    go_ret
    exact cutIs_no hR3 (grownTrans hg hg3)
  · obtain ⟨q, rfl⟩ : ∃ q : Nat, m = (q : Int) := ⟨m.toNat, by omega⟩
    have hwq : IntKind.u64.wrap (q : Int) = (q : Int) := wrap_u64_nat q (by omega)
    by_cases h1 : (q : Int) < (n : Int)
    · rw [if_pos (.inr h1)]
      go_enter Try.func22, Try.ntmps22
      go_wp2_with fail
      refine (rdPeek_any base g l s _ H.out Hs.out hl).mono ?_
      rw [Hp.out]
      rintro x w2 ⟨rfl, hR, hg⟩
      go_wp2_with fail
      refine (rdFail_st base g l s1 4 _ hR).mono ?_
      rintro x w3 ⟨rfl, hR3, hg3⟩
      go_wp2
      go_ret
      exact cutIs_no hR3 (grownTrans hg hg3)
    · rw [if_neg (by simp only; omega)]
      have hwn : IntKind.i64.wrap (n : Int) = (n : Int) := IntWalk.i64_in _ (by omega)
      have Hn : Hid (n < 9223372036854775808) := by show n < _; omega
      clear hm
      go_enter Try.func22, Try.ntmps22
      go_wp2_with fail
      refine (rdPeek_any base g l s _ H.out Hs.out hl).mono ?_
      rw [Hp.out]
      rintro x w2 ⟨rfl, hR, hg⟩
      go_wp2_with fail
      refine (rdCut_any base g l s1 k n _ hR Hok1.out (by rw [Hok2.out]; exact hok3) hl Hn.out).mono ?_
      rintro x w3 ⟨A, c, rfl, hown, hR3, hg3⟩
      have Hown := Lib.hid hown
      clear hown
      go_wp2
      go_ret
      exact ⟨A, c, rfl, own_base' Hown.out hg.size, hR3, grownTrans hg hg3⟩

set_option maxHeartbeats 800000 in
set_option maxRecDepth 100000 in
theorem rdEnd_any (h : RdW w base g l s) (hs : okS l s) (hl : l.length ≤ 1000000000) :
    Calls Try.prog 23 #[.pointer (some ⟨g, 0, none⟩)] w fun x w' => x = .returned (.tuple #[]) ∧ RdW w' base g l (endS l s) ∧ w.grownBy w' (some g) := by
  have H := Lib.hid h
  have Hs := Lib.hid hs
  have ha := hs.1
  clear h hs
  by_cases h1 : s.1 < l.length
  · rw [show endS l s = failS s 3 from if_pos h1]
    have hI : (0 : Int) < (l.length : Int) - (s.1 : Int) := by omega
    go_enter Try.func23, Try.ntmps23
    go_wp2_with fail
    refine (rdLeft_st base g l s w H.out Hs.out hl).mono ?_
    rintro e w1 ⟨rfl, m, rfl⟩
    go_wp2_with fail
    refine (rdFail_st base g l s 3 _ (H.out.drewN m)).mono ?_
    rintro x w3 ⟨rfl, hR3, hg3⟩
    go_wp2
    go_end0
    exact ⟨rfl, hR3, grownTrans (grownDrewN w m _) hg3⟩
  · rw [show endS l s = s from if_neg h1]
    have hI : ¬ (0 : Int) < (l.length : Int) - (s.1 : Int) := by omega
    go_enter Try.func23, Try.ntmps23
    go_wp2_with fail
    refine (rdLeft_st base g l s w H.out Hs.out hl).mono ?_
    rintro e w1 ⟨rfl, m, rfl⟩
    go_wp2
    go_end0
    exact ⟨rfl, H.out.drewN m, grownDrewN w m _⟩
end
end Go.Proofs.Ytpeknjbcjpdmnab
