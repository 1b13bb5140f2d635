/- The walk of cursor.fits, at an item that may be. -/
import Derived.Test.YtpeknjbcjpdmnabWrB
import Derived.Test.YtpeknjbcjpdmnabOctPB
import Derived.Deep.RegionHeld3
namespace Go.Proofs.Ytpeknjbcjpdmnab
open Go.RowKit
set_option linter.unusedVariables false

def putS (k m : Nat) (big : Bool) : List UInt8 := if big then (leB k m).reverse else leB k m
theorem putS_length (k m : Nat) (big : Bool) : (putS k m big).length = k := by unfold putS; split <;> simp [leB_length]
theorem octPut_own (big : Bool) (m k : Nat) (w : World) (hm : m < 18446744073709551616) (hk : k ≤ 8) :
    Calls Try.prog 42 #[.int .u64 (m : Int), .int .i64 (k : Int), .bool big] w fun e w' => ∃ A c, e = .returned (.slice A (putS k m big).length c) ∧ w'.ownsRow w.heap.size 5 1 (.slice A (putS k m big).length c) (putS k m big).length (bcells (putS k m big)) ∧ Below w.heap.size w w' := by
  have hl := putS_length k m big
  rcases big with _ | _
  · refine (octPutLe_any _ _ w m k rfl rfl hm hk).mono ?_
    rintro e w' ⟨v, h1, h2, h3⟩
    obtain ⟨A, c, rfl, _⟩ := own_slice h2
    exact ⟨A, c, by rw [hl]; exact h1, by rw [hl]; exact h2, h3⟩
  · refine (octPutBe_any _ _ w m k rfl rfl hm hk).mono ?_
    rintro e w' ⟨v, h1, h2, h3⟩
    obtain ⟨A, c, rfl, _⟩ := own_slice h2
    exact ⟨A, c, by rw [hl]; exact h1, by rw [hl]; exact h2, h3⟩

def fitsB (x : Item) (p : Piece) : Bool :=
  if x.1 = 1 then decide (p.2.length = 0 ∧ beN (putS x.2.1.toNat p.1 true) = p.1)
  else if x.1 = 2 then decide (p.2.length = 0)
  else if x.1 = 3 then decide (p.1 = 0 ∧ (p.2.length : Int) = x.2.1)
  else decide (p.1 = 0 ∧ (p.2.length : Int) ≤ x.2.1)

set_option maxHeartbeats 1600000 in
set_option maxRecDepth 100000 in
theorem fits_num (m k : Nat) (big : Bool) (q : Nat) (A : Option Addr) (n c : Nat) (w : World) (hk : k ≤ 8) (hq : q < 18446744073709551616) (b : Bool) (h : decide (n = 0 ∧ beN (putS k q true) = q) = b) :
    Calls Try.prog 41 #[.agg #[.int .i64 1, .int .i64 (k : Int), .bool big], .agg #[.int .u64 (q : Int), .slice A n c]] w fun e w' => e = .returned (.bool b) ∧ Below w.heap.size w w' := by
  subst h
  by_cases hn : n = 0
  · subst hn
    have Hq := Lib.hid hq
    clear hq
    rw [show decide (0 = 0 ∧ beN (putS k q true) = q) = decide (beN (putS k q true) = q) by simp]
    obtain ⟨E, hE⟩ : ∃ E, beN (putS k q true) = E := ⟨_, rfl⟩
    have HE := Lib.hid hE
    rw [hE]
    clear hE
    have hb0 : ∀ b, decide (E = q) = b → ((E : Int) == (q : Int)) = b := fun b h => by rw [← h, Bool.eq_iff_iff]; simp; omega
    have Hb0 := Lib.hid hb0
    clear hb0
    rcases hd : decide (E = q) with _ | _
    all_goals
      have hd2 := Hb0.out _ hd
      clear hd
      go_enter Try.func41, Try.ntmps41
      go_wp2
      obtain ⟨W, hW⟩ : ∃ W, W = (w.alloc (.cells #[.int .i64 1, .int .i64 (k : Int), .bool big] 68)).alloc (.cells #[.int .u64 (q : Int), .slice A 0 c] 70) := ⟨_, rfl⟩
      rw [← hW]
      have hX : Blk W w.heap.size 68 #[.int .i64 1, .int .i64 (k : Int), .bool big] := by rw [hW]; exact Blk.alloc (Blk.new w _ _ _ rfl) _
      have hP : Blk W (w.heap.size + 1) 70 #[.int .u64 (q : Int), .slice A 0 c] := by rw [hW]; exact Blk.new _ _ _ _ (by simp)
      have hBW : Below w.heap.size w W := by rw [hW]; exact ((Below.refl _ w).alloc (Nat.le_refl _) _).alloc (by simp) _
      have HX := Lib.hid hX
      have HP := Lib.hid hP
      have HBW := Lib.hid hBW
      clear hX hP hBW hW
      go_region_held3 (fun w' => w'.cell? ⟨w.heap.size, 1, none⟩ = some (.int .i64 (k : Int)) ∧ w'.cell? ⟨w.heap.size + 1, 0, none⟩ = some (.int .u64 (q : Int)) ∧ w'.cell? ⟨w.heap.size + 1, 1, none⟩ = some (.slice A 0 c))
        (first | exact ⟨HX2.out.cell 1, HP2.out.cell 0, HP2.out.cell 1⟩ | exact ⟨HX1.out.cell 1, HP1.out.cell 0, HP1.out.cell 1⟩ | exact ⟨HX.out.cell 1, HP.out.cell 0, HP.out.cell 1⟩ | exact ⟨(Blk.drew HX.out).cell 1, (Blk.drew HP.out).cell 0, (Blk.drew HP.out).cell 1⟩)
        (first
          | (go_at_call 42
             refine (octPut_own true q k _ Hq.out hk).mono ?_
             rintro e w1 ⟨A1, c1, rfl, hown1, hb1⟩
             have HX1 := Lib.hid (Blk.below (Blk.drew HX.out) hb1 HX.out.lt)
             have HP1 := Lib.hid (Blk.below (Blk.drew HP.out) hb1 HP.out.lt)
             have HB1 := Lib.hid (BS.of_own hown1).1
             have Hc1 := Lib.hid (own_le hown1)
             have Hb1 := Lib.hid hb1
             clear hown1 hb1)
          | (go_at_call 48
             refine (octGet_any true A1 _ c1 (putS k q true) _ rfl HB1.out (by rw [putS_length]; exact hk) Hc1.out).mono ?_
             rw [show getS (putS k q true) true = E from HE.out]
             rintro e w2 ⟨rfl, hb2⟩
             have HX2 := Lib.hid (Blk.below HX1.out hb2 HX1.out.lt)
             have HP2 := Lib.hid (Blk.below HP1.out hb2 HP1.out.lt)
             have Hb2 := Lib.hid hb2
             clear hb2))
      go_wp2
      go_ret
      exact ⟨rfl, (HBW.out.drew.trans (Hb1.out.mono (Nat.le_trans HBW.out.size (Nat.le_refl _)))).trans (Hb2.out.mono (Nat.le_trans HBW.out.size Hb1.out.size))⟩
  · rw [decide_eq_false (fun h => hn h.1)]
    have hnI : ((n : Int) == 0) = false := by simp; omega
    go_enter Try.func41, Try.ntmps41
    go_wp2
    go_quiet (fail)
    go_wp2
    go_ret
    exact ⟨rfl, (((Below.refl _ w).alloc (Nat.le_refl _) _).alloc (by simp) _).trans (below_drewN _)⟩

set_option maxHeartbeats 1600000 in
set_option maxRecDepth 100000 in
theorem fits_other (k n : Int) (big : Bool) (q : Nat) (A : Option Addr) (m c : Nat) (w : World) (h1 : k ≠ 1) (b : Bool)
    (h : (if k = 2 then decide (m = 0) else if k = 3 then decide (q = 0 ∧ (m : Int) = n) else decide (q = 0 ∧ (m : Int) ≤ n)) = b) :
    Calls Try.prog 41 #[.agg #[.int .i64 k, .int .i64 n, .bool big], .agg #[.int .u64 (q : Int), .slice A m c]] w fun e w' => e = .returned (.bool b) ∧ Below w.heap.size w w' := by
  have hend : Below w.heap.size w ((w.alloc (.cells #[.int .i64 k, .int .i64 n, .bool big] 68)).alloc (.cells #[.int .u64 (q : Int), .slice A m c] 70)) := ((Below.refl _ w).alloc (Nat.le_refl _) _).alloc (by simp) _
  have Hend := Lib.hid hend
  clear hend
  have g1 : (k == 1) = false := by simp; exact h1
  by_cases h2 : k = 2
  · subst h2
    rw [if_pos rfl] at h
    have hd : ((m : Int) == 0) = b := by rw [← h, Bool.eq_iff_iff]; simp
    clear h h1
    go_enter Try.func41, Try.ntmps41
    go_wp2
    go_ret
    exact ⟨rfl, Hend.out⟩
  · have g2 : (k == 2) = false := by simp; exact h2
    rw [if_neg h2] at h
    by_cases h3 : k = 3
    · subst h3
      rw [if_pos rfl] at h
      subst h
      clear h1 h2
      by_cases hq : q = 0
      · subst hq
        rw [show decide (0 = 0 ∧ (m : Int) = n) = ((m : Int) == n) by rw [Bool.eq_iff_iff]; simp]
        go_enter Try.func41, Try.ntmps41
        go_wp2
        go_ret
        exact ⟨rfl, Hend.out⟩
      · have hqI : ((q : Int) == 0) = false := by simp; omega
        rw [decide_eq_false (fun h => hq h.1)]
        go_enter Try.func41, Try.ntmps41
        go_wp2
        go_ret
        exact ⟨rfl, Hend.out⟩
    · have g3 : (k == 3) = false := by simp; exact h3
      rw [if_neg h3] at h
      subst h
      clear h1 h2 h3
      by_cases hq : q = 0
      · subst hq
        rw [show decide (0 = 0 ∧ (m : Int) ≤ n) = decide ((m : Int) ≤ n) by simp]
        go_enter Try.func41, Try.ntmps41
        go_wp2
        go_ret
        exact ⟨rfl, Hend.out⟩
      · have hqI : ((q : Int) == 0) = false := by simp; omega
        rw [decide_eq_false (fun h => hq h.1)]
        go_enter Try.func41, Try.ntmps41
        go_wp2
        go_ret
        exact ⟨rfl, Hend.out⟩

theorem fits_any (k n : Int) (big : Bool) (q : Nat) (p : List UInt8) (A : Option Addr) (c : Nat) (w : World) (hq : q < 18446744073709551616) (hmay : mayB (k, n, big) = true) :
    Calls Try.prog 41 #[.agg #[.int .i64 k, .int .i64 n, .bool big], .agg #[.int .u64 (q : Int), .slice A p.length c]] w fun e w' => e = .returned (.bool (fitsB (k, n, big) (q, p))) ∧ Below w.heap.size w w' := by
  by_cases h1 : k = 1
  · subst h1
    have hn : 1 ≤ n ∧ n ≤ 8 := by simpa [mayB] using hmay
    obtain ⟨j, rfl⟩ : ∃ j : Nat, n = (j : Int) := ⟨n.toNat, by omega⟩
    exact fits_num 0 j big q A p.length c w (by omega) hq _ rfl
  · exact fits_other k n big q A p.length c w h1 _ (by unfold fitsB; rw [if_neg h1])
end Go.Proofs.Ytpeknjbcjpdmnab
