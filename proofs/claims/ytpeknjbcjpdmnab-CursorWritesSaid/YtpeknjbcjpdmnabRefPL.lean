/- The walk of wayleaveref01.Put, the lowest byte first (split off for seats without records); both orders. -/
import Derived.Test.YtpeknjbcjpdmnabRefPB
import Derived.Test.YtpeknjbcjpdmnabRefGet
import Derived.Test.YtpeknjbcjpdmnabFits
import Derived.Test.YtpeknjbcjpdmnabCurP
namespace Go.Proofs.Ytpeknjbcjpdmnab
open Go.RowKit
set_option linter.unusedVariables false

set_option maxHeartbeats 800000 in
set_option maxRecDepth 100000 in
theorem refOctPutLe_any (n s : Int) (w : World) (m k : Nat) (hn : n = (m : Int)) (hs : s = (k : Int)) (hm : m < 18446744073709551616) (hk : k ≤ 8) :
    Calls Try.prog 30 #[.int .u64 n, .int .i64 s, .bool false] w fun e w' => ∃ v, e = .returned v ∧ w'.ownsRow w.heap.size 5 1 v k (bcells (leB k m)) ∧ Below w.heap.size w w' := by
  subst hn hs
  obtain ⟨i0, hi0, hz0, hz1, hz2⟩ := info_parts u8_infoO
  go_enter Try.func30, Try.ntmps30
  go_wp2_with fail
  go_loopw [0, 7, 8] (fun x v i wr => ∃ (q : Nat) (dn : List UInt8), q < 18446744073709551616 ∧ dn.length ≤ k ∧ Hid (leB k m = dn ++ leB (k - dn.length) q) ∧ x = .int .u64 (q : Int) ∧ i = .int .i64 (dn.length : Int) ∧ Below w.heap.size w wr ∧ (∃ A c, v = .slice A dn.length c) ∧ wr.ownsRow w.heap.size 5 1 v dn.length (bcells dn))
    (fun _ _ i _ => k - (intOf i).toNat)
  case atStart => exact ⟨m, [], hm, by simp, rfl, rfl, rfl, Below.refl _ _, ⟨_, _, rfl⟩, World.ownsRow_nil _ _ _ _⟩
  case round =>
    obtain ⟨q, dn, hq, hdk, hv, rfl, rfl, hbel, ⟨A, c, rfl⟩, hown⟩ := hrel
    have hsz : w.heap.size ≤ wr.heap.size := hbel.size
    have hrow : ∀ g, (Value.slice A dn.length c).ownBlock = some g → w.heap.size ≤ g := fun g hg => (hown.lt g hg).1
    by_cases hlt : dn.length < k
    · have h1 : (dn.length : Int) < (k : Int) := by omega
      have h2 : (dn.length : Int) < 8 := by omega
      have hlo : Hid ((q : Int) % 256 = (((UInt8.ofNat (q % 256)).toNat : Nat) : Int)) := by
        show _ = _
        rw [toNat_u8 (by omega)]
        omega
      have hv' : Hid (leB k m = (dn ++ [UInt8.ofNat (q % 256)]) ++ leB (k - (dn ++ [UInt8.ofNat (q % 256)]).length) (q / 256)) := by
        show _ = _
        rw [hv.out, List.append_assoc, List.length_append, List.length_singleton, show k - dn.length = k - (dn.length + 1) + 1 by omega, leB]
        rfl
      go_wp2_with (at_builtin; refine wpList_append_bytes _ rfl _ _ 22 rfl w.heap.size 5 i0 (.int .u8 0) 1 Try.underlying22 hi0 hz0 hz1 hz2 rfl _ dn rfl (hown.alloc _) _ _ 1 _ [UInt8.ofNat (q % 256)] rfl rfl (BS.one' _ _ _ hlo.out _) (by simp [maxLen]; omega) (by simp; omega) (by simp; omega) ?_; intro A' c' w2 hown2 hg2 _)
      go_roundw
      case rel => exact ⟨q / 256, dn ++ [UInt8.ofNat (q % 256)], by omega, by simp; omega, hv', by go_num, by simp, (hbel.alloc hsz _).grown hg2 (by simp; omega) hrow, ⟨A', c', by simp⟩, by simpa using hown2⟩
      case measure => simp [intOf]; omega
    · have hke : dn.length = k := by omega
      have h1 : ¬ (dn.length : Int) < (k : Int) := by omega
      have hvd : leB k m = dn := by rw [hv.out, hke, Nat.sub_self, leB, List.append_nil]
      have Hvd := Lib.hid hvd
      have Hke := Lib.hid hke
      clear hvd hke
      go_wp2
      go_ret
      refine ⟨_, rfl, ?_, hbel⟩
      rw [Hvd.out, ← Hke.out]
      exact hown

theorem refPut_own (big : Bool) (m k : Nat) (w : World) (hm : m < 18446744073709551616) (hk : k ≤ 8) :
    Calls Try.prog 30 #[.int .u64 (m : Int), .int .i64 (k : Int), .bool big] w fun e w' => ∃ A c, e = .returned (.slice A (putS k m big).length c) ∧ w'.ownsRow w.heap.size 5 1 (.slice A (putS k m big).length c) (putS k m big).length (bcells (putS k m big)) ∧ Below w.heap.size w w' := by
  have hl := putS_length k m big
  rcases big with _ | _
  · refine (refOctPutLe_any _ _ w m k rfl rfl hm hk).mono ?_
    rintro e w' ⟨v, h1, h2, h3⟩
    obtain ⟨A, c, rfl, _⟩ := own_slice h2
    exact ⟨A, c, by rw [hl]; exact h1, by rw [hl]; exact h2, h3⟩
  · refine (refOctPutBe_any _ _ w m k rfl rfl hm hk).mono ?_
    rintro e w' ⟨v, h1, h2, h3⟩
    obtain ⟨A, c, rfl, _⟩ := own_slice h2
    exact ⟨A, c, by rw [hl]; exact h1, by rw [hl]; exact h2, h3⟩
theorem refGetS_any (big : Bool) (A : Option Addr) (n c : Nat) (l : List UInt8) (w : World) (hn : n = l.length) (hb : BS w w.heap.size A l) (hl : n ≤ 8) :
    Calls Try.prog 44 #[.slice A n c, .bool big] w fun e w' => e = .returned (.int .u64 (getS l big : Int)) ∧ w = w' := by
  rcases big with _ | _
  · exact refGetLe_any A n c l w hn hb hl
  · exact refGetBe_any A n c l w hn hb hl

set_option maxHeartbeats 800000 in
set_option maxRecDepth 100000 in
theorem refMay_any (k n : Int) (big : Bool) (w : World) (b : Bool) (h : mayB (k, n, big) = b) :
    Calls Try.prog 39 #[.agg #[.int .i64 k, .int .i64 n, .bool big]] w fun e w' => e = .returned (.bool b) ∧ Below w.heap.size w w' := by
  subst h
  unfold mayB
  simp only
  by_cases h1 : k = 1
  · subst h1
    rw [if_pos rfl]
    by_cases h2 : 1 ≤ n
    · by_cases h3 : n ≤ 8
      · rw [decide_eq_true ⟨h2, h3⟩]
        go_enter Try.func39, Try.ntmps39
        go_wp2
        go_ret
        exact ⟨rfl, (Below.refl _ _).alloc (Nat.le_refl _) _⟩
      · rw [decide_eq_false (fun h => h3 h.2)]
        go_enter Try.func39, Try.ntmps39
        go_wp2
        go_ret
        exact ⟨rfl, (Below.refl _ _).alloc (Nat.le_refl _) _⟩
    · rw [decide_eq_false (fun h => h2 h.1)]
      go_enter Try.func39, Try.ntmps39
      go_wp2
      go_ret
      exact ⟨rfl, (Below.refl _ _).alloc (Nat.le_refl _) _⟩
  · rw [if_neg h1]
    have g1 : (k == 1) = false := by simp; exact h1
    by_cases h2 : k = 2
    · subst h2
      rw [if_neg (by omega), decide_eq_true rfl]
      go_enter Try.func39, Try.ntmps39
      go_wp2
      go_ret
      exact ⟨rfl, (Below.refl _ _).alloc (Nat.le_refl _) _⟩
    · have g2 : (k == 2) = false := by simp; exact h2
      by_cases h3 : k = 3
      · subst h3
        rw [if_pos (.inl rfl)]
        go_enter Try.func39, Try.ntmps39
        go_wp2
        go_ret
        exact ⟨rfl, (Below.refl _ _).alloc (Nat.le_refl _) _⟩
      · have g3 : (k == 3) = false := by simp; exact h3
        by_cases h4 : k = 4
        · subst h4
          rw [if_pos (.inr rfl)]
          go_enter Try.func39, Try.ntmps39
          go_wp2
          go_ret
          exact ⟨rfl, (Below.refl _ _).alloc (Nat.le_refl _) _⟩
        · have g4 : (k == 4) = false := by simp; exact h4
          rw [if_neg (by omega), decide_eq_false h2]
          go_enter Try.func39, Try.ntmps39
          go_wp2
          go_ret
          exact ⟨rfl, (Below.refl _ _).alloc (Nat.le_refl _) _⟩

theorem fits_num_eq (j q : Nat) (big : Bool) : decide (beN (putS j q true) = q) = decide (getS (putS j q big) big = q) := by
  apply decide_eq_decide.2
  constructor
  · intro h
    exact get_put (fits_num_lt h) big
  · intro h
    have := getS_pow (putS j q big) big
    rw [h, putS_length] at this
    exact fits_num_iff this
end Go.Proofs.Ytpeknjbcjpdmnab
