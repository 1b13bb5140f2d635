/- octet.Put and wayleaveref01.Put at any size, which is held to 0 .. 8. -/
import Derived.Test.YtgohhojoahlfiaaRefPB
import Derived.Test.YtgohhojoahlfiaaRefGet
import Derived.Test.YtgohhojoahlfiaaOctPB
import Derived.Test.YtgohhojoahlfiaaKV
namespace Go.Proofs.Ytgohhojoahlfiaa
open Go.RowKit
set_option linter.unusedVariables false

set_option maxHeartbeats 800000 in
set_option maxRecDepth 100000 in
theorem octPutLe_x (n s : Int) (w : World) (m k : Nat) (hn : n = (m : Int)) (hs : min (max s 0) 8 = (k : Int)) (hm : m < 18446744073709551616) (hk : k ≤ 8) :
    Calls Try.prog 79 #[.int .u64 n, .int .i64 s, .bool false] w fun e w' => ∃ v, e = .returned v ∧ w'.ownsRow w.heap.size 5 1 v k (bcells (leB k m)) ∧ Below w.heap.size w w' := by
  subst hn
  obtain ⟨i0, hi0, hz0, hz1, hz2⟩ := info_parts u8_infoO
  have hk0 : (0 : Int) ≤ (k : Int) := by omega
  have hk8 : (k : Int) ≤ 8 := by omega
  go_enter Try.func79, Try.ntmps79
  go_wp2_with (at_make; refine wpList_make_full _ rfl _ _ 22 rfl w.heap.size 5 i0 (.int .u8 0) 1 Try.underlying22 hi0 hz0 hz1 .i64 .i64 _ _ k rfl rfl (by omega) (by omega) (by rw [hz2]; omega) (by unfold maxLen; omega) (Nat.le_refl _) ?_; intro w1 hown1 hgrow1)
  have hb0 : Below w.heap.size w w1 := (Below.refl _ _).grown hgrow1 (Nat.le_refl _) (by simp)
  have hown0 : w1.ownsRow w.heap.size 5 1 (.slice (some ⟨w.heap.size, 0, none⟩) k k) k (bcells (leP k m 0)) := by
    rw [leP_zero]
    have e : (madeCells (Value.int .u8 0).cells (k * 1)).toList = List.replicate k (.int .u8 0) := by
      rw [Nat.mul_one]
      exact toList_madeCells_one _ _
    rw [← e]
    exact hown1
  have Hown0 := Lib.hid hown0
  clear hown1 hown0 hgrow1
  go_loopw [15] (fun i wr => ∃ j : Nat, j ≤ k ∧ i = .int .i64 (j : Int) ∧ Below w.heap.size w wr ∧ Hid (wr.ownsRow w.heap.size 5 1 (.slice (some ⟨w.heap.size, 0, none⟩) k k) k (bcells (leP k m j)))) (fun i _ => k - (intOf i).toNat)
  case atStart => exact ⟨0, by omega, rfl, hb0, Hown0⟩
  case round =>
    obtain ⟨j, hj, rfl, hbel, hown⟩ := hrel
    by_cases hlt : j < k
    · have hltI : decide ((j : Int) < (k : Int)) = true := decide_eq_true (by omega)
      have hc := hown.out.cellAt j (by omega)
      have hc2 : (bcells (leP k m j))[j]? = some (.int .u8 0) := by
        rw [bcells, List.getElem?_map, leP_get hlt, if_neg (by omega)]
        rfl
      rw [hc2] at hc
      have hf := hown.out.frozenAt j
      have hst := hown.out.stored j (.int .u8 ((UInt8.ofNat (m / 256 ^ j % 256)).toNat : Int))
      rw [← bcells_set', leP_set hlt, ← shr_byte] at hst
      have Hst := Lib.hid hst
      clear hst hc2
      go_wp2
      go_roundw
      case rel => exact ⟨j + 1, by omega, by go_num, hbel.setCell (Nat.le_refl _) _, Hst.out.1⟩
      case measure => simp [intOf]; omega
    · obtain rfl : j = k := by omega
      go_wp2
      go_ret
      exact ⟨_, rfl, by rw [← leP_all]; exact hown.out, hbel⟩

set_option maxHeartbeats 800000 in
set_option maxRecDepth 100000 in
theorem octPutBe_x (n s : Int) (w : World) (m k : Nat) (hn : n = (m : Int)) (hs : min (max s 0) 8 = (k : Int)) (hm : m < 18446744073709551616) (hk : k ≤ 8) :
    Calls Try.prog 79 #[.int .u64 n, .int .i64 s, .bool true] w fun e w' => ∃ v, e = .returned v ∧ w'.ownsRow w.heap.size 5 1 v k (bcells (leB k m).reverse) ∧ Below w.heap.size w w' := by
  subst hn
  obtain ⟨i0, hi0, hz0, hz1, hz2⟩ := info_parts u8_infoO
  have hk0 : (0 : Int) ≤ (k : Int) := by omega
  have hk8 : (k : Int) ≤ 8 := by omega
  go_enter Try.func79, Try.ntmps79
  go_wp2_with (at_make; refine wpList_make_full _ rfl _ _ 22 rfl w.heap.size 5 i0 (.int .u8 0) 1 Try.underlying22 hi0 hz0 hz1 .i64 .i64 _ _ k rfl rfl (by omega) (by omega) (by rw [hz2]; omega) (by unfold maxLen; omega) (Nat.le_refl _) ?_; intro w1 hown1 hgrow1)
  have hb0 : Below w.heap.size w w1 := (Below.refl _ _).grown hgrow1 (Nat.le_refl _) (by simp)
  have hown0 : w1.ownsRow w.heap.size 5 1 (.slice (some ⟨w.heap.size, 0, none⟩) k k) k (bcells (leP k m 0)) := by
    rw [leP_zero]
    have e : (madeCells (Value.int .u8 0).cells (k * 1)).toList = List.replicate k (.int .u8 0) := by
      rw [Nat.mul_one]
      exact toList_madeCells_one _ _
    rw [← e]
    exact hown1
  have Hown0 := Lib.hid hown0
  clear hown1 hown0 hgrow1
  go_loopw [15] (fun i wr => ∃ j : Nat, j ≤ k ∧ i = .int .i64 (j : Int) ∧ Below w.heap.size w wr ∧ Hid (wr.ownsRow w.heap.size 5 1 (.slice (some ⟨w.heap.size, 0, none⟩) k k) k (bcells (leP k m j)))) (fun i _ => k - (intOf i).toNat)
  case atStart => exact ⟨0, by omega, rfl, hb0, Hown0⟩
  case round =>
    obtain ⟨j, hj, rfl, hbel, hown⟩ := hrel
    by_cases hlt : j < k
    · have hltI : decide ((j : Int) < (k : Int)) = true := decide_eq_true (by omega)
      have hc := hown.out.cellAt j (by omega)
      have hc2 : (bcells (leP k m j))[j]? = some (.int .u8 0) := by
        rw [bcells, List.getElem?_map, leP_get hlt, if_neg (by omega)]
        rfl
      rw [hc2] at hc
      have hf := hown.out.frozenAt j
      have hst := hown.out.stored j (.int .u8 ((UInt8.ofNat (m / 256 ^ j % 256)).toNat : Int))
      rw [← bcells_set', leP_set hlt, ← shr_byte] at hst
      have Hst := Lib.hid hst
      clear hst hc2
      go_wp2
      go_roundw
      case rel => exact ⟨j + 1, by omega, by go_num, hbel.setCell (Nat.le_refl _) _, Hst.out.1⟩
      case measure => simp [intOf]; omega
    · obtain rfl : j = k := by omega
      have hown' : Hid (wr.ownsRow w.heap.size 5 1 (.slice (some ⟨w.heap.size, 0, none⟩) j j) j (bcells (leB j m))) := by
        show World.ownsRow _ _ _ _ _ _ _
        rw [← leP_all]
        exact hown.out
      go_wp2_with fail
      refine (reverse_own w.heap.size _ _ _ (leB j m) _ (leB_length _ _).symm hown'.out (by omega)).mono ?_
      rintro e w2 ⟨rfl, hown2, hb2⟩
      go_wp2
      go_ret
      exact ⟨_, rfl, hown2, hbel.trans hb2⟩

set_option maxHeartbeats 800000 in
set_option maxRecDepth 100000 in
theorem refOctPutBe_x (n s : Int) (w : World) (m k : Nat) (hn : n = (m : Int)) (hs : min (max s 0) 8 = (k : Int)) (hm : m < 18446744073709551616) (hk : k ≤ 8) :
    Calls Try.prog 54 #[.int .u64 n, .int .i64 s, .bool true] w fun e w' => ∃ v, e = .returned v ∧ w'.ownsRow w.heap.size 5 1 v k (bcells (leB k m).reverse) ∧ Below w.heap.size w w' := by
  subst hn
  obtain ⟨i0, hi0, hz0, hz1, hz2⟩ := info_parts u8_infoO
  go_enter Try.func54, Try.ntmps54
  go_wp2_with fail
  go_loopw [0, 7, 8] (fun x v i wr => ∃ (q : Nat) (dn : List UInt8), q < 18446744073709551616 ∧ dn.length ≤ k ∧ Hid (leB k m = dn.reverse ++ leB (k - dn.length) q) ∧ x = .int .u64 (q : Int) ∧ i = .int .i64 (dn.length : Int) ∧ Below w.heap.size w wr ∧ (∃ A c, v = .slice A dn.length c) ∧ wr.ownsRow w.heap.size 5 1 v dn.length (bcells dn))
    (fun _ _ i _ => k - (intOf i).toNat)
  case atStart => exact ⟨m, [], hm, by simp, rfl, rfl, rfl, Below.refl _ _, ⟨_, _, rfl⟩, World.ownsRow_nil _ _ _ _⟩
  case round =>
    obtain ⟨q, dn, hq, hdk, hv, rfl, rfl, hbel, ⟨A, c, rfl⟩, hown⟩ := hrel
    have hsz : w.heap.size ≤ wr.heap.size := hbel.size
    by_cases hlt : dn.length < k
    · have h1 : (dn.length : Int) < s := by omega
      have h2 : (dn.length : Int) < 8 := by omega
      have hlo : Hid ((q : Int) % 256 = (((UInt8.ofNat (q % 256)).toNat : Nat) : Int)) := by
        show _ = _
        rw [toNat_u8 (by omega)]
        omega
      have hv' : Hid (leB k m = (UInt8.ofNat (q % 256) :: dn).reverse ++ leB (k - (UInt8.ofNat (q % 256) :: dn).length) (q / 256)) := by
        show _ = _
        rw [hv.out, List.reverse_cons, List.append_assoc, List.length_cons, show k - dn.length = k - (dn.length + 1) + 1 by omega, leB]
        rfl
      have hq' : q / 256 < 18446744073709551616 := by omega
      go_wp2_with (at_builtin; refine wpList_append_bytes _ rfl _ _ 22 rfl wr.heap.size 5 i0 (.int .u8 0) 1 Try.underlying22 hi0 hz0 hz1 hz2 rfl (.slice (some ⟨wr.heap.size, 0, none⟩) 1 1) [UInt8.ofNat (q % 256)] rfl (own_one _ _ _ _ _ hlo.out (Nat.le_refl _)) _ A _ c dn rfl rfl ((BS.of_own hown).1.alloc (Nat.le_refl _) _) (by simp [maxLen]; omega) (by simp; omega) (by simp) ?_; intro A' c' w2 hown2 hg2 _)
      have hb2 : Below wr.heap.size wr w2 := ((Below.refl _ _).alloc (Nat.le_refl _) _).grown hg2 (by simp) (by intro k hk; simp [Value.ownBlock] at hk; omega)
      have hB2 := hbel.trans (hb2.mono hsz)
      go_roundw
      case rel => exact ⟨q / 256, UInt8.ofNat (q % 256) :: dn, hq', by simp; omega, hv', by go_num, by simp, hB2, ⟨A', c', by first | (simp; done) | (simp; omega)⟩, by simpa using own_base' hown2 hsz⟩
      case measure => simp [intOf]; omega
    · have hke : dn.length = k := by omega
      have hvd : leB k m = dn.reverse := by rw [hv.out, hke, Nat.sub_self, leB, List.append_nil]
      have Hvd := Lib.hid hvd
      have Hke := Lib.hid hke
      clear hvd hke
      by_cases h1 : (dn.length : Int) < s
      · have h2 : ¬ (dn.length : Int) < 8 := by omega
        clear hs
        go_wp2
        go_ret
        refine ⟨_, rfl, ?_, hbel⟩
        rw [Hvd.out, List.reverse_reverse, ← Hke.out]
        exact hown
      · clear hs
        go_wp2
        go_ret
        refine ⟨_, rfl, ?_, hbel⟩
        rw [Hvd.out, List.reverse_reverse, ← Hke.out]
        exact hown

set_option maxHeartbeats 800000 in
set_option maxRecDepth 100000 in
theorem refOctPutLe_x (n s : Int) (w : World) (m k : Nat) (hn : n = (m : Int)) (hs : min (max s 0) 8 = (k : Int)) (hm : m < 18446744073709551616) (hk : k ≤ 8) :
    Calls Try.prog 54 #[.int .u64 n, .int .i64 s, .bool false] w fun e w' => ∃ v, e = .returned v ∧ w'.ownsRow w.heap.size 5 1 v k (bcells (leB k m)) ∧ Below w.heap.size w w' := by
  subst hn
  obtain ⟨i0, hi0, hz0, hz1, hz2⟩ := info_parts u8_infoO
  go_enter Try.func54, Try.ntmps54
  go_wp2_with fail
  go_loopw [0, 7, 8] (fun x v i wr => ∃ (q : Nat) (dn : List UInt8), q < 18446744073709551616 ∧ dn.length ≤ k ∧ Hid (leB k m = dn ++ leB (k - dn.length) q) ∧ x = .int .u64 (q : Int) ∧ i = .int .i64 (dn.length : Int) ∧ Below w.heap.size w wr ∧ (∃ A c, v = .slice A dn.length c) ∧ wr.ownsRow w.heap.size 5 1 v dn.length (bcells dn))
    (fun _ _ i _ => k - (intOf i).toNat)
  case atStart => exact ⟨m, [], hm, by simp, rfl, rfl, rfl, Below.refl _ _, ⟨_, _, rfl⟩, World.ownsRow_nil _ _ _ _⟩
  case round =>
    obtain ⟨q, dn, hq, hdk, hv, rfl, rfl, hbel, ⟨A, c, rfl⟩, hown⟩ := hrel
    have hsz : w.heap.size ≤ wr.heap.size := hbel.size
    have hrow : ∀ g, (Value.slice A dn.length c).ownBlock = some g → w.heap.size ≤ g := fun g hg => (hown.lt g hg).1
    by_cases hlt : dn.length < k
    · have h1 : (dn.length : Int) < s := by omega
      have h2 : (dn.length : Int) < 8 := by omega
      have hlo : Hid ((q : Int) % 256 = (((UInt8.ofNat (q % 256)).toNat : Nat) : Int)) := by
        show _ = _
        rw [toNat_u8 (by omega)]
        omega
      have hv' : Hid (leB k m = (dn ++ [UInt8.ofNat (q % 256)]) ++ leB (k - (dn ++ [UInt8.ofNat (q % 256)]).length) (q / 256)) := by
        show _ = _
        rw [hv.out, List.append_assoc, List.length_append, List.length_singleton, show k - dn.length = k - (dn.length + 1) + 1 by omega, leB]
        rfl
      go_wp2_with (at_builtin; refine wpList_append_bytes _ rfl _ _ 22 rfl w.heap.size 5 i0 (.int .u8 0) 1 Try.underlying22 hi0 hz0 hz1 hz2 rfl _ dn rfl (hown.alloc _) _ _ 1 _ [UInt8.ofNat (q % 256)] rfl rfl (BS.one' _ _ _ hlo.out _) (by simp [maxLen]; omega) (by simp; omega) (by simp; omega) ?_; intro A' c' w2 hown2 hg2 _)
      go_roundw
      case rel => exact ⟨q / 256, dn ++ [UInt8.ofNat (q % 256)], by omega, by simp; omega, hv', by go_num, by simp, (hbel.alloc hsz _).grown hg2 (by simp; omega) hrow, ⟨A', c', by simp⟩, by simpa using hown2⟩
      case measure => simp [intOf]; omega
    · have hke : dn.length = k := by omega
      have hvd : leB k m = dn := by rw [hv.out, hke, Nat.sub_self, leB, List.append_nil]
      have Hvd := Lib.hid hvd
      have Hke := Lib.hid hke
      clear hvd hke
      by_cases h1 : (dn.length : Int) < s
      · have h2 : ¬ (dn.length : Int) < 8 := by omega
        clear hs
        go_wp2
        go_ret
        refine ⟨_, rfl, ?_, hbel⟩
        rw [Hvd.out, ← Hke.out]
        exact hown
      · clear hs
        go_wp2
        go_ret
        refine ⟨_, rfl, ?_, hbel⟩
        rw [Hvd.out, ← Hke.out]
        exact hown

def putS (k m : Nat) (big : Bool) : List UInt8 := if big then (leB k m).reverse else leB k m
theorem putS_length (k m : Nat) (big : Bool) : (putS k m big).length = k := by unfold putS; split <;> simp [leB_length]
/-- The size, held to 0 .. 8. -/
def clampN (s : Int) : Nat := (min (max s 0) 8).toNat
theorem clampN_eq (s : Int) : min (max s 0) 8 = (clampN s : Int) := by unfold clampN; omega
theorem clampN_le (s : Int) : clampN s ≤ 8 := by unfold clampN; omega
theorem octPut_x (big : Bool) (m : Nat) (s : Int) (w : World) (hm : m < 18446744073709551616) :
    Calls Try.prog 79 #[.int .u64 (m : Int), .int .i64 s, .bool big] w fun e w' => ∃ A c, e = .returned (.slice A (putS (clampN s) m big).length c) ∧ w'.ownsRow w.heap.size 5 1 (.slice A (putS (clampN s) m big).length c) (putS (clampN s) m big).length (bcells (putS (clampN s) m big)) ∧ Below w.heap.size w w' := by
  have hl := putS_length (clampN s) m big
  rcases big with _ | _
  · refine (octPutLe_x _ _ w m (clampN s) rfl (clampN_eq s) hm (clampN_le s)).mono ?_
    rintro e w' ⟨v, h1, h2, h3⟩
    obtain ⟨A, c, rfl, _⟩ := own_slice h2
    exact ⟨A, c, by rw [hl]; exact h1, by rw [hl]; exact h2, h3⟩
  · refine (octPutBe_x _ _ w m (clampN s) rfl (clampN_eq s) hm (clampN_le s)).mono ?_
    rintro e w' ⟨v, h1, h2, h3⟩
    obtain ⟨A, c, rfl, _⟩ := own_slice h2
    exact ⟨A, c, by rw [hl]; exact h1, by rw [hl]; exact h2, h3⟩
theorem refPut_x (big : Bool) (m : Nat) (s : Int) (w : World) (hm : m < 18446744073709551616) :
    Calls Try.prog 54 #[.int .u64 (m : Int), .int .i64 s, .bool big] w fun e w' => ∃ A c, e = .returned (.slice A (putS (clampN s) m big).length c) ∧ w'.ownsRow w.heap.size 5 1 (.slice A (putS (clampN s) m big).length c) (putS (clampN s) m big).length (bcells (putS (clampN s) m big)) ∧ Below w.heap.size w w' := by
  have hl := putS_length (clampN s) m big
  rcases big with _ | _
  · refine (refOctPutLe_x _ _ w m (clampN s) rfl (clampN_eq s) hm (clampN_le s)).mono ?_
    rintro e w' ⟨v, h1, h2, h3⟩
    obtain ⟨A, c, rfl, _⟩ := own_slice h2
    exact ⟨A, c, by rw [hl]; exact h1, by rw [hl]; exact h2, h3⟩
  · refine (refOctPutBe_x _ _ w m (clampN s) rfl (clampN_eq s) hm (clampN_le s)).mono ?_
    rintro e w' ⟨v, h1, h2, h3⟩
    obtain ⟨A, c, rfl, _⟩ := own_slice h2
    exact ⟨A, c, by rw [hl]; exact h1, by rw [hl]; exact h2, h3⟩
end Go.Proofs.Ytgohhojoahlfiaa
