/- The walk of octet.Put, the highest byte first. -/
import Derived.Test.YtgohhojoahlfiaaRevW
namespace Go.Proofs.Ytgohhojoahlfiaa
open Go.RowKit
set_option linter.unusedVariables false

set_option maxHeartbeats 800000 in
set_option maxRecDepth 100000 in
theorem octPutBe_any (n s : Int) (w : World) (m k : Nat) (hn : n = (m : Int)) (hs : s = (k : Int)) (hm : m < 18446744073709551616) (hk : k ≤ 8) :
    Calls Try.prog 79 #[.int .u64 n, .int .i64 s, .bool true] w fun e w' => ∃ v, e = .returned v ∧ w'.ownsRow w.heap.size 5 1 v k (bcells (leB k m).reverse) ∧ Below w.heap.size w w' := by
  subst hn hs
  obtain ⟨i0, hi0, hz0, hz1, hz2⟩ := info_parts u8_infoO
  have hk0 : (0 : Int) ≤ (k : Int) := by omega
  have hk8 : (k : Int) ≤ 8 := by omega
  go_enter Try.func79, Try.ntmps79
  go_wp2_with (at_make; refine wpList_make_full _ rfl _ _ 22 rfl w.heap.size 5 i0 (.int .u8 0) 1 Try.underlying22 hi0 hz0 hz1 .i64 .i64 _ _ k rfl rfl (by omega) (by omega) (by rw [hz2]; omega) (by unfold maxLen; omega) (Nat.le_refl _) ?_; intro w1 hown1 hgrow1)
  have hb0 : Below w.heap.size w w1 := (Below.refl _ _).grown hgrow1 (Nat.le_refl _) (by simp)
  have hown0 : w1.ownsRow w.heap.size 5 1 (.slice (some ⟨w.heap.size, 0, none⟩) k k) k (bcells (leP k m 0)) := by
    rw [leP_zero]
    have e : (madeCells (Value.int .u8 0).cells (k * 1)).toList = List.replicate k (.int .u8 0) := by
      rw [Nat.mul_one]
      exact toList_madeCells_one _ _
    rw [← e]
    exact hown1
  have Hown0 := Lib.hid hown0
  clear hown1 hown0 hgrow1
  go_loopw [15] (fun i wr => ∃ j : Nat, j ≤ k ∧ i = .int .i64 (j : Int) ∧ Below w.heap.size w wr ∧ Hid (wr.ownsRow w.heap.size 5 1 (.slice (some ⟨w.heap.size, 0, none⟩) k k) k (bcells (leP k m j)))) (fun i _ => k - (intOf i).toNat)
  case atStart => exact ⟨0, by omega, rfl, hb0, Hown0⟩
  case round =>
    obtain ⟨j, hj, rfl, hbel, hown⟩ := hrel
    by_cases hlt : j < k
    · have hltI : decide ((j : Int) < (k : Int)) = true := decide_eq_true (by omega)
      have hc := hown.out.cellAt j (by omega)
      have hc2 : (bcells (leP k m j))[j]? = some (.int .u8 0) := by
        rw [bcells, List.getElem?_map, leP_get hlt, if_neg (by omega)]
        rfl
      rw [hc2] at hc
      have hf := hown.out.frozenAt j
      have hst := hown.out.stored j (.int .u8 ((UInt8.ofNat (m / 256 ^ j % 256)).toNat : Int))
      rw [← bcells_set', leP_set hlt, ← shr_byte] at hst
      have Hst := Lib.hid hst
      clear hst hc2
      go_wp2
      go_roundw
      case rel => exact ⟨j + 1, by omega, by go_num, hbel.setCell (Nat.le_refl _) _, Hst.out.1⟩
      case measure => simp [intOf]; omega
    · obtain rfl : j = k := by omega
      have hown' : Hid (wr.ownsRow w.heap.size 5 1 (.slice (some ⟨w.heap.size, 0, none⟩) j j) j (bcells (leB j m))) := by
        show World.ownsRow _ _ _ _ _ _ _
        rw [← leP_all]
        exact hown.out
      go_wp2_with fail
      refine (reverse_own w.heap.size _ _ _ (leB j m) _ (leB_length _ _).symm hown'.out (by omega)).mono ?_
      rintro e w2 ⟨rfl, hown2, hb2⟩
      go_wp2
      go_ret
      exact ⟨_, rfl, hown2, hbel.trans hb2⟩
end Go.Proofs.Ytgohhojoahlfiaa
