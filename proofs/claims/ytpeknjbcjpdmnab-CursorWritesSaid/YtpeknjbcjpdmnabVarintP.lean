/- The walks of 'varint.Size' and 'varint.Put'. -/
import Derived.Test.YtpeknjbcjpdmnabVarintS
import Derived.Test.YtpeknjbcjpdmnabProg
import Derived.Test.YtpeknjbcjpdmnabShelf
import Derived.WalkKit
import Derived.Outline
import Derived.Deep.QuietTactic
import Derived.BigQuiet
namespace Go.Proofs.Ytpeknjbcjpdmnab
open Go.RowKit
set_option linter.unusedVariables false

theorem u8_info : (Try.prog.info? 5).map (fun i => (i.zero, i.size, i.bytes)) = some (some (.int .u8 0), 1, 1) := by kernel_rfl
theorem ret_int {k : IntKind} {a b : Int} (h : a = b) : Ending.returned (.int k a) = .returned (.int k b) := by rw [h]

theorem len64 (n : Int) (w : World) (h0 : 0 ≤ n) (h1 : n ≤ 18446744073709551615) :
    Calls Try.prog 58 #[.int .u64 n] w fun e w' => e = .returned (.int .i64 (Lib.bitLen n.toNat)) ∧ w = w' :=
  (Try.bits_Len64 n w h0 h1).mono fun _ _ h => ⟨h.1, h.2.symm⟩

set_option maxHeartbeats 400000 in
set_option maxRecDepth 100000 in
theorem size_any (n : Int) (w : World) (m : Nat) (hn : n = (m : Int)) (hm : m < 18446744073709551616) :
    Calls Try.prog 54 #[.int .u64 n] w fun e w' => e = .returned (.int .i64 ((vput m).length : Int)) ∧ w = w' := by
  have hs := vput_size m hm
  have hle := vput_le hm
  have e : n.toNat = m := by omega
  replace hs : (vput m).length = max 1 ((Lib.bitLen n.toNat + 6) / 7) := by rw [e]; exact hs
  have h0 : 0 ≤ n := by omega
  have h1 : n ≤ 18446744073709551615 := by omega
  clear hn e hm
  go_enter Try.func54, Try.ntmps54
  go_wp2_with fail
  refine (len64 n w h0 h1).mono ?_
  rintro e w' ⟨rfl, rfl⟩
  generalize Lib.bitLen n.toNat = q at *
  have hb : q ≤ 70 := by omega
  have Hs := Lib.hid hs
  clear hs
  go_wp2
  go_ret
  exact ⟨ret_int (by have := Hs.out; omega), rfl⟩

set_option maxHeartbeats 400000 in
set_option maxRecDepth 100000 in
theorem put_any (n : Int) (w : World) (m : Nat) (hn : n = (m : Int)) (hm : m < 18446744073709551616) :
    Calls Try.prog 43 #[.int .u64 n] w fun e w' => ∃ v, e = .returned v ∧ w'.ownsRow w.heap.size 5 1 v (vput m).length (bcells (vput m)) ∧ Below w.heap.size w w' := by
  subst hn
  obtain ⟨i0, hi0, hz0, hz1, hz2⟩ := info_parts u8_info
  have hle := vput_le hm
  go_enter Try.func43, Try.ntmps43
  go_wp2_with fail
  refine (size_any m w m rfl hm).mono ?_
  rintro e w' ⟨rfl, rfl⟩
  go_wp2_with (at_make; refine wpList_make_own _ rfl _ _ 22 rfl w.heap.size 5 i0 (.int .u8 0) 1 Try.underlying22 hi0 hz0 hz1 .i64 .i64 _ (vput m).length rfl rfl rfl (by rw [hz2]; omega) (by unfold maxLen; omega) (Nat.le_refl _) ?_; intro w1 hown1 hgrow1)
  have hb0 : Below w.heap.size w w1 := (Below.refl _ _).grown hgrow1 (Nat.le_refl _) (by simp)
  have H := Lib.hid hm
  clear hm
  go_loopw [0, 3] (fun x v wr => ∃ (q : Nat) (dn : List UInt8), q < 18446744073709551616 ∧ Hid (vput m = dn ++ vput q) ∧ x = .int .u64 (q : Int) ∧ Below w.heap.size w wr ∧ (∃ A c, v = .slice A dn.length c) ∧ wr.ownsRow w.heap.size 5 1 v dn.length (bcells dn))
    (fun x _ _ => (intOf x).toNat)
  case atStart => exact ⟨m, [], H.out, rfl, rfl, hb0, ⟨_, _, rfl⟩, hown1⟩
  case round =>
    obtain ⟨q, dn, hq, hv, rfl, hbel, ⟨A, c, rfl⟩, hown⟩ := hrel
    have hlen : dn.length + (vput q).length ≤ 10 := by
      have := congrArg List.length hv.out
      rw [List.length_append] at this
      omega
    have hp := vput_pos q
    have hsz : w.heap.size ≤ wr.heap.size := hbel.size
    have hrow : ∀ k, (Value.slice A dn.length c).ownBlock = some k → w.heap.size ≤ k := fun k hk => (hown.lt k hk).1
    by_cases h128 : q < 128
    · have hlo := Lib.hid (lobyte' q h128)
      go_wp2_with (at_builtin; refine wpList_append_bytes _ rfl _ _ 22 rfl w.heap.size 5 i0 (.int .u8 0) 1 Try.underlying22 hi0 hz0 hz1 hz2 rfl _ dn rfl (hown.alloc _) _ _ 1 _ [UInt8.ofNat q] rfl rfl (BS.one' _ _ _ hlo.out _) (by simp [maxLen]; omega) (by simp; omega) (by simp; omega) ?_; intro A' c' w2 hown2 hg2 _)
      go_ret
      refine ⟨_, rfl, ?_, ((hbel.alloc hsz _).grown hg2 (by simp; omega) hrow)⟩
      rw [hv.out, vput_lo h128]
      simpa using hown2
    · have hlo := Lib.hid (orbyte q)
      have hge : (128 : Int) ≤ (q : Int) := by omega
      go_wp2_with (at_builtin; refine wpList_append_bytes _ rfl _ _ 22 rfl w.heap.size 5 i0 (.int .u8 0) 1 Try.underlying22 hi0 hz0 hz1 hz2 rfl _ dn rfl (hown.alloc _) _ _ 1 _ [UInt8.ofNat (q % 128 + 128)] rfl rfl (BS.one' _ _ _ hlo.out _) (by simp [maxLen]; omega) (by simp; omega) (by simp; omega) ?_; intro A' c' w2 hown2 hg2 _)
      go_roundw
      case rel => exact ⟨q / 128, dn ++ [UInt8.ofNat (q % 128 + 128)], by omega, by rw [List.append_assoc]; show vput m = _; rw [hv.out, vput_hi (by omega)]; rfl, by go_num, (hbel.alloc hsz _).grown hg2 (by simp; omega) hrow, ⟨A', c', by simp⟩, by simpa using hown2⟩
      case measure => simp [intOf]; omega
end Go.Proofs.Ytpeknjbcjpdmnab
