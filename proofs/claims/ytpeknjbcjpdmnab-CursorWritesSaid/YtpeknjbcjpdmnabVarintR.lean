/- The walks of the document's varints: 'wayleaveref02.Get', 'Put', 'Fold', 'Open'; and of 'varint.Fold', 'varint.Open'. -/
import Derived.Test.YtpeknjbcjpdmnabVarint
import Derived.Test.YtpeknjbcjpdmnabVarintP
namespace Go.Proofs.Ytpeknjbcjpdmnab
open Go.RowKit
set_option linter.unusedVariables false

set_option maxHeartbeats 400000 in
set_option maxRecDepth 100000 in
theorem refGet_any (A : Option Addr) (n c : Nat) (l : List UInt8) (w : World) (B : Nat) (hn : n = l.length) (hb : BS w B A l) (hl : n ≤ maxLen) :
    Calls Try.prog 51 #[.slice A n c] w (GetIs w l) := by
  subst hn
  unfold maxLen at hl
  have hB := Lib.hid hb
  clear hb
  go_enter Try.func51, Try.ntmps51
  go_wp2
  go_loop [5, 6, 7] (fun n s i => ∃ k acc sc : Nat, k ≤ l.length ∧ k ≤ 9 ∧ i = .int .i64 (k : Int) ∧ n = .int .u64 (acc : Int) ∧ s = .int .u64 (sc : Int) ∧ Hid (sc = 128 ^ k) ∧ Hid (acc < 128 ^ k) ∧ Hid (vgetS l = vget k acc (l.drop k))) (fun _ _ i => l.length - (intOf i).toNat)
  case atStart => exact ⟨0, 0, 1, by omega, by omega, rfl, rfl, rfl, rfl, by simp [Hid], rfl⟩
  case round =>
    obtain ⟨k, acc, sc, hk, hk9, rfl, rfl, rfl, hsc, hacc, hv⟩ := hrel
    by_cases hlt : k < l.length
    · obtain ⟨ad, rfl, _, hc⟩ := hB.out.at_ hlt
      have hch := u8_lt l[k]
      generalize hcc : (l[k]).toNat = d at hc hch
      have Hcc := Lib.hid hcc
      clear hcc
      have hge : ¬ (9 : Int) < (k : Int) := by omega
      by_cases h9 : k = 9
      · have h9' : ((k : Int) == 9) = true := by simp; omega
        have Hor := Lib.hid (fun h => radd (d := d) hacc.out hsc.out hch (by omega) (fun _ => h))
        have Hor0 := Lib.hid (radd0 hacc.out (by omega))
        have hk0 : 0 < k := by omega
        have H9 := Lib.hid h9
        clear h9
        by_cases h1 : 1 < d
        · go_wp2
          go_ret3
          exact getIs_of (hv.out.trans (vget_form hlt Hcc.out (by have := H9.out; omega))) rfl rfl rfl
        · by_cases h0 : d = 0
          · subst h0
            go_wp2
            go_ret3
            exact getIs_of (hv.out.trans (vget_form hlt Hcc.out (by have := H9.out; omega))) rfl rfl rfl
          · have h0' : ((d : Int) == 0) = false := by simp; omega
            go_wp2
            go_ret3
            exact getIs_of (hv.out.trans (vget_done hlt Hcc.out (by omega) (by omega) (by omega))) (Hor.out (by omega)) rfl rfl
      · have h9' : ((k : Int) == 9) = false := by simp; omega
        have Hor := Lib.hid (radd (d := d) hacc.out hsc.out hch (by omega) (fun h => absurd h h9))
        have Hor0 := Lib.hid (radd0 hacc.out (by omega))
        have Hsc := Lib.hid (rsc hsc.out (by omega))
        by_cases h0 : d = 0
        · subst h0
          by_cases hk0 : 0 < k
          · go_wp2
            go_ret3
            exact getIs_of (hv.out.trans (vget_form hlt Hcc.out (by omega))) rfl rfl rfl
          · go_wp2
            go_ret3
            exact getIs_of (hv.out.trans (vget_done hlt Hcc.out (by omega) (by omega) (by omega))) Hor0.out (by omega) rfl
        · have h0' : ((d : Int) == 0) = false := by simp; omega
          by_cases h1 : d < 128
          · go_wp2
            go_ret3
            exact getIs_of (hv.out.trans (vget_done hlt Hcc.out (by omega) (by omega) (by omega))) Hor.out (by omega) rfl
          · go_wp2
            go_round
            case rel => exact ⟨k + 1, _, _, by omega, by omega, by go_num, by rw [Hor.out], by rw [Hsc.out], rfl, vget_lt hacc.out, hv.out.trans (vget_next hlt Hcc.out (by omega) (by omega))⟩
            case measure => simp [intOf]; omega
    · go_wp2
      go_ret3
      exact getIs_of (hv.out.trans (vget_end (by omega))) rfl rfl rfl

set_option maxHeartbeats 400000 in
set_option maxRecDepth 100000 in
theorem refPut_any (n : Int) (w : World) (m : Nat) (hn : n = (m : Int)) (hm : m < 18446744073709551616) :
    Calls Try.prog 32 #[.int .u64 n] w fun e w' => ∃ v, e = .returned v ∧ w'.ownsRow w.heap.size 5 1 v (vput m).length (bcells (vput m)) ∧ Below w.heap.size w w' := by
  subst hn
  obtain ⟨i0, hi0, hz0, hz1, hz2⟩ := info_parts u8_info
  have hle := vput_le hm
  go_enter Try.func32, Try.ntmps32
  go_wp2_with fail
  have H := Lib.hid hm
  clear hm
  go_loopw [0, 3] (fun x v wr => ∃ (q : Nat) (dn : List UInt8), q < 18446744073709551616 ∧ Hid (vput m = dn ++ vput q) ∧ x = .int .u64 (q : Int) ∧ Below w.heap.size w wr ∧ (∃ A c, v = .slice A dn.length c) ∧ wr.ownsRow w.heap.size 5 1 v dn.length (bcells dn))
    (fun x _ _ => (intOf x).toNat)
  case atStart => exact ⟨m, [], H.out, rfl, rfl, Below.refl _ _, ⟨_, _, rfl⟩, World.ownsRow_nil _ _ _ _⟩
  case round =>
    obtain ⟨q, dn, hq, hv, rfl, hbel, ⟨A, c, rfl⟩, hown⟩ := hrel
    have hlen : dn.length + (vput q).length ≤ 10 := by
      have := congrArg List.length hv.out
      rw [List.length_append] at this
      omega
    have hp := vput_pos q
    have hsz : w.heap.size ≤ wr.heap.size := hbel.size
    have hrow : ∀ k, (Value.slice A dn.length c).ownBlock = some k → w.heap.size ≤ k := fun k hk => (hown.lt k hk).1
    by_cases h128 : q < 128
    · have hlo := Lib.hid (lobyte' q h128)
      go_wp2_with (at_builtin; refine wpList_append_bytes _ rfl _ _ 22 rfl w.heap.size 5 i0 (.int .u8 0) 1 Try.underlying22 hi0 hz0 hz1 hz2 rfl _ dn rfl (hown.alloc _) _ _ 1 _ [UInt8.ofNat q] rfl rfl (BS.one' _ _ _ hlo.out _) (by simp [maxLen]; omega) (by simp; omega) (by simp; omega) ?_; intro A' c' w2 hown2 hg2 _)
      go_ret
      refine ⟨_, rfl, ?_, ((hbel.alloc hsz _).grown hg2 (by simp; omega) hrow)⟩
      rw [hv.out, vput_lo h128]
      simpa using hown2
    · have hlo : Hid ((q : Int) % 128 + 128 = (((UInt8.ofNat (q % 128 + 128)).toNat : Nat) : Int)) := by
        show _ = _
        rw [toNat_u8 (by omega)]
        omega
      have hge : (127 : Int) < (q : Int) := by omega
      go_wp2_with (at_builtin; refine wpList_append_bytes _ rfl _ _ 22 rfl w.heap.size 5 i0 (.int .u8 0) 1 Try.underlying22 hi0 hz0 hz1 hz2 rfl _ dn rfl (hown.alloc _) _ _ 1 _ [UInt8.ofNat (q % 128 + 128)] rfl rfl (BS.one' _ _ _ hlo.out _) (by simp [maxLen]; omega) (by simp; omega) (by simp; omega) ?_; intro A' c' w2 hown2 hg2 _)
      go_roundw
      case rel => exact ⟨q / 128, dn ++ [UInt8.ofNat (q % 128 + 128)], by omega, by rw [List.append_assoc]; show vput m = _; rw [hv.out, vput_hi (by omega)]; rfl, by go_num, (hbel.alloc hsz _).grown hg2 (by simp; omega) hrow, ⟨A', c', by simp⟩, by simpa using hown2⟩
      case measure => simp [intOf]; omega
end Go.Proofs.Ytpeknjbcjpdmnab
