/- Laid into one text: Varint VarintP VarintR VarintE. -/
import Derived.Test.YtgohhojoahlfiaaKA
import Derived.Test.YtgohhojoahlfiaaProg
import Derived.WalkKit
import Derived.Outline
import Derived.Deep.QuietTactic
import Derived.BigQuiet
import Derived.Test.YtgohhojoahlfiaaShelf

/- The walk of 'varint.Get'. -/
namespace Go.Proofs.Ytgohhojoahlfiaa
open Go.RowKit
set_option linter.unusedVariables false

def GetIs (w : World) (l : List UInt8) (e : Ending) (w' : World) : Prop :=
  e = .returned (.tuple #[.int .u64 ((vgetS l).1 : Int), .int .i64 ((vgetS l).2.1 : Int), .int .i64 ((vgetS l).2.2 : Int)]) ∧ w = w'
theorem getIs_of {w : World} {l : List UInt8} {x y z : Int} {a b c : Nat} (h : vgetS l = (a, b, c)) (hx : x = (a : Int)) (hy : y = (b : Int)) (hz : z = (c : Int)) :
    GetIs w l (.returned (.tuple #[.int .u64 x, .int .i64 y, .int .i64 z])) w := by
  subst hx hy hz
  exact ⟨by rw [h], rfl⟩

set_option maxHeartbeats 400000 in
set_option maxRecDepth 100000 in
theorem get_any (A : Option Addr) (n c : Nat) (l : List UInt8) (w : World) (B : Nat) (hn : n = l.length) (hb : BS w B A l) (hl : n ≤ maxLen) :
    Calls Try.prog 100 #[.slice A n c] w (GetIs w l) := by
  subst hn
  unfold maxLen at hl
  have hB := Lib.hid hb
  clear hb
  go_enter Try.func100, Try.ntmps100
  go_wp2
  go_loop [5, 10] (fun n i => ∃ k acc : Nat, k ≤ l.length ∧ k ≤ 9 ∧ i = .int .i64 (k : Int) ∧ n = .int .u64 (acc : Int) ∧ Hid (acc < 128 ^ k) ∧ Hid (vgetS l = vget k acc (l.drop k))) (fun _ i => l.length - (intOf i).toNat)
  case atStart => exact ⟨0, 0, by omega, by omega, rfl, rfl, by simp [Hid], rfl⟩
  case round =>
    obtain ⟨k, acc, hk, hk9, rfl, rfl, hacc, hv⟩ := hrel
    by_cases hlt : k < l.length
    · obtain ⟨ad, rfl, _, hc⟩ := hB.out.at_ hlt
      have hch := u8_lt l[k]
      generalize hcc : (l[k]).toNat = d at hc hch
      have Hcc := Lib.hid hcc
      clear hcc
      by_cases h9 : k = 9
      · have h9' : ((k : Int) == 9) = true := by simp; omega
        have hor := fun h => vor (d := d) hacc.out hch (by omega) (fun _ => h)
        have Hor := Lib.hid hor
        have H9 := Lib.hid h9
        clear hor h9
        by_cases h1 : 1 < d
        · go_wp2
          go_ret3
          exact getIs_of (hv.out.trans (vget_form hlt Hcc.out (by have := H9.out; omega))) rfl rfl rfl
        · have hk0 : 0 < k := by have := H9.out; omega
          by_cases h0 : d = 0
          · subst h0
            go_wp2
            go_ret3
            exact getIs_of (hv.out.trans (vget_form hlt Hcc.out (by have := H9.out; omega))) rfl rfl rfl
          · have h0' : ((d : Int) == 0) = false := by simp; omega
            go_wp2
            go_ret3
            exact getIs_of (hv.out.trans (vget_done hlt Hcc.out (by omega) (by omega) (by omega))) (Hor.out (by omega)) rfl rfl
      · have h9' : ((k : Int) == 9) = false := by simp; omega
        have Hor := Lib.hid (vor (d := d) hacc.out hch (by omega) (fun h => absurd h h9))
        by_cases h1 : d < 128
        · by_cases h0 : d = 0
          · subst h0
            by_cases hk0 : 0 < k
            · go_wp2
              go_ret3
              exact getIs_of (hv.out.trans (vget_form hlt Hcc.out (by omega))) rfl rfl rfl
            · go_wp2
              go_ret3
              exact getIs_of (hv.out.trans (vget_done hlt Hcc.out (by omega) (by omega) (by omega))) Hor.out (by omega) rfl
          · have h0' : ((d : Int) == 0) = false := by simp; omega
            go_wp2
            go_ret3
            exact getIs_of (hv.out.trans (vget_done hlt Hcc.out (by omega) (by omega) (by omega))) Hor.out (by omega) rfl
        · go_wp2
          go_round
          case rel => exact ⟨k + 1, _, by omega, by omega, by go_num, by rw [Hor.out], vget_lt hacc.out, hv.out.trans (vget_next hlt Hcc.out (by omega) (by omega))⟩
          case measure => simp [intOf]; omega
    · go_wp2
      go_ret3
      exact getIs_of (hv.out.trans (vget_end (by omega))) rfl rfl rfl
end Go.Proofs.Ytgohhojoahlfiaa

/- The walks of 'varint.Size' and 'varint.Put'. -/
namespace Go.Proofs.Ytgohhojoahlfiaa
open Go.RowKit
set_option linter.unusedVariables false

theorem u8_info : (Try.prog.info? 5).map (fun i => (i.zero, i.size, i.bytes)) = some (some (.int .u8 0), 1, 1) := by kernel_rfl
theorem ret_int {k : IntKind} {a b : Int} (h : a = b) : Ending.returned (.int k a) = .returned (.int k b) := by rw [h]

theorem len64 (n : Int) (w : World) (h0 : 0 ≤ n) (h1 : n ≤ 18446744073709551615) :
    Calls Try.prog 104 #[.int .u64 n] w fun e w' => e = .returned (.int .i64 (Lib.bitLen n.toNat)) ∧ w = w' :=
  (Try.bits_Len64 n w h0 h1).mono fun _ _ h => ⟨h.1, h.2.symm⟩

set_option maxHeartbeats 400000 in
set_option maxRecDepth 100000 in
theorem size_any (n : Int) (w : World) (m : Nat) (hn : n = (m : Int)) (hm : m < 18446744073709551616) :
    Calls Try.prog 95 #[.int .u64 n] w fun e w' => e = .returned (.int .i64 ((vput m).length : Int)) ∧ w = w' := by
  have hs := vput_size m hm
  have hle := vput_le hm
  have e : n.toNat = m := by omega
  replace hs : (vput m).length = max 1 ((Lib.bitLen n.toNat + 6) / 7) := by rw [e]; exact hs
  have h0 : 0 ≤ n := by omega
  have h1 : n ≤ 18446744073709551615 := by omega
  clear hn e hm
  go_enter Try.func95, Try.ntmps95
  go_wp2_with fail
  refine (len64 n w h0 h1).mono ?_
  rintro e w' ⟨rfl, rfl⟩
  generalize Lib.bitLen n.toNat = q at *
  have hb : q ≤ 70 := by omega
  have Hs := Lib.hid hs
  clear hs
  go_wp2
  go_ret
  exact ⟨ret_int (by have := Hs.out; omega), rfl⟩

set_option maxHeartbeats 400000 in
set_option maxRecDepth 100000 in
theorem put_any (n : Int) (w : World) (m : Nat) (hn : n = (m : Int)) (hm : m < 18446744073709551616) :
    Calls Try.prog 80 #[.int .u64 n] w fun e w' => ∃ v, e = .returned v ∧ w'.ownsRow w.heap.size 5 1 v (vput m).length (bcells (vput m)) ∧ Below w.heap.size w w' := by
  subst hn
  obtain ⟨i0, hi0, hz0, hz1, hz2⟩ := info_parts u8_info
  have hle := vput_le hm
  go_enter Try.func80, Try.ntmps80
  go_wp2_with fail
  refine (size_any m w m rfl hm).mono ?_
  rintro e w' ⟨rfl, rfl⟩
  go_wp2_with (at_make; refine wpList_make_own _ rfl _ _ 22 rfl w.heap.size 5 i0 (.int .u8 0) 1 Try.underlying22 hi0 hz0 hz1 .i64 .i64 _ (vput m).length rfl rfl rfl (by rw [hz2]; omega) (by unfold maxLen; omega) (Nat.le_refl _) ?_; intro w1 hown1 hgrow1)
  have hb0 : Below w.heap.size w w1 := (Below.refl _ _).grown hgrow1 (Nat.le_refl _) (by simp)
  have H := Lib.hid hm
  clear hm
  go_loopw [0, 3] (fun x v wr => ∃ (q : Nat) (dn : List UInt8), q < 18446744073709551616 ∧ Hid (vput m = dn ++ vput q) ∧ x = .int .u64 (q : Int) ∧ Below w.heap.size w wr ∧ (∃ A c, v = .slice A dn.length c) ∧ wr.ownsRow w.heap.size 5 1 v dn.length (bcells dn))
    (fun x _ _ => (intOf x).toNat)
  case atStart => exact ⟨m, [], H.out, rfl, rfl, hb0, ⟨_, _, rfl⟩, hown1⟩
  case round =>
    obtain ⟨q, dn, hq, hv, rfl, hbel, ⟨A, c, rfl⟩, hown⟩ := hrel
    have hlen : dn.length + (vput q).length ≤ 10 := by
      have := congrArg List.length hv.out
      rw [List.length_append] at this
      omega
    have hp := vput_pos q
    have hsz : w.heap.size ≤ wr.heap.size := hbel.size
    have hrow : ∀ k, (Value.slice A dn.length c).ownBlock = some k → w.heap.size ≤ k := fun k hk => (hown.lt k hk).1
    by_cases h128 : q < 128
    · have hlo := Lib.hid (lobyte' q h128)
      go_wp2_with (at_builtin; refine wpList_append_bytes _ rfl _ _ 22 rfl w.heap.size 5 i0 (.int .u8 0) 1 Try.underlying22 hi0 hz0 hz1 hz2 rfl _ dn rfl (hown.alloc _) _ _ 1 _ [UInt8.ofNat q] rfl rfl (BS.one' _ _ _ hlo.out _) (by simp [maxLen]; omega) (by simp; omega) (by simp; omega) ?_; intro A' c' w2 hown2 hg2 _)
      go_ret
      refine ⟨_, rfl, ?_, ((hbel.alloc hsz _).grown hg2 (by simp; omega) hrow)⟩
      rw [hv.out, vput_lo h128]
      simpa using hown2
    · have hlo := Lib.hid (orbyte q)
      have hge : (128 : Int) ≤ (q : Int) := by omega
      go_wp2_with (at_builtin; refine wpList_append_bytes _ rfl _ _ 22 rfl w.heap.size 5 i0 (.int .u8 0) 1 Try.underlying22 hi0 hz0 hz1 hz2 rfl _ dn rfl (hown.alloc _) _ _ 1 _ [UInt8.ofNat (q % 128 + 128)] rfl rfl (BS.one' _ _ _ hlo.out _) (by simp [maxLen]; omega) (by simp; omega) (by simp; omega) ?_; intro A' c' w2 hown2 hg2 _)
      go_roundw
      case rel => exact ⟨q / 128, dn ++ [UInt8.ofNat (q % 128 + 128)], by omega, by rw [List.append_assoc]; show vput m = _; rw [hv.out, vput_hi (by omega)]; rfl, by go_num, (hbel.alloc hsz _).grown hg2 (by simp; omega) hrow, ⟨A', c', by simp⟩, by simpa using hown2⟩
      case measure => simp [intOf]; omega
end Go.Proofs.Ytgohhojoahlfiaa

/- The walks of the document's varints: 'wayleaveref02.Get', 'Put', 'Fold', 'Open'; and of 'varint.Fold', 'varint.Open'. -/
namespace Go.Proofs.Ytgohhojoahlfiaa
open Go.RowKit
set_option linter.unusedVariables false

set_option maxHeartbeats 400000 in
set_option maxRecDepth 100000 in
theorem refGet_any (A : Option Addr) (n c : Nat) (l : List UInt8) (w : World) (B : Nat) (hn : n = l.length) (hb : BS w B A l) (hl : n ≤ maxLen) :
    Calls Try.prog 90 #[.slice A n c] w (GetIs w l) := by
  subst hn
  unfold maxLen at hl
  have hB := Lib.hid hb
  clear hb
  go_enter Try.func90, Try.ntmps90
  go_wp2
  go_loop [5, 6, 7] (fun n s i => ∃ k acc sc : Nat, k ≤ l.length ∧ k ≤ 9 ∧ i = .int .i64 (k : Int) ∧ n = .int .u64 (acc : Int) ∧ s = .int .u64 (sc : Int) ∧ Hid (sc = 128 ^ k) ∧ Hid (acc < 128 ^ k) ∧ Hid (vgetS l = vget k acc (l.drop k))) (fun _ _ i => l.length - (intOf i).toNat)
  case atStart => exact ⟨0, 0, 1, by omega, by omega, rfl, rfl, rfl, rfl, by simp [Hid], rfl⟩
  case round =>
    obtain ⟨k, acc, sc, hk, hk9, rfl, rfl, rfl, hsc, hacc, hv⟩ := hrel
    by_cases hlt : k < l.length
    · obtain ⟨ad, rfl, _, hc⟩ := hB.out.at_ hlt
      have hch := u8_lt l[k]
      generalize hcc : (l[k]).toNat = d at hc hch
      have Hcc := Lib.hid hcc
      clear hcc
      have hge : ¬ (9 : Int) < (k : Int) := by omega
      by_cases h9 : k = 9
      · have h9' : ((k : Int) == 9) = true := by simp; omega
        have Hor := Lib.hid (fun h => radd (d := d) hacc.out hsc.out hch (by omega) (fun _ => h))
        have Hor0 := Lib.hid (radd0 hacc.out (by omega))
        have hk0 : 0 < k := by omega
        have H9 := Lib.hid h9
        clear h9
        by_cases h1 : 1 < d
        · go_wp2
          go_ret3
          exact getIs_of (hv.out.trans (vget_form hlt Hcc.out (by have := H9.out; omega))) rfl rfl rfl
        · by_cases h0 : d = 0
          · subst h0
            go_wp2
            go_ret3
            exact getIs_of (hv.out.trans (vget_form hlt Hcc.out (by have := H9.out; omega))) rfl rfl rfl
          · have h0' : ((d : Int) == 0) = false := by simp; omega
            go_wp2
            go_ret3
            exact getIs_of (hv.out.trans (vget_done hlt Hcc.out (by omega) (by omega) (by omega))) (Hor.out (by omega)) rfl rfl
      · have h9' : ((k : Int) == 9) = false := by simp; omega
        have Hor := Lib.hid (radd (d := d) hacc.out hsc.out hch (by omega) (fun h => absurd h h9))
        have Hor0 := Lib.hid (radd0 hacc.out (by omega))
        have Hsc := Lib.hid (rsc hsc.out (by omega))
        by_cases h0 : d = 0
        · subst h0
          by_cases hk0 : 0 < k
          · go_wp2
            go_ret3
            exact getIs_of (hv.out.trans (vget_form hlt Hcc.out (by omega))) rfl rfl rfl
          · go_wp2
            go_ret3
            exact getIs_of (hv.out.trans (vget_done hlt Hcc.out (by omega) (by omega) (by omega))) Hor0.out (by omega) rfl
        · have h0' : ((d : Int) == 0) = false := by simp; omega
          by_cases h1 : d < 128
          · go_wp2
            go_ret3
            exact getIs_of (hv.out.trans (vget_done hlt Hcc.out (by omega) (by omega) (by omega))) Hor.out (by omega) rfl
          · go_wp2
            go_round
            case rel => exact ⟨k + 1, _, _, by omega, by omega, by go_num, by rw [Hor.out], by rw [Hsc.out], rfl, vget_lt hacc.out, hv.out.trans (vget_next hlt Hcc.out (by omega) (by omega))⟩
            case measure => simp [intOf]; omega
    · go_wp2
      go_ret3
      exact getIs_of (hv.out.trans (vget_end (by omega))) rfl rfl rfl

set_option maxHeartbeats 400000 in
set_option maxRecDepth 100000 in
theorem refPut_any (n : Int) (w : World) (m : Nat) (hn : n = (m : Int)) (hm : m < 18446744073709551616) :
    Calls Try.prog 53 #[.int .u64 n] w fun e w' => ∃ v, e = .returned v ∧ w'.ownsRow w.heap.size 5 1 v (vput m).length (bcells (vput m)) ∧ Below w.heap.size w w' := by
  subst hn
  obtain ⟨i0, hi0, hz0, hz1, hz2⟩ := info_parts u8_info
  have hle := vput_le hm
  go_enter Try.func53, Try.ntmps53
  go_wp2_with fail
  have H := Lib.hid hm
  clear hm
  go_loopw [0, 3] (fun x v wr => ∃ (q : Nat) (dn : List UInt8), q < 18446744073709551616 ∧ Hid (vput m = dn ++ vput q) ∧ x = .int .u64 (q : Int) ∧ Below w.heap.size w wr ∧ (∃ A c, v = .slice A dn.length c) ∧ wr.ownsRow w.heap.size 5 1 v dn.length (bcells dn))
    (fun x _ _ => (intOf x).toNat)
  case atStart => exact ⟨m, [], H.out, rfl, rfl, Below.refl _ _, ⟨_, _, rfl⟩, World.ownsRow_nil _ _ _ _⟩
  case round =>
    obtain ⟨q, dn, hq, hv, rfl, hbel, ⟨A, c, rfl⟩, hown⟩ := hrel
    have hlen : dn.length + (vput q).length ≤ 10 := by
      have := congrArg List.length hv.out
      rw [List.length_append] at this
      omega
    have hp := vput_pos q
    have hsz : w.heap.size ≤ wr.heap.size := hbel.size
    have hrow : ∀ k, (Value.slice A dn.length c).ownBlock = some k → w.heap.size ≤ k := fun k hk => (hown.lt k hk).1
    by_cases h128 : q < 128
    · have hlo := Lib.hid (lobyte' q h128)
      go_wp2_with (at_builtin; refine wpList_append_bytes _ rfl _ _ 22 rfl w.heap.size 5 i0 (.int .u8 0) 1 Try.underlying22 hi0 hz0 hz1 hz2 rfl _ dn rfl (hown.alloc _) _ _ 1 _ [UInt8.ofNat q] rfl rfl (BS.one' _ _ _ hlo.out _) (by simp [maxLen]; omega) (by simp; omega) (by simp; omega) ?_; intro A' c' w2 hown2 hg2 _)
      go_ret
      refine ⟨_, rfl, ?_, ((hbel.alloc hsz _).grown hg2 (by simp; omega) hrow)⟩
      rw [hv.out, vput_lo h128]
      simpa using hown2
    · have hlo : Hid ((q : Int) % 128 + 128 = (((UInt8.ofNat (q % 128 + 128)).toNat : Nat) : Int)) := by
        show _ = _
        rw [toNat_u8 (by omega)]
        omega
      have hge : (127 : Int) < (q : Int) := by omega
      go_wp2_with (at_builtin; refine wpList_append_bytes _ rfl _ _ 22 rfl w.heap.size 5 i0 (.int .u8 0) 1 Try.underlying22 hi0 hz0 hz1 hz2 rfl _ dn rfl (hown.alloc _) _ _ 1 _ [UInt8.ofNat (q % 128 + 128)] rfl rfl (BS.one' _ _ _ hlo.out _) (by simp [maxLen]; omega) (by simp; omega) (by simp; omega) ?_; intro A' c' w2 hown2 hg2 _)
      go_roundw
      case rel => exact ⟨q / 128, dn ++ [UInt8.ofNat (q % 128 + 128)], by omega, by rw [List.append_assoc]; show vput m = _; rw [hv.out, vput_hi (by omega)]; rfl, by go_num, (hbel.alloc hsz _).grown hg2 (by simp; omega) hrow, ⟨A', c', by simp⟩, by simpa using hown2⟩
      case measure => simp [intOf]; omega
end Go.Proofs.Ytgohhojoahlfiaa

/- The contracts of varint's functions with their values named. -/
namespace Go.Proofs.Ytgohhojoahlfiaa
open Go.RowKit
set_option linter.unusedVariables false

theorem get_eq {a b e : Nat} (A : Option Addr) (n c : Nat) (l : List UInt8) (w : World) (B : Nat) (hn : n = l.length) (hb : BS w B A l) (hl : n ≤ maxLen) (h : vgetS l = (a, b, e)) :
    Calls Try.prog 100 #[.slice A n c] w fun x w' => x = .returned (.tuple #[.int .u64 (a : Int), .int .i64 (b : Int), .int .i64 (e : Int)]) ∧ w = w' :=
  (get_any A n c l w B hn hb hl).mono fun _ _ hh => by
    obtain ⟨h1, h2⟩ := hh
    rw [h] at h1
    exact ⟨h1, h2⟩
theorem refGet_eq {a b e : Nat} (A : Option Addr) (n c : Nat) (l : List UInt8) (w : World) (B : Nat) (hn : n = l.length) (hb : BS w B A l) (hl : n ≤ maxLen) (h : vgetS l = (a, b, e)) :
    Calls Try.prog 90 #[.slice A n c] w fun x w' => x = .returned (.tuple #[.int .u64 (a : Int), .int .i64 (b : Int), .int .i64 (e : Int)]) ∧ w = w' :=
  (refGet_any A n c l w B hn hb hl).mono fun _ _ hh => by
    obtain ⟨h1, h2⟩ := hh
    rw [h] at h1
    exact ⟨h1, h2⟩

theorem size_eq {k : Nat} (n : Int) (w : World) (m : Nat) (hn : n = (m : Int)) (hm : m < 18446744073709551616) (h : (vput m).length = k) :
    Calls Try.prog 95 #[.int .u64 n] w fun e w' => e = .returned (.int .i64 (k : Int)) ∧ w = w' :=
  (size_any n w m hn hm).mono fun _ _ hh => ⟨by rw [← h]; exact hh.1, hh.2⟩
theorem u64_of_wf {n : Int} (h : (Lit.int .u64 n).wf = true) : ∃ m : Nat, n = (m : Int) ∧ m < 18446744073709551616 := by
  simp [Lit.wf, IntKind.min, IntKind.max, IntKind.bits, IntKind.signed] at h
  exact ⟨n.toNat, by omega, by omega⟩

theorem ret_true {b : Bool} (h : b = true) : Ending.returned (.bool b) = .returned (.bool true) := by rw [h]
theorem three_le : 3 ≤ maxLen := by unfold maxLen; omega
theorem two_le : 2 ≤ maxLen := by unfold maxLen; omega
theorem one_le : 1 ≤ maxLen := by unfold maxLen; omega

end Go.Proofs.Ytgohhojoahlfiaa
