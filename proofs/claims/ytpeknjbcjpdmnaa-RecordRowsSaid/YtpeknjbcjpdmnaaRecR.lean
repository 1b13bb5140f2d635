/- The walks of the document's octets and records: wayleaveref01.Put (the lowest byte first), wayleaveref05.Put. -/
import Derived.Test.YtpeknjbcjpdmnaaRecN
namespace Go.Proofs.Ytpeknjbcjpdmnaa
open Go.RowKit
set_option linter.unusedVariables false

set_option maxHeartbeats 800000 in
set_option maxRecDepth 100000 in
theorem refOctPutLe_any (n s : Int) (w : World) (m k : Nat) (hn : n = (m : Int)) (hs : s = (k : Int)) (hm : m < 18446744073709551616) (hk : k ≤ 8) :
    Calls Try.prog 27 #[.int .u64 n, .int .i64 s, .bool false] w fun e w' => ∃ v, e = .returned v ∧ w'.ownsRow w.heap.size 5 1 v k (bcells (leB k m)) ∧ Below w.heap.size w w' := by
  subst hn hs
  obtain ⟨i0, hi0, hz0, hz1, hz2⟩ := info_parts u8_infoO
  go_enter Try.func27, Try.ntmps27
  go_wp2_with fail
  go_loopw [0, 7, 8] (fun x v i wr => ∃ (q : Nat) (dn : List UInt8), q < 18446744073709551616 ∧ dn.length ≤ k ∧ Hid (leB k m = dn ++ leB (k - dn.length) q) ∧ x = .int .u64 (q : Int) ∧ i = .int .i64 (dn.length : Int) ∧ Below w.heap.size w wr ∧ (∃ A c, v = .slice A dn.length c) ∧ wr.ownsRow w.heap.size 5 1 v dn.length (bcells dn))
    (fun _ _ i _ => k - (intOf i).toNat)
  case atStart => exact ⟨m, [], hm, by simp, rfl, rfl, rfl, Below.refl _ _, ⟨_, _, rfl⟩, World.ownsRow_nil _ _ _ _⟩
  case round =>
    obtain ⟨q, dn, hq, hdk, hv, rfl, rfl, hbel, ⟨A, c, rfl⟩, hown⟩ := hrel
    have hsz : w.heap.size ≤ wr.heap.size := hbel.size
    have hrow : ∀ g, (Value.slice A dn.length c).ownBlock = some g → w.heap.size ≤ g := fun g hg => (hown.lt g hg).1
    by_cases hlt : dn.length < k
    · have h1 : (dn.length : Int) < (k : Int) := by omega
      have h2 : (dn.length : Int) < 8 := by omega
      have hlo : Hid ((q : Int) % 256 = (((UInt8.ofNat (q % 256)).toNat : Nat) : Int)) := by
        show _ = _
        rw [toNat_u8 (by omega)]
        omega
      have hv' : Hid (leB k m = (dn ++ [UInt8.ofNat (q % 256)]) ++ leB (k - (dn ++ [UInt8.ofNat (q % 256)]).length) (q / 256)) := by
        show _ = _
        rw [hv.out, List.append_assoc, List.length_append, List.length_singleton, show k - dn.length = k - (dn.length + 1) + 1 by omega, leB]
        rfl
      go_wp2_with (at_builtin; refine wpList_append_bytes _ rfl _ _ 22 rfl w.heap.size 5 i0 (.int .u8 0) 1 Try.underlying22 hi0 hz0 hz1 hz2 rfl _ dn rfl (hown.alloc _) _ _ 1 _ [UInt8.ofNat (q % 256)] rfl rfl (BS.one' _ _ _ hlo.out _) (by simp [maxLen]; omega) (by simp; omega) (by simp; omega) ?_; intro A' c' w2 hown2 hg2 _)
      go_roundw
      case rel => exact ⟨q / 256, dn ++ [UInt8.ofNat (q % 256)], by omega, by simp; omega, hv', by go_num, by simp, (hbel.alloc hsz _).grown hg2 (by simp; omega) hrow, ⟨A', c', by simp⟩, by simpa using hown2⟩
      case measure => simp [intOf]; omega
    · have hke : dn.length = k := by omega
      have h1 : ¬ (dn.length : Int) < (k : Int) := by omega
      have hvd : leB k m = dn := by rw [hv.out, hke, Nat.sub_self, leB, List.append_nil]
      have Hvd := Lib.hid hvd
      have Hke := Lib.hid hke
      clear hvd hke
      go_wp2
      go_ret
      refine ⟨_, rfl, ?_, hbel⟩
      rw [Hvd.out, ← Hke.out]
      exact hown

set_option maxHeartbeats 800000 in
set_option maxRecDepth 100000 in
theorem refRecPut_any (A : Option Addr) (n c : Nat) (l : List UInt8) (w : World) (hn : n = l.length) (hb : BS w w.heap.size A l) (hl : n ≤ 1048576) :
    Calls Try.prog 13 #[.slice A n c] w fun e w' => ∃ A' c', e = .returned (.slice A' (recB l).length c') ∧ w'.ownsRow w.heap.size 5 1 (.slice A' (recB l).length c') (recB l).length (bcells (recB l)) ∧ Below w.heap.size w w' := by
  subst hn
  obtain ⟨i0, hi0, hz0, hz1, hz2⟩ := info_parts u8_infoO
  have HB := Lib.hid hb
  clear hb
  have hle := vput_le (n := l.length) (by omega)
  have hol := ofS_lt (recH l)
  have hhl := recH_length l
  have hrl : (recB l).length = (recH l).length + 4 := by rw [recB_length, recH_length]
  have Hrl := Lib.hid hrl
  have hh20 : (recH l).length ≤ 1048586 := by omega
  have Hhl := Lib.hid hhl
  obtain ⟨o, ho⟩ : ∃ o, ofS (recH l) = o := ⟨_, rfl⟩
  rw [ho] at hol
  have Ho := Lib.hid ho
  clear hhl hrl ho
  go_enter Try.func13, Try.ntmps13
  go_wp2_with fail
  refine (refPut_any _ _ l.length rfl (by omega)).mono ?_
  rintro e w1 ⟨v, rfl, hown1, hb1⟩
  obtain ⟨A1, c1, rfl, _, _⟩ := own_slice hown1
  go_wp2_with (at_builtin; refine wpList_append_bytes _ rfl _ _ 22 rfl w.heap.size 5 i0 (.int .u8 0) 1 Try.underlying22 hi0 hz0 hz1 hz2 rfl (.slice A1 (vput l.length).length c1) (vput l.length) rfl hown1 w.heap.size A _ c l rfl rfl (HB.out.below hb1) (by unfold maxLen; omega) (by omega) hb1.size ?_; intro A2 c2 w2 hown2 hg2 _)
  have hb2 : Below w.heap.size w w2 := hb1.grown hg2 hb1.size (fun k hk => (hown1.lt k hk).1)
  have Hown2 : Hid (w2.ownsRow w.heap.size 5 1 (.slice A2 ((vput l.length).length + l.length) c2) ((vput l.length).length + l.length) (bcells (recH l))) := by
    show World.ownsRow _ _ _ _ _ _ _
    rw [List.length_append] at hown2
    exact hown2
  clear hown1 hown2 hg2
  refine (refOf_eq _ _ _ (recH l) _ w2.heap.size Hhl.out.symm (BS.of_own Hown2.out).1 (by unfold maxLen; omega) Ho.out).mono ?_
  rintro e w3 ⟨rfl, rfl⟩
  go_wp2_with fail
  refine (refOctPutLe_any _ _ _ o 4 rfl rfl (by omega) (by omega)).mono ?_
  rintro e w4 ⟨v, rfl, hown4, hb4⟩
  obtain ⟨A4, c4, rfl, _, _⟩ := own_slice hown4
  have hB4 := bthen hb2 hb4
  have Hown2' : Hid (w4.ownsRow w.heap.size 5 1 (.slice A2 ((vput l.length).length + l.length) c2) (recH l).length (bcells (recH l))) := by
    show World.ownsRow _ _ _ _ _ _ _
    rw [Hhl.out]
    exact own_below Hown2.out hb4
  have Hown4 := Lib.hid hown4
  clear hown4
  go_wp2_with (at_builtin; refine wpList_append_bytes _ rfl _ _ 22 rfl w.heap.size 5 i0 (.int .u8 0) 1 Try.underlying22 hi0 hz0 hz1 hz2 rfl (.slice A2 ((vput l.length).length + l.length) c2) (recH l) rfl Hown2'.out w4.heap.size A4 4 c4 (leB 4 o) rfl (leB_length _ _).symm (BS.of_own Hown4.out).1 (by rw [leB_length]; unfold maxLen; omega) (by rw [leB_length]; omega) hB4.size ?_; intro A5 c5 w5 hown5 hg5 _)
  have hb5 : Below w.heap.size w w5 := hB4.grown hg5 hB4.size (fun k hk => (Hown2'.out.lt k hk).1)
  have e5 : recH l ++ leB 4 o = recB l := by rw [← Ho.out]; rfl
  have e6 : (recH l).length + (leB 4 o).length = (recB l).length := by rw [Hrl.out, leB_length]
  rw [e5] at hown5
  have Hown5 := Lib.hid hown5
  clear hown5 hg5
  go_ret
  exact ⟨A5, c5, by show Ending.returned (.slice A5 ((recH l).length + (leB 4 o).length) c5) = _; rw [e6], Hown5.out, hb5⟩
end Go.Proofs.Ytpeknjbcjpdmnaa
