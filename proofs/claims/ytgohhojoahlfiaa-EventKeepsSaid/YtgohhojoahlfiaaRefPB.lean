/- The walk of wayleaveref01.Put, the highest byte first. -/
import Derived.Test.YtgohhojoahlfiaaOctP
import Derived.Test.YtgohhojoahlfiaaKA
namespace Go.Proofs.Ytgohhojoahlfiaa
open Go.RowKit
set_option linter.unusedVariables false

set_option maxHeartbeats 800000 in
set_option maxRecDepth 100000 in
theorem refOctPutBe_any (n s : Int) (w : World) (m k : Nat) (hn : n = (m : Int)) (hs : s = (k : Int)) (hm : m < 18446744073709551616) (hk : k ≤ 8) :
    Calls Try.prog 54 #[.int .u64 n, .int .i64 s, .bool true] w fun e w' => ∃ v, e = .returned v ∧ w'.ownsRow w.heap.size 5 1 v k (bcells (leB k m).reverse) ∧ Below w.heap.size w w' := by
  subst hn hs
  obtain ⟨i0, hi0, hz0, hz1, hz2⟩ := info_parts u8_infoO
  go_enter Try.func54, Try.ntmps54
  go_wp2_with fail
  go_loopw [0, 7, 8] (fun x v i wr => ∃ (q : Nat) (dn : List UInt8), q < 18446744073709551616 ∧ dn.length ≤ k ∧ Hid (leB k m = dn.reverse ++ leB (k - dn.length) q) ∧ x = .int .u64 (q : Int) ∧ i = .int .i64 (dn.length : Int) ∧ Below w.heap.size w wr ∧ (∃ A c, v = .slice A dn.length c) ∧ wr.ownsRow w.heap.size 5 1 v dn.length (bcells dn))
    (fun _ _ i _ => k - (intOf i).toNat)
  case atStart => exact ⟨m, [], hm, by simp, rfl, rfl, rfl, Below.refl _ _, ⟨_, _, rfl⟩, World.ownsRow_nil _ _ _ _⟩
  case round =>
    obtain ⟨q, dn, hq, hdk, hv, rfl, rfl, hbel, ⟨A, c, rfl⟩, hown⟩ := hrel
    have hsz : w.heap.size ≤ wr.heap.size := hbel.size
    by_cases hlt : dn.length < k
    · have h1 : (dn.length : Int) < (k : Int) := by omega
      have h2 : (dn.length : Int) < 8 := by omega
      have hlo : Hid ((q : Int) % 256 = (((UInt8.ofNat (q % 256)).toNat : Nat) : Int)) := by
        show _ = _
        rw [toNat_u8 (by omega)]
        omega
      have hv' : Hid (leB k m = (UInt8.ofNat (q % 256) :: dn).reverse ++ leB (k - (UInt8.ofNat (q % 256) :: dn).length) (q / 256)) := by
        show _ = _
        rw [hv.out, List.reverse_cons, List.append_assoc, List.length_cons, show k - dn.length = k - (dn.length + 1) + 1 by omega, leB]
        rfl
      have hq' : q / 256 < 18446744073709551616 := by omega
      go_wp2_with (at_builtin; refine wpList_append_bytes _ rfl _ _ 22 rfl wr.heap.size 5 i0 (.int .u8 0) 1 Try.underlying22 hi0 hz0 hz1 hz2 rfl (.slice (some ⟨wr.heap.size, 0, none⟩) 1 1) [UInt8.ofNat (q % 256)] rfl (own_one _ _ _ _ _ hlo.out (Nat.le_refl _)) _ A _ c dn rfl rfl ((BS.of_own hown).1.alloc (Nat.le_refl _) _) (by simp [maxLen]; omega) (by simp; omega) (by simp) ?_; intro A' c' w2 hown2 hg2 _)
      have hb2 : Below wr.heap.size wr w2 := ((Below.refl _ _).alloc (Nat.le_refl _) _).grown hg2 (by simp) (by intro k hk; simp [Value.ownBlock] at hk; omega)
      have hB2 := hbel.trans (hb2.mono hsz)
      go_roundw
      case rel => exact ⟨q / 256, UInt8.ofNat (q % 256) :: dn, hq', by simp; omega, hv', by go_num, by simp, hB2, ⟨A', c', by first | (simp; done) | (simp; omega)⟩, by simpa using own_base' hown2 hsz⟩
      case measure => simp [intOf]; omega
    · have hke : dn.length = k := by omega
      have h1 : ¬ (dn.length : Int) < (k : Int) := by omega
      have hvd : leB k m = dn.reverse := by rw [hv.out, hke, Nat.sub_self, leB, List.append_nil]
      have Hvd := Lib.hid hvd
      have Hke := Lib.hid hke
      clear hvd hke
      go_wp2
      go_ret
      refine ⟨_, rfl, ?_, hbel⟩
      rw [Hvd.out, List.reverse_reverse, ← Hke.out]
      exact hown
end Go.Proofs.Ytgohhojoahlfiaa
