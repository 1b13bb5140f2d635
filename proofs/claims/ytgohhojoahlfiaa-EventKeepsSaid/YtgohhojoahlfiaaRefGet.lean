/- The walk of wayleaveref01.Get. -/
import Derived.Test.YtgohhojoahlfiaaOctGB
namespace Go.Proofs.Ytgohhojoahlfiaa
open Go.RowKit
set_option linter.unusedVariables false

theorem mul256 {nn d : Nat} (h : nn < 72057594037927936) (hd : d < 256) : 256 * (nn : Int) + (d : Int) = ((nn * 256 + d : Nat) : Int) := by omega

theorem beN_rstep {l : List UInt8} {k : Nat} (h : k < l.length) : beN (l.reverse.take (k + 1)) = beN (l.reverse.take k) * 256 + (l[l.length - 1 - k]'(by omega)).toNat := by
  rw [beN_step (by rw [List.length_reverse]; exact h), List.getElem_reverse]

set_option maxHeartbeats 800000 in
set_option maxRecDepth 100000 in
theorem refGetBe_any (A : Option Addr) (n c : Nat) (l : List UInt8) (w : World) (hn : n = l.length) (hb : BS w w.heap.size A l) (hl : n ≤ 8) :
    Calls Try.prog 67 #[.slice A n c, .bool true] w fun e w' => e = .returned (.int .u64 ((beN l : Nat) : Int)) ∧ w = w' := by
  subst hn
  have HB := Lib.hid hb
  clear hb
  have hl' : ¬ (8 : Int) < (l.length : Int) := by omega
  go_enter Try.func67, Try.ntmps67
  go_wp2
  go_loopw [6, 7] (fun v i wr => ∃ k : Nat, k ≤ l.length ∧ v = .int .u64 ((beN (l.take k) : Nat) : Int) ∧ i = .int .i64 (k : Int) ∧ w = wr) (fun _ i _ => l.length - (intOf i).toNat)
  case atStart => exact ⟨0, by omega, rfl, rfl, rfl⟩
  case round =>
    obtain ⟨k, hk, rfl, rfl, rfl⟩ := hrel
    by_cases hlt : k < l.length
    · have hltI : (k : Int) < (l.length : Int) := by omega
      have hk0 : (0 : Int) ≤ (k : Int) := by omega
      have hlt2 : k < l.length := hlt
      obtain ⟨ad, rfl, hadb, hc⟩ := HB.out.at_ hlt2
      have hn := beN_lt7 (l := l.take k) (by rw [List.length_take]; omega)
      have hd : (l[k]).toNat < 256 := (l[k]).toNat_lt
      have hst := beN_step hlt
      have hm := mul256 hn hd
      rw [← hst] at hm
      have hm2 := beN_lt (l.take (k + 1))
      have hm3 : 256 ^ (l.take (k + 1)).length ≤ 256 ^ 8 := Nat.pow_le_pow_right (by omega) (by rw [List.length_take]; omega)
      simp only [Nat.reducePow] at hm3
      have hm4 : beN (l.take (k + 1)) < 18446744073709551616 := by omega
      have Hm := Lib.hid hm
      have Hm4 := Lib.hid hm4
      clear hst hm hm2 hm3 hm4
      generalize beN (l.take k) = nn at *
      generalize hn2 : beN (l.take (k + 1)) = n2 at *
      have Hn2 := Lib.hid hn2
      clear hn2
      generalize (l[k]).toNat = d at *
      have hnd : nn * 256 + d < 18446744073709551616 := by have := Hm.out; have := Hm4.out; omega
      go_wp2
      go_roundw
      case rel => exact ⟨k + 1, by omega, by show Value.int .u64 (256 * (nn : Int) + (d : Int)) = _; rw [Hm.out, Hn2.out], by go_num, by first | rfl | trivial⟩
      case measure => simp [intOf]; omega
    · have hke : l.take k = l := List.take_of_length_le (by omega)
      rw [hke]
      clear hke
      go_wp2
      go_ret
      exact ⟨rfl, rfl⟩

set_option maxHeartbeats 800000 in
set_option maxRecDepth 100000 in
theorem refGetLe_any (A : Option Addr) (n c : Nat) (l : List UInt8) (w : World) (hn : n = l.length) (hb : BS w w.heap.size A l) (hl : n ≤ 8) :
    Calls Try.prog 67 #[.slice A n c, .bool false] w fun e w' => e = .returned (.int .u64 ((val l : Nat) : Int)) ∧ w = w' := by
  subst hn
  have HB := Lib.hid hb
  clear hb
  have hl' : ¬ (8 : Int) < (l.length : Int) := by omega
  go_enter Try.func67, Try.ntmps67
  go_wp2
  go_loopw [6, 7] (fun v i wr => ∃ k : Nat, k ≤ l.length ∧ v = .int .u64 ((beN (l.reverse.take k) : Nat) : Int) ∧ i = .int .i64 (k : Int) ∧ w = wr) (fun _ i _ => l.length - (intOf i).toNat)
  case atStart => exact ⟨0, by omega, rfl, rfl, rfl⟩
  case round =>
    obtain ⟨k, hk, rfl, rfl, rfl⟩ := hrel
    by_cases hlt : k < l.length
    · have hltI : (k : Int) < (l.length : Int) := by omega
      have hk0 : (0 : Int) ≤ (k : Int) := by omega
      have hlt2 : l.length - 1 - k < l.length := by omega
      have hix : (l.length : Int) - 1 - (k : Int) = ((l.length - 1 - k : Nat) : Int) := by omega
      obtain ⟨ad, rfl, hadb, hc⟩ := HB.out.at_ hlt2
      have hn := beN_lt7 (l := l.reverse.take k) (by rw [List.length_take]; rw [List.length_reverse]; omega)
      have hd : (l[l.length - 1 - k]).toNat < 256 := (l[l.length - 1 - k]).toNat_lt
      have hst := beN_rstep hlt
      have hm := mul256 hn hd
      rw [← hst] at hm
      have hm2 := beN_lt (l.reverse.take (k + 1))
      have hm3 : 256 ^ (l.reverse.take (k + 1)).length ≤ 256 ^ 8 := Nat.pow_le_pow_right (by omega) (by rw [List.length_take]; rw [List.length_reverse]; omega)
      simp only [Nat.reducePow] at hm3
      have hm4 : beN (l.reverse.take (k + 1)) < 18446744073709551616 := by omega
      have Hm := Lib.hid hm
      have Hm4 := Lib.hid hm4
      clear hst hm hm2 hm3 hm4
      generalize beN (l.reverse.take k) = nn at *
      generalize hn2 : beN (l.reverse.take (k + 1)) = n2 at *
      have Hn2 := Lib.hid hn2
      clear hn2
      generalize (l[l.length - 1 - k]).toNat = d at *
      have hnd : nn * 256 + d < 18446744073709551616 := by have := Hm.out; have := Hm4.out; omega
      go_wp2
      go_roundw
      case rel => exact ⟨k + 1, by omega, by show Value.int .u64 (256 * (nn : Int) + (d : Int)) = _; rw [Hm.out, Hn2.out], by go_num, by first | rfl | trivial⟩
      case measure => simp [intOf]; omega
    · have hke : l.reverse.take k = l.reverse := List.take_of_length_le (by rw [List.length_reverse]; omega)
      rw [hke]
      clear hke
      go_wp2
      go_ret
      exact ⟨by rw [← beN_reverse]; rfl, rfl⟩
end Go.Proofs.Ytgohhojoahlfiaa
