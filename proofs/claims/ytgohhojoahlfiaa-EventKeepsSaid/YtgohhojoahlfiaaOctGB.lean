/- The walk of octet.Get, the highest byte first. -/
import Derived.Test.YtgohhojoahlfiaaOctG
namespace Go.Proofs.Ytgohhojoahlfiaa
open Go.RowKit
set_option linter.unusedVariables false

theorem beN_step {l : List UInt8} {k : Nat} (h : k < l.length) : beN (l.take (k + 1)) = beN (l.take k) * 256 + (l[k]).toNat := by
  rw [List.take_add_one, List.getElem?_eq_getElem h]
  exact beN_snoc _ _

set_option maxHeartbeats 800000 in
set_option maxRecDepth 100000 in
theorem octGetBe_any (A : Option Addr) (n c : Nat) (l : List UInt8) (w : World) (hn : n = l.length) (hb : BS w w.heap.size A l) (hl : n ≤ 8) (hc : n ≤ c) :
    Calls Try.prog 86 #[.slice A n c, .bool true] w fun e w' => e = .returned (.int .u64 ((beN l : Nat) : Int)) ∧ Below w.heap.size w w' := by
  subst hn
  have HB := Lib.hid hb
  clear hb
  have hl' : (l.length : Int) ≤ 8 := by omega
  go_enter Try.func86, Try.ntmps86
  go_wp2
  have hb0 : Boxed (w.alloc (.cells #[.int .u64 0] 87)) w.heap.size 87 (.int .u64 0) := Boxed.new w 87 (.int .u64 0)
  go_loopw [18] (fun i wr => ∃ k : Nat, k ≤ l.length ∧ i = .int .i64 (k : Int) ∧ Below w.heap.size w wr ∧ wr.cell? ⟨w.heap.size, 0, none⟩ = some (.int .u64 ((beN (l.take k) : Nat) : Int)) ∧ wr.frozen? ⟨w.heap.size, 0, none⟩ = false) (fun i _ => l.length - (intOf i).toNat)
  case atStart => exact ⟨0, by omega, rfl, (Below.refl _ _).alloc (Nat.le_refl _) _, hb0.cell, hb0.frozen⟩
  case round =>
    obtain ⟨k, hk, rfl, hbel, hc0, hf0⟩ := hrel
    by_cases hlt : k < l.length
    · have hltI : (k : Int) < (l.length : Int) := by omega
      have hk0 : (0 : Int) ≤ (k : Int) := by omega
      obtain ⟨ad, rfl, hadb, hc⟩ := (HB.out.below hbel).at_ hlt
      have hn := beN_lt7 (l := l.take k) (by rw [List.length_take]; omega)
      have hd : (l[k]).toNat < 256 := (l[k]).toNat_lt
      have hso := shlor hn hd
      have hst := beN_step hlt
      rw [← hst] at hso
      have Hso := Lib.hid hso
      clear hst hso
      generalize beN (l.take k) = nn at *
      generalize (l[k]).toNat = d at *
      go_wp2
      go_roundw
      case rel =>
        refine ⟨k + 1, by omega, by go_num, hbel.setCell (p := ⟨w.heap.size, 0, none⟩) (Nat.le_refl _) _, ?_, by rw [World.frozen?_setCell]; exact hf0⟩
        rw [Hso.out]
        exact World.cell?_setCell_same' _ _ _ (by rw [hc0]; rfl)
      case measure => simp [intOf]; omega
    · have hke : l.take k = l := List.take_of_length_le (by omega)
      rw [hke] at hc0
      clear hke
      go_wp2
      go_ret
      exact ⟨rfl, hbel⟩
end Go.Proofs.Ytgohhojoahlfiaa
