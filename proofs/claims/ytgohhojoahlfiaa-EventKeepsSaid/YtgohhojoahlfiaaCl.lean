/- The walk of slices.Clone over bytes (split off for seats without records). -/
import Derived.Test.YtgohhojoahlfiaaOctPp
import Derived.WalkSpells
import Derived.Lib.LazyBuf
namespace Go.Proofs.Ytgohhojoahlfiaa
open Go.RowKit
set_option linter.unusedVariables false

set_option maxHeartbeats 400000 in
set_option maxRecDepth 100000 in
theorem clone_own (A : Option Addr) (n c : Nat) (l : List UInt8) (w : World) (hn : n = l.length) (hb : BS w w.heap.size A l) (hl : n ≤ 140737488355328) :
    Calls Try.prog 40 #[.slice A n c] w fun e w' => ∃ A' c', e = .returned (.slice A' l.length c') ∧ w'.ownsRow w.heap.size 5 1 (.slice A' l.length c') l.length (bcells l) ∧ Below w.heap.size w w' := by
  subst hn
  obtain ⟨i0, hi0, hz0, hz1, hz2⟩ := info_parts u8_infoO
  have HB := Lib.hid hb
  clear hb
  have hnil := fun (A : Option Addr) (n c : Nat) => Lib.run_eql_slice_nil (P := Try.prog) w 22 5 A n c 0 0 Try.underlying22
  rcases A with _ | ad
  · have hl0 : l = [] := by
      rcases l with _ | ⟨x, l⟩
      · rfl
      · obtain ⟨ad, h, _⟩ := HB.out (by simp)
        cases h
    subst hl0
    go_enter Try.func40, Try.ntmps40
    go_wp2
    go_ret
    exact ⟨none, 0, rfl, World.ownsRow_nil _ _ _ _, Below.refl _ _⟩
  · go_enter Try.func40, Try.ntmps40
    go_wp2_with (at_builtin; refine wpList_append_bytes _ rfl _ _ 22 rfl w.heap.size 5 i0 (.int .u8 0) 1 Try.underlying22 hi0 hz0 hz1 hz2 rfl (.slice (some ⟨w.heap.size, 0, none⟩) 0 0) [] rfl (own_none _ _ _ (Nat.le_refl _) _ rfl) w.heap.size (some ad) _ c l rfl rfl (HB.out.alloc (Nat.le_refl _) _) (by simp [maxLen]; omega) (by simp; omega) (by simp) ?_; intro A3 c3 w3 hown3 hg3 _)
    go_ret
    exact ⟨A3, c3, by simp, by simpa using hown3, ((Below.refl _ _).alloc (Nat.le_refl _) _).grown hg3 (by simp) (by intro k hk; simp [Value.ownBlock] at hk; omega)⟩

end Go.Proofs.Ytgohhojoahlfiaa
