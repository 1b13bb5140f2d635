/- The walks of slices.Clone over bytes, and of record.Put, record.Size. -/
import Derived.Test.YtpeknjbcjpdmnaaRecS
import Derived.Test.YtpeknjbcjpdmnaaVarintE
import Derived.Test.YtpeknjbcjpdmnaaCrcE
import Derived.Test.YtpeknjbcjpdmnaaOctG
import Derived.WalkSpells
import Derived.Lib.LazyBuf
namespace Go.Proofs.Ytpeknjbcjpdmnaa
open Go.RowKit
set_option linter.unusedVariables false

set_option maxHeartbeats 400000 in
set_option maxRecDepth 100000 in
theorem clone_any (A : Option Addr) (n c : Nat) (l : List UInt8) (w : World) (hn : n = l.length) (hb : BS w w.heap.size A l) (hl : n ≤ 140737488355328) :
    Calls Try.prog 32 #[.slice A n c] w fun e w' => ∃ A' c', e = .returned (.slice A' l.length c') ∧ w'.ownsRow w.heap.size 5 1 (.slice A' l.length c') l.length (bcells l) ∧ Below w.heap.size w w' := by
  subst hn
  obtain ⟨i0, hi0, hz0, hz1, hz2⟩ := info_parts u8_infoO
  have HB := Lib.hid hb
  clear hb
  have hnil := fun (A : Option Addr) (n c : Nat) => Lib.run_eql_slice_nil (P := Try.prog) w 22 5 A n c 0 0 Try.underlying22
  rcases A with _ | ad
  · have hl0 : l = [] := by
      rcases l with _ | ⟨x, l⟩
      · rfl
      · obtain ⟨ad, h, _⟩ := HB.out (by simp)
        cases h
    subst hl0
    go_enter Try.func32, Try.ntmps32
    go_wp2
    go_ret
    exact ⟨none, 0, rfl, World.ownsRow_nil _ _ _ _, Below.refl _ _⟩
  · go_enter Try.func32, Try.ntmps32
    go_wp2_with (at_builtin; refine wpList_append_bytes _ rfl _ _ 22 rfl w.heap.size 5 i0 (.int .u8 0) 1 Try.underlying22 hi0 hz0 hz1 hz2 rfl (.slice (some ⟨w.heap.size, 0, none⟩) 0 0) [] rfl (own_none _ _ _ (Nat.le_refl _) _ rfl) w.heap.size (some ad) _ c l rfl rfl (HB.out.alloc (Nat.le_refl _) _) (by simp [maxLen]; omega) (by simp; omega) (by simp) ?_; intro A3 c3 w3 hown3 hg3 _)
    go_ret
    exact ⟨A3, c3, by simp, by simpa using hown3, ((Below.refl _ _).alloc (Nat.le_refl _) _).grown hg3 (by simp) (by intro k hk; simp [Value.ownBlock] at hk; omega)⟩

set_option maxHeartbeats 400000 in
set_option maxRecDepth 100000 in
theorem recSize_any (n : Int) (w : World) (m : Nat) (hn : n = (m : Int)) (hm : m ≤ 1048576) :
    Calls Try.prog 14 #[.int .i64 n] w fun e w' => e = .returned (.int .i64 (((vput m).length + m + 4 : Nat) : Int)) ∧ w = w' := by
  subst hn
  have hle := vput_le (n := m) (by omega)
  go_enter Try.func14, Try.ntmps14
  go_wp2_with fail
  refine (size_any _ _ m rfl (by omega)).mono ?_
  rintro e w' ⟨rfl, rfl⟩
  go_wp2
  go_ret
  exact ⟨ret_int (by omega), rfl⟩

set_option maxHeartbeats 400000 in
set_option maxRecDepth 100000 in
theorem recPut_long (A : Option Addr) (n c : Nat) (w : World) (hn : 1048576 < n) :
    Calls Try.prog 11 #[.slice A n c] w fun e w' => e = .returned (.tuple #[.slice none 0 0, .int .i64 4]) ∧ w = w' := by
  have h : (1048576 : Int) < (n : Int) := by omega
  go_enter Try.func11, Try.ntmps11
  go_wp2
  go_ret2
  exact ⟨rfl, rfl⟩

set_option maxHeartbeats 800000 in
set_option maxRecDepth 100000 in
theorem recPut_any (A : Option Addr) (n c : Nat) (l : List UInt8) (w : World) (hn : n = l.length) (hb : BS w w.heap.size A l) (hl : n ≤ 1048576) :
    Calls Try.prog 11 #[.slice A n c] w fun e w' => ∃ A' c', e = .returned (.tuple #[.slice A' (recB l).length c', .int .i64 0]) ∧ w'.ownsRow w.heap.size 5 1 (.slice A' (recB l).length c') (recB l).length (bcells (recB l)) ∧ Below w.heap.size w w' := by
  subst hn
  obtain ⟨i0, hi0, hz0, hz1, hz2⟩ := info_parts u8_infoO
  have HB := Lib.hid hb
  clear hb
  have hle := vput_le (n := l.length) (by omega)
  have hol := ofS_lt (recH l)
  have hhl := recH_length l
  have hrl : (recB l).length = (recH l).length + 4 := by rw [recB_length, recH_length]
  have Hrl := Lib.hid hrl
  have hh20 : (recH l).length ≤ 1048586 := by omega
  have Hhl := Lib.hid hhl
  have hxx : vput l.length ++ l = recH l := rfl
  obtain ⟨o, ho⟩ : ∃ o, ofS (recH l) = o := ⟨_, rfl⟩
  rw [ho] at hol
  have Ho := Lib.hid ho
  clear hhl hrl ho hxx
  go_enter Try.func11, Try.ntmps11
  go_wp2_with fail
  refine (put_any _ _ l.length rfl (by omega)).mono ?_
  rintro e w1 ⟨v, rfl, hown1, hb1⟩
  obtain ⟨A1, c1, rfl, _, _⟩ := own_slice hown1
  go_wp2_with (at_builtin; refine wpList_append_bytes _ rfl _ _ 22 rfl w.heap.size 5 i0 (.int .u8 0) 1 Try.underlying22 hi0 hz0 hz1 hz2 rfl (.slice A1 (vput l.length).length c1) (vput l.length) rfl hown1 w.heap.size A _ c l rfl rfl (HB.out.below hb1) (by unfold maxLen; omega) (by omega) hb1.size ?_; intro A2 c2 w2 hown2 hg2 _)
  have hb2 : Below w.heap.size w w2 := hb1.grown hg2 hb1.size (fun k hk => (hown1.lt k hk).1)
  have Hown2 : Hid (w2.ownsRow w.heap.size 5 1 (.slice A2 ((vput l.length).length + l.length) c2) ((vput l.length).length + l.length) (bcells (recH l))) := by
    show World.ownsRow _ _ _ _ _ _ _
    rw [List.length_append] at hown2
    exact hown2
  clear hown1 hown2 hg2
  refine (of_eq _ _ _ (recH l) _ _ Hhl.out.symm (BS.of_own Hown2.out).1 (Nat.le_refl _) (by unfold maxLen; omega) Ho.out).mono ?_
  rintro e w3 ⟨rfl, hb3⟩
  have hB3 := bthen hb2 hb3
  go_wp2_with fail
  refine (octPutLe_any _ _ _ o 4 rfl rfl (by omega) (by omega)).mono ?_
  rintro e w4 ⟨v, rfl, hown4, hb4⟩
  obtain ⟨A4, c4, rfl, _, _⟩ := own_slice hown4
  have hB4 := bthen hB3 hb4
  have Hown2' : Hid (w4.ownsRow w.heap.size 5 1 (.slice A2 ((vput l.length).length + l.length) c2) (recH l).length (bcells (recH l))) := by
    show World.ownsRow _ _ _ _ _ _ _
    rw [Hhl.out]
    exact own_below (own_below Hown2.out hb3) hb4
  have Hown4 := Lib.hid hown4
  clear hown4
  go_wp2_with (at_builtin; refine wpList_append_bytes _ rfl _ _ 22 rfl w.heap.size 5 i0 (.int .u8 0) 1 Try.underlying22 hi0 hz0 hz1 hz2 rfl (.slice A2 ((vput l.length).length + l.length) c2) (recH l) rfl Hown2'.out w4.heap.size A4 4 c4 (leB 4 o) rfl (leB_length _ _).symm (BS.of_own Hown4.out).1 (by rw [leB_length]; unfold maxLen; omega) (by rw [leB_length]; omega) hB4.size ?_; intro A5 c5 w5 hown5 hg5 _)
  have hb5 : Below w.heap.size w w5 := hB4.grown hg5 hB4.size (fun k hk => (Hown2'.out.lt k hk).1)
  have e5 : recH l ++ leB 4 o = recB l := by rw [← Ho.out]; rfl
  have e6 : (recH l).length + (leB 4 o).length = (recB l).length := by rw [Hrl.out, leB_length]
  rw [e5] at hown5
  have Hown5 := Lib.hid hown5
  clear hown5 hg5
  go_ret2
  exact ⟨A5, c5, by show Ending.returned (.tuple #[.slice A5 ((recH l).length + (leB 4 o).length) c5, .int .i64 0]) = _; rw [e6], Hown5.out, hb5⟩
end Go.Proofs.Ytpeknjbcjpdmnaa
