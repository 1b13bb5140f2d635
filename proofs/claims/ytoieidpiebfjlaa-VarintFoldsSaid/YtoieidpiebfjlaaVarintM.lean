/- The walks of chapter 2's other statements: Back, Order, Folds. -/
import Derived.Test.YtoieidpiebfjlaaVarintL
import Derived.Test.YtoieidpiebfjlaaVarintW
namespace Go.Proofs.Ytoieidpiebfjlaa
open Go.RowKit
set_option linter.unusedVariables false

theorem u8_of_wf' {n : Int} (h : (Lit.int .u8 n).wf = true) : ∃ m : Nat, n = (m : Int) ∧ m < 256 := by
  have := u8_of_wf h
  exact ⟨n.toNat, by omega, by omega⟩
theorem i64_of_wf {n : Int} (h : (Lit.int .i64 n).wf = true) : -9223372036854775808 ≤ n ∧ n ≤ 9223372036854775807 := by
  simp [Lit.wf, IntKind.min, IntKind.max, IntKind.bits, IntKind.signed] at h
  omega

set_option maxHeartbeats 400000 in
set_option maxRecDepth 100000 in
theorem walk_varintBack (a0 : Int) (a1 : Option Addr) (len1 cap1 : Nat) (z1 : List Int) (a2 : Int) (w : World) (w0 : (Lit.int .u64 a0).wf = true) (w1 : IsRow .u8 w a1 len1 cap1 z1) (w2 : (Lit.int .u8 a2).wf = true) :
    Calls Try.prog 5 #[.int .u64 a0, .slice a1 len1 cap1, .int .u8 a2] w fun e w' => e = .returned (.bool true) ∧ Below w.heap.size w w' := by
  obtain ⟨l, rfl, hlc, hm, hB⟩ := BS.of_row w1
  obtain ⟨m, rfl, hm64⟩ := u64_of_wf w0
  obtain ⟨q, rfl, hq⟩ := u8_of_wf' w2
  obtain ⟨i0, hi0, hz0, hz1, hz2⟩ := info_parts u8_info
  clear w0 w1 w2
  have hp := vput_pos m
  have hle := vput_le hm64
  have Hm := Lib.hid hm64
  have HB := Lib.hid hB
  clear hm64 hm hlc hB
  by_cases hlen : 1000 < l.length
  · go_enter Try.func5, Try.ntmps5
    go_wp2_with fail
    refine (awake2_any _).mono ?_
    rintro e w1 ⟨rfl, hb1⟩
    go_wp2_with fail
    refine (awake2_any _).mono ?_
    rintro e w2 ⟨rfl, hb2⟩
    go_wp2
    go_ret
    exact ⟨rfl, hb1.trans (hb2.mono hb1.size)⟩
  · have hlen0 : (((vput m).length : Int) == 0) = false := beq_eq_false_iff_ne.2 (by omega)
    have hmod : q % (vput m).length < (vput m).length := Nat.mod_lt _ hp
    have hmod2 : (0 : Int) ≤ (q : Int) % ((vput m).length : Int) := Int.emod_nonneg _ (by omega)
    have hmod3 : (q : Int) % ((vput m).length : Int) < ((vput m).length : Int) := Int.emod_lt_of_pos _ (by omega)
    go_enter Try.func5, Try.ntmps5
    go_wp2_with fail
    refine (awake2_any _).mono ?_
    rintro e w1 ⟨rfl, hb1⟩
    go_wp2_with fail
    refine (put_any _ _ m rfl Hm.out).mono ?_
    rintro e w2 ⟨v, rfl, hown, hb2⟩
    obtain ⟨A, c, rfl, hAc, _⟩ := own_slice hown
    have Ho := Lib.hid hown
    clear hown
    have hs1 := hb1.size
    have hs2 := hb2.size
    go_wp2_with (first
      | (at_builtin; refine wpList_append_bytes _ rfl _ _ 22 rfl w2.heap.size 5 i0 (.int .u8 0) 1 Try.underlying22 hi0 hz0 hz1 hz2 rfl (.slice (some ⟨w2.heap.size, 0, none⟩) 0 0) [] rfl (own_none _ _ _ (Nat.le_refl _) _ rfl) w2.heap.size A _ c (vput m) rfl rfl ((BS.of_own Ho.out).1.alloc (Nat.le_refl _) _) (by simp [maxLen]; omega) (by simp; omega) (by simp) ?_; intro A3 c3 w3 hown3 hg3 _; have hb3 : Below w2.heap.size w2 w3 := ((Below.refl _ _).alloc (Nat.le_refl _) _).grown hg3 (by simp) (by intro k hk; simp [Value.ownBlock] at hk; omega))
      | (at_builtin; refine wpList_append_bytes _ rfl _ _ 22 rfl w2.heap.size 5 i0 (.int .u8 0) 1 Try.underlying22 hi0 hz0 hz1 hz2 rfl (.slice A3 (vput m).length c3) (vput m) rfl hown3 w.heap.size a1 _ cap1 l rfl rfl (HB.out.below ((hb1.trans (hb2.mono hs1)).trans (hb3.mono (by omega)))) (by simp [maxLen]; omega) (by simp; omega) hb3.size ?_; intro A4 c4 w4 hown4 hg4 _; have hb4 : Below w2.heap.size w2 w4 := hb3.grown hg4 hb3.size (fun k hk => (hown3.lt k hk).1)))
    have Ho4 := Lib.hid hown4
    have hs4 := hb4.size
    clear hown3 hown4 hg3 hg4
    have hl4 : (vput m).length + l.length ≤ maxLen := by unfold maxLen; omega
    have Hl4 := Lib.hid hl4
    clear hl4
    refine (get_eq _ _ _ (vput m ++ l) _ _ (by simp) (BS.of_own Ho4.out).1 Hl4.out (vget_back m Hm.out l)).mono ?_
    rintro e w5 ⟨rfl, rfl⟩
    go_wp2_with fail
    refine (get_eq _ _ _ ((vput m).take (q % (vput m).length)) _ _ (by rw [List.length_take]; omega) (((BS.of_own Ho.out).1.below hb4).take _) (by have := Hl4.out; omega) (vget_cut m 0 0 _ (by have := Hm.out; simpa using this) (by omega) hmod)).mono ?_
    rintro e w5 ⟨rfl, rfl⟩
    go_wp2
    go_ret
    exact ⟨rfl, (hb1.trans (hb2.mono hs1)).trans (hb4.mono (by omega))⟩

set_option maxHeartbeats 400000 in
set_option maxRecDepth 100000 in
theorem walk_varintOrder (a0 a1 : Int) (w : World) (w0 : (Lit.int .u64 a0).wf = true) (w1 : (Lit.int .u64 a1).wf = true) :
    Calls Try.prog 7 #[.int .u64 a0, .int .u64 a1] w fun e w' => e = .returned (.bool true) ∧ Below w.heap.size w w' := by
  obtain ⟨m, rfl, hm⟩ := u64_of_wf w0
  obtain ⟨n, rfl, hn⟩ := u64_of_wf w1
  clear w0 w1
  have Hm := Lib.hid hm
  have Hn := Lib.hid hn
  by_cases hmn : m = n
  · subst hmn
    have heq : (vput m == vput m) = true := by simp
    clear hm hn
    go_enter Try.func7, Try.ntmps7
    go_wp2_with fail
    refine (awake2_any _).mono ?_
    rintro e w1 ⟨rfl, hb1⟩
    go_wp2_with fail
    refine (put_any _ _ m rfl Hm.out).mono ?_
    rintro e w2 ⟨v, rfl, hown, hb2⟩
    obtain ⟨A2, c2, rfl, _, _⟩ := own_slice hown
    have Ho2 := Lib.hid hown
    clear hown
    go_wp2_with fail
    refine (put_any _ _ m rfl Hm.out).mono ?_
    rintro e w3 ⟨v, rfl, hown, hb3⟩
    obtain ⟨A3, c3, rfl, _, _⟩ := own_slice hown
    have Ho3 := Lib.hid hown
    clear hown
    go_wp2_with fail
    refine (same_any A2 _ c2 (vput m) A3 _ c3 (vput m) _ w2.heap.size w3.heap.size rfl rfl ((BS.of_own Ho2.out).1.below hb3) (BS.of_own Ho3.out).1).mono ?_
    rintro e w4 ⟨rfl, rfl⟩
    go_wp2
    go_ret
    exact ⟨rfl, (hb1.trans (hb2.mono hb1.size)).trans (hb3.mono (by have := hb1.size; have := hb2.size; omega))⟩
  · have hne : ((m : Int) == (n : Int)) = false := beq_eq_false_iff_ne.2 (by omega)
    have heq : (vput m == vput n) = false := by rw [vput_beq hm hn]; exact beq_eq_false_iff_ne.2 hmn
    have hpre : (vput m == (vput n).take (vput m).length) = false := beq_eq_false_iff_ne.2 (fun h => hmn (vput_prefix hm hn h))
    have hmono := vput_mono n m
    have Hmono := Lib.hid hmono
    have Hmn := Lib.hid hmn
    clear hm hn hmono hmn
    by_cases hle : m ≤ n
    · have hl := Hmono.out hle
      have hle' : (m : Int) ≤ (n : Int) := by omega
      have hl' : ¬ ((vput n).length : Int) < ((vput m).length : Int) := by omega
      go_enter Try.func7, Try.ntmps7
      go_wp2_with fail
      refine (awake2_any _).mono ?_
      rintro e w1 ⟨rfl, hb1⟩
      go_wp2_with fail
      refine (put_any _ _ m rfl Hm.out).mono ?_
      rintro e w2 ⟨v, rfl, hown, hb2⟩
      obtain ⟨A2, c2, rfl, _, _⟩ := own_slice hown
      have Ho2 := Lib.hid hown
      clear hown
      go_wp2_with fail
      refine (put_any _ _ n rfl Hn.out).mono ?_
      rintro e w3 ⟨v, rfl, hown, hb3⟩
      obtain ⟨A3, c3, rfl, hc3, _⟩ := own_slice hown
      have Ho3 := Lib.hid hown
      clear hown
      go_wp2_with fail
      refine (same_any A2 _ c2 (vput m) A3 _ c3 (vput n) _ w2.heap.size w3.heap.size rfl rfl ((BS.of_own Ho2.out).1.below hb3) (BS.of_own Ho3.out).1).mono ?_
      rintro e w4 ⟨rfl, rfl⟩
      go_wp2_with fail
      refine (same_any A2 _ c2 (vput m) A3 _ c3 ((vput n).take (vput m).length) _ w2.heap.size w3.heap.size rfl (by rw [List.length_take]; omega) ((BS.of_own Ho2.out).1.below hb3) ((BS.of_own Ho3.out).1.take _)).mono ?_
      rintro e w4 ⟨rfl, rfl⟩
      go_wp2
      go_ret
      exact ⟨rfl, (hb1.trans (hb2.mono hb1.size)).trans (hb3.mono (by have := hb1.size; have := hb2.size; omega))⟩
    · have hle' : ¬ (m : Int) ≤ (n : Int) := by omega
      by_cases hl' : ((vput n).length : Int) < ((vput m).length : Int)
      · go_enter Try.func7, Try.ntmps7
        go_wp2_with fail
        refine (awake2_any _).mono ?_
        rintro e w1 ⟨rfl, hb1⟩
        go_wp2_with fail
        refine (put_any _ _ m rfl Hm.out).mono ?_
        rintro e w2 ⟨v, rfl, hown, hb2⟩
        obtain ⟨A2, c2, rfl, _, _⟩ := own_slice hown
        have Ho2 := Lib.hid hown
        clear hown
        go_wp2_with fail
        refine (put_any _ _ n rfl Hn.out).mono ?_
        rintro e w3 ⟨v, rfl, hown, hb3⟩
        obtain ⟨A3, c3, rfl, hc3, _⟩ := own_slice hown
        have Ho3 := Lib.hid hown
        clear hown
        go_wp2_with fail
        refine (same_any A2 _ c2 (vput m) A3 _ c3 (vput n) _ w2.heap.size w3.heap.size rfl rfl ((BS.of_own Ho2.out).1.below hb3) (BS.of_own Ho3.out).1).mono ?_
        rintro e w4 ⟨rfl, rfl⟩
        go_wp2
        go_ret
        exact ⟨rfl, (hb1.trans (hb2.mono hb1.size)).trans (hb3.mono (by have := hb1.size; have := hb2.size; omega))⟩
      · go_enter Try.func7, Try.ntmps7
        go_wp2_with fail
        refine (awake2_any _).mono ?_
        rintro e w1 ⟨rfl, hb1⟩
        go_wp2_with fail
        refine (put_any _ _ m rfl Hm.out).mono ?_
        rintro e w2 ⟨v, rfl, hown, hb2⟩
        obtain ⟨A2, c2, rfl, _, _⟩ := own_slice hown
        have Ho2 := Lib.hid hown
        clear hown
        go_wp2_with fail
        refine (put_any _ _ n rfl Hn.out).mono ?_
        rintro e w3 ⟨v, rfl, hown, hb3⟩
        obtain ⟨A3, c3, rfl, hc3, _⟩ := own_slice hown
        have Ho3 := Lib.hid hown
        clear hown
        go_wp2_with fail
        refine (same_any A2 _ c2 (vput m) A3 _ c3 (vput n) _ w2.heap.size w3.heap.size rfl rfl ((BS.of_own Ho2.out).1.below hb3) (BS.of_own Ho3.out).1).mono ?_
        rintro e w4 ⟨rfl, rfl⟩
        go_wp2_with fail
        refine (same_any A2 _ c2 (vput m) A3 _ c3 ((vput n).take (vput m).length) _ w2.heap.size w3.heap.size rfl (by rw [List.length_take]; omega) ((BS.of_own Ho2.out).1.below hb3) ((BS.of_own Ho3.out).1.take _)).mono ?_
        rintro e w4 ⟨rfl, rfl⟩
        go_wp2
        go_ret
        exact ⟨rfl, (hb1.trans (hb2.mono hb1.size)).trans (hb3.mono (by have := hb1.size; have := hb2.size; omega))⟩
end Go.Proofs.Ytoieidpiebfjlaa
