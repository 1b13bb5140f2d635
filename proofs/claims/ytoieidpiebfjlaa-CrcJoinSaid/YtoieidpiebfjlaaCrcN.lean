/- The walks of chapter 3's statements: More, Join. -/
import Derived.Test.YtoieidpiebfjlaaCrcL
namespace Go.Proofs.Ytoieidpiebfjlaa
open Go.RowKit
set_option linter.unusedVariables false

set_option maxHeartbeats 800000 in
set_option maxRecDepth 100000 in
theorem walk_crcMore (a0 : Option Addr) (len0 cap0 : Nat) (z0 : List Int) (a1 : Option Addr) (len1 cap1 : Nat) (z1 : List Int) (w : World) (w0 : IsRow .u8 w a0 len0 cap0 z0) (w1 : IsRow .u8 w a1 len1 cap1 z1) :
    Calls Try.prog 10 #[.slice a0 len0 cap0, .slice a1 len1 cap1] w fun e w' => e = .returned (.bool true) ∧ Below w.heap.size w w' := by
  obtain ⟨l, rfl, _, _, hB⟩ := BS.of_row w0
  obtain ⟨m, rfl, _, _, hC⟩ := BS.of_row w1
  obtain ⟨i0, hi0, hz0, hz1, hz2⟩ := info_parts u8_info3
  clear w0 w1
  have HB := Lib.hid hB
  have HC := Lib.hid hC
  clear hB hC
  by_cases hlen : 500 < l.length ∨ 500 < m.length
  · by_cases h1 : 500 < l.length
    all_goals
      by_cases h2 : 500 < m.length
    all_goals
      first
        | exact absurd hlen (by omega)
        | (clear hlen
           go_enter Try.func10, Try.ntmps10
           go_wp2_with fail
           refine (awake3_any _).mono ?_
           rintro e w1 ⟨rfl, hb1⟩
           go_wp2_with fail
           refine (awake3_any _).mono ?_
           rintro e w2 ⟨rfl, hb2⟩
           go_wp2
           go_ret
           exact ⟨rfl, bthen hb1 hb2⟩)
  · have hl0 : l.length ≤ 500 := by omega
    have hl1 : m.length ≤ 500 := by omega
    clear hlen
    obtain ⟨o, ho⟩ : ∃ o, ofS l = o := ⟨_, rfl⟩
    obtain ⟨q, hq⟩ : ∃ q, ofS (l ++ m) = q := ⟨_, rfl⟩
    have hmo : moreS o m = q := by rw [← ho, ← ofS_append, hq]
    have ho32 : o < 4294967296 := by rw [← ho]; exact ofS_lt l
    have Ho := Lib.hid ho
    have Hq := Lib.hid hq
    have Hmo := Lib.hid hmo
    clear ho hq hmo
    have hll : l.length + m.length ≤ maxLen := by unfold maxLen; omega
    have Hll := Lib.hid hll
    clear hll
    go_enter Try.func10, Try.ntmps10
    go_wp2_with fail
    refine (awake3_any _).mono ?_
    rintro e w2 ⟨rfl, hb2⟩
    have hs2 := hb2.size
    go_wp2_with (first
      | (at_builtin; refine wpList_append_bytes _ rfl _ _ 22 rfl w2.heap.size 5 i0 (.int .u8 0) 1 Try.underlying22 hi0 hz0 hz1 hz2 rfl (.slice (some ⟨w2.heap.size, 0, none⟩) 0 0) [] rfl (own_none _ _ _ (Nat.le_refl _) _ rfl) w.heap.size a0 _ cap0 l rfl rfl ((HB.out.below hb2).alloc hs2 _) (by simp [maxLen]; omega) (by simp; omega) (by simp) ?_; intro A3 c3 w3 hown3 hg3 _; have hb3 : Below w2.heap.size w2 w3 := ((Below.refl _ _).alloc (Nat.le_refl _) _).grown hg3 (by simp) (by intro k hk; simp [Value.ownBlock] at hk; omega))
      | (at_builtin; refine wpList_append_bytes _ rfl _ _ 22 rfl w2.heap.size 5 i0 (.int .u8 0) 1 Try.underlying22 hi0 hz0 hz1 hz2 rfl (.slice A3 l.length c3) l rfl hown3 w.heap.size a1 _ cap1 m rfl rfl (HC.out.below (bthen hb2 hb3)) (by simp [maxLen]; omega) (by simp; omega) hb3.size ?_; intro A4 c4 w4 hown4 hg4 _; have hb4 : Below w2.heap.size w2 w4 := hb3.grown hg4 hb3.size (fun k hk => (hown3.lt k hk).1)))
    have Ho4 := Lib.hid hown4
    have hB4 := bthen hb2 hb4
    clear hown3 hown4 hg3 hg4 hb3 hb4
    refine (of_eq _ _ _ (l ++ m) _ _ (by simp) (BS.of_own Ho4.out).1 (Nat.le_refl _) Hll.out Hq.out).mono ?_
    rintro e w5 ⟨rfl, hb5⟩
    have hB5 := bthen hB4 hb5
    go_wp2_with fail
    refine (of_eq _ _ _ l _ _ rfl (HB.out.below hB5) hB5.size (le_maxLen (by omega)) Ho.out).mono ?_
    rintro e w6 ⟨rfl, hb6⟩
    have hB6 := bthen hB5 hb6
    go_wp2_with fail
    refine (more_eq _ _ _ _ m _ _ rfl ho32 rfl (HC.out.below hB6) hB6.size (le_maxLen (by omega)) Hmo.out).mono ?_
    rintro e w7 ⟨rfl, hb7⟩
    have hB7 := bthen hB6 hb7
    go_wp2_with fail
    refine (of_eq _ _ _ l _ _ rfl (HB.out.below hB7) hB7.size (le_maxLen (by omega)) Ho.out).mono ?_
    rintro e w8 ⟨rfl, hb8⟩
    have hB8 := bthen hB7 hb8
    go_wp2_with fail
    refine (more_eq _ none 0 0 [] _ w.heap.size rfl ho32 rfl (BS.nil _ _ _) hB8.size (le_maxLen (by omega)) (moreS_nil o)).mono ?_
    rintro e w9 ⟨rfl, hb9⟩
    have hB9 := bthen hB8 hb9
    go_wp2_with fail
    refine (of_eq _ _ _ l _ _ rfl (HB.out.below hB9) hB9.size (le_maxLen (by omega)) Ho.out).mono ?_
    rintro e w10 ⟨rfl, hb10⟩
    have hB10 := bthen hB9 hb10
    go_wp2_with fail
    refine (of_eq none 0 0 [] _ w.heap.size rfl (BS.nil _ _ _) hB10.size (le_maxLen (by omega)) ofS_nil).mono ?_
    rintro e w11 ⟨rfl, hb11⟩
    have hB11 := bthen hB10 hb11
    go_wp2
    go_ret
    exact ⟨rfl, hB11⟩

set_option maxHeartbeats 800000 in
set_option maxRecDepth 100000 in
theorem walk_crcJoin (a0 : Option Addr) (len0 cap0 : Nat) (z0 : List Int) (a1 : Option Addr) (len1 cap1 : Nat) (z1 : List Int) (w : World) (w0 : IsRow .u8 w a0 len0 cap0 z0) (w1 : IsRow .u8 w a1 len1 cap1 z1) :
    Calls Try.prog 11 #[.slice a0 len0 cap0, .slice a1 len1 cap1] w fun e w' => e = .returned (.bool true) ∧ Below w.heap.size w w' := by
  obtain ⟨l, rfl, _, _, hB⟩ := BS.of_row w0
  obtain ⟨m, rfl, _, _, hC⟩ := BS.of_row w1
  obtain ⟨i0, hi0, hz0, hz1, hz2⟩ := info_parts u8_info3
  clear w0 w1
  have HB := Lib.hid hB
  have HC := Lib.hid hC
  clear hB hC
  by_cases hlen : 500 < l.length ∨ 500 < m.length
  · by_cases h1 : 500 < l.length
    all_goals
      by_cases h2 : 500 < m.length
    all_goals
      first
        | exact absurd hlen (by omega)
        | (clear hlen
           go_enter Try.func11, Try.ntmps11
           go_wp2_with fail
           refine (awake3_any _).mono ?_
           rintro e w1 ⟨rfl, hb1⟩
           go_wp2_with fail
           refine (awake3_any _).mono ?_
           rintro e w2 ⟨rfl, hb2⟩
           go_wp2
           go_ret
           exact ⟨rfl, bthen hb1 hb2⟩)
  · have hl0 : l.length ≤ 500 := by omega
    have hl1 : m.length ≤ 500 := by omega
    clear hlen
    obtain ⟨o, ho⟩ : ∃ o, ofS l = o := ⟨_, rfl⟩
    obtain ⟨p, hp⟩ : ∃ p, ofS m = p := ⟨_, rfl⟩
    obtain ⟨q, hq⟩ : ∃ q, ofS (l ++ m) = q := ⟨_, rfl⟩
    have hj : shN (8 * m.length) o ^^^ p = q := by rw [← ho, ← hp, ← ofS_join, hq]
    have ho32 : o < 4294967296 := by rw [← ho]; exact ofS_lt l
    have hp32 : p < 4294967296 := by rw [← hp]; exact ofS_lt m
    have Ho := Lib.hid ho
    have Hp := Lib.hid hp
    have Hq := Lib.hid hq
    have Hj := Lib.hid hj
    clear ho hq hp hj
    have hll : l.length + m.length ≤ maxLen := by unfold maxLen; omega
    have Hll := Lib.hid hll
    clear hll
    go_enter Try.func11, Try.ntmps11
    go_wp2_with fail
    refine (awake3_any _).mono ?_
    rintro e w2 ⟨rfl, hb2⟩
    have hs2 := hb2.size
    go_wp2_with (first
      | (at_builtin; refine wpList_append_bytes _ rfl _ _ 22 rfl w2.heap.size 5 i0 (.int .u8 0) 1 Try.underlying22 hi0 hz0 hz1 hz2 rfl (.slice (some ⟨w2.heap.size, 0, none⟩) 0 0) [] rfl (own_none _ _ _ (Nat.le_refl _) _ rfl) w.heap.size a0 _ cap0 l rfl rfl ((HB.out.below hb2).alloc hs2 _) (by simp [maxLen]; omega) (by simp; omega) (by simp) ?_; intro A3 c3 w3 hown3 hg3 _; have hb3 : Below w2.heap.size w2 w3 := ((Below.refl _ _).alloc (Nat.le_refl _) _).grown hg3 (by simp) (by intro k hk; simp [Value.ownBlock] at hk; omega))
      | (at_builtin; refine wpList_append_bytes _ rfl _ _ 22 rfl w2.heap.size 5 i0 (.int .u8 0) 1 Try.underlying22 hi0 hz0 hz1 hz2 rfl (.slice A3 l.length c3) l rfl hown3 w.heap.size a1 _ cap1 m rfl rfl (HC.out.below (bthen hb2 hb3)) (by simp [maxLen]; omega) (by simp; omega) hb3.size ?_; intro A4 c4 w4 hown4 hg4 _; have hb4 : Below w2.heap.size w2 w4 := hb3.grown hg4 hb3.size (fun k hk => (hown3.lt k hk).1)))
    have Ho4 := Lib.hid hown4
    have hB4 := bthen hb2 hb4
    clear hown3 hown4 hg3 hg4 hb3 hb4
    refine (of_eq _ _ _ l _ _ rfl (HB.out.below hB4) hB4.size (le_maxLen (by omega)) Ho.out).mono ?_
    rintro e w5 ⟨rfl, hb5⟩
    have hB5 := bthen hB4 hb5
    go_wp2_with fail
    refine (of_eq _ _ _ m _ _ rfl (HC.out.below hB5) hB5.size (le_maxLen (by omega)) Hp.out).mono ?_
    rintro e w6 ⟨rfl, hb6⟩
    have hB6 := bthen hB5 hb6
    go_wp2_with fail
    refine (join_eq _ _ _ _ rfl rfl rfl ho32 hp32 (by omega) Hj.out).mono ?_
    rintro e w7 ⟨rfl, hb7⟩
    have hB7 := bthen hB6 hb7
    go_wp2_with fail
    refine (of_eq _ _ _ (l ++ m) _ _ (by simp) ((BS.of_own Ho4.out).1.below (bthen (bthen hb5 hb6) hb7)) (bthen (bthen hb5 hb6) hb7).size Hll.out Hq.out).mono ?_
    rintro e w8 ⟨rfl, hb8⟩
    have hB8 := bthen hB7 hb8
    go_wp2
    go_ret
    exact ⟨rfl, hB8⟩
end Go.Proofs.Ytoieidpiebfjlaa
