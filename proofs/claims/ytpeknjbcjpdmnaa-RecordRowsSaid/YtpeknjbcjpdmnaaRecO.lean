/- The walk of RecordOnly. -/
import Derived.Test.YtpeknjbcjpdmnaaRecX
import Derived.Test.YtpeknjbcjpdmnaaRow
namespace Go.Proofs.Ytpeknjbcjpdmnaa
open Go.RowKit
set_option linter.unusedVariables false

theorem allGo_row : ∀ (f : Nat) (b : List UInt8), b.length ≤ f → rowB (allGo f b).1 = b.take (allGo f b).2.1 ∧ (allGo f b).2.1 ≤ b.length ∧ rowOk (allGo f b).1 ∧ ((allGo f b).2.2 = 0 ↔ (allGo f b).2.1 = b.length)
  | 0, b, h => by
    have : b = [] := List.length_eq_zero_iff.1 (by omega)
    subst this
    simp [allGo, rowB, rowOk]
  | f + 1, b, h => by
    rw [allGo]
    split
    · rename_i h0
      have : b = [] := List.length_eq_zero_iff.1 h0
      subst this
      simp [rowB, rowOk]
    · split
      · rename_i h0 h1
        exact ⟨by simp [rowB], by simp, by simp [rowOk], ⟨fun e => absurd e h1, fun e => absurd e.symm h0⟩⟩
      · rename_i h0 h1
        rcases hv : nextS b with ⟨body, k, e⟩
        rw [hv] at h1
        have he : e = 0 := by
          rcases Nat.decEq e 0 with h | h
          · exact absurd h h1
          · exact h
        subst he
        obtain ⟨n, j, g1, g2, g3, g4, g5, g6, g7, g8⟩ := nextS_ok hv
        have hd : (b.drop k).length = b.length - k := List.length_drop
        obtain ⟨i1, i2, i3, i4⟩ := allGo_row f (b.drop k) (by omega)
        refine ⟨?_, ?_, ?_, ?_⟩
        · show rowB (body :: _) = b.take (k + _)
          rw [List.take_add, ← i1, g7]
          simp [rowB]
        · show k + (allGo f (b.drop k)).2.1 ≤ b.length
          omega
        · intro x hx
          rcases List.mem_cons.1 hx with rfl | hx
          · omega
          · exact i3 x hx
        · show (allGo f (b.drop k)).2.2 = 0 ↔ k + (allGo f (b.drop k)).2.1 = b.length
          rw [i4]
          omega
theorem allS_row (b : List UInt8) : rowB (allS b).1 = b.take (allS b).2.1 ∧ (allS b).2.1 ≤ b.length ∧ rowOk (allS b).1 ∧ ((allS b).2.2 = 0 ↔ (allS b).2.1 = b.length) := allGo_row _ b (Nat.le_refl _)
theorem room_le : ∀ (ls : List (List UInt8)), room ls ≤ (rowB ls).length + 14 * ls.length
  | [] => by simp [room]
  | l :: ls => by
    have ih := room_le ls
    have h1 := recB_length l
    simp only [rowB, room, List.map_cons, List.flatten_cons, List.length_append, List.sum_cons, List.length_cons] at ih ⊢
    omega

theorem row_eq {out : List UInt8} (A : Option Addr) (n c : Nat) (ls : List (List UInt8)) (w : World) (hn : n = ls.length) (hb : LS w w.heap.size A ls) (hl : n ≤ 1000000000) (hroom : room ls ≤ 1000000000) (hok : rowOk ls) (h : rowB ls = out) :
    Calls Try.prog 16 #[.slice A n c] w fun e w' => ∃ A' c', e = .returned (.tuple #[.slice A' out.length c', .int .i64 0]) ∧ w'.ownsRow w.heap.size 5 1 (.slice A' out.length c') out.length (bcells out) ∧ Below w.heap.size w w' := by
  subst h
  refine (row_any A n c ls w hn hb hl hroom).mono fun _ _ hh => ?_
  rcases hh with ⟨_, h⟩ | ⟨h, _⟩
  · exact h
  · exact absurd hok h

set_option maxHeartbeats 1600000 in
set_option maxRecDepth 100000 in
theorem walk_recordOnly (a0 : Option Addr) (len0 cap0 : Nat) (z0 : List Int) (w : World) (w0 : IsRow .u8 w a0 len0 cap0 z0) :
    Calls Try.prog 9 #[.slice a0 len0 cap0] w fun e w' => e = .returned (.bool true) ∧ Below w.heap.size w w' := by
  obtain ⟨l, rfl, hlc, hm, hB⟩ := BS.of_row w0
  clear w0
  have HB := Lib.hid hB
  clear hB
  by_cases hlen : 3000 < l.length
  · go_enter Try.func9, Try.ntmps9
    go_wp2_with fail
    refine (awake5_any _).mono ?_
    rintro e w1 ⟨rfl, hb1⟩
    go_wp2_with fail
    refine (awake5_any _).mono ?_
    rintro e w2 ⟨rfl, hb2⟩
    go_wp2
    go_ret
    exact ⟨rfl, bthen hb1 hb2⟩
  · have hl : l.length ≤ 1000000000 := by omega
    rcases hw : allS l with ⟨xs, a, g⟩
    have h0 := allS_len l
    obtain ⟨h1, h2, h3, h4⟩ := allS_row l
    rw [hw] at h0 h1 h2 h3 h4
    simp only at h0 h1 h2 h3 h4
    have h5 := room_le xs
    rw [h1, List.length_take] at h5
    have hxl : xs.length ≤ 1000000000 := by omega
    have hroom : room xs ≤ 1000000000 := by omega
    obtain ⟨o, ho⟩ : ∃ o, l.take a = o := ⟨_, rfl⟩
    have hol : a = o.length := by rw [← ho, List.length_take]; omega
    have Hol := Lib.hid hol
    rw [ho] at h1
    have H1 := Lib.hid h1
    have H3 := Lib.hid h3
    have Hw := Lib.hid hw
    have Hroom := Lib.hid hroom
    have hoB : Hid (BS w w.heap.size a0 o) := by
      show BS _ _ _ _
      rw [← ho]
      exact HB.out.take a
    have hoo : (o == o) = true := by simp
    have ha0 : (0 : Int) ≤ (a : Int) := by omega
    have ha1 : ¬ (l.length : Int) < (a : Int) := by omega
    have hac : a ≤ cap0 := by omega
    have hacI : (a : Int) ≤ (cap0 : Int) := by omega
    have key : ∀ (p q : Bool), (((g : Nat) : Int) == 0) = p → (((a : Nat) : Int) == ((l.length : Nat) : Int)) = q → p = q → Calls Try.prog 9 #[.slice a0 l.length cap0] w fun e w' => e = .returned (.bool true) ∧ Below w.heap.size w w' := by
      intro p q hp hq hpq
      subst hpq
      clear h0 h1 h2 h3 h4 h5 hw ho hol hroom
      rcases p with _ | _
      all_goals
        go_enter Try.func9, Try.ntmps9
        go_wp2_with fail
        refine (awake5_any _).mono ?_
        rintro e w1 ⟨rfl, hb1⟩
        go_wp2_with fail
        refine (all_eq _ _ _ l _ rfl ((HB.out.below hb1).more hb1.size) hl hlc Hw.out).mono ?_
        rintro e w2 ⟨A2, c2, rfl, hown2, hb2⟩
        have hB2 := bthen hb1 hb2
        have hx2 := Lib.hid hown2.to_LS
        clear hown2
        go_wp2_with fail
        refine (row_eq _ _ _ xs _ rfl hx2.out hxl Hroom.out H3.out H1.out).mono ?_
        rintro e w3 ⟨A3, c3, rfl, hown3, hb3⟩
        have hB3 := bthen hB2 hb3
        have Hown3 := Lib.hid hown3
        clear hown3
        go_wp2_with fail
        refine (same_any A3 _ c3 o a0 a cap0 o _ w3.heap.size w.heap.size rfl Hol.out (BS.of_own Hown3.out).1 (hoB.out.below hB3)).mono ?_
        rintro e w4 ⟨rfl, rfl⟩
        go_wp2
        go_ret
        exact ⟨rfl, hB3⟩
    refine key _ _ rfl rfl ?_
    by_cases hg : g = 0
    · have := h4.1 hg
      subst hg this
      simp
    · have h6 : ¬ a = l.length := fun e => hg (h4.2 e)
      have h7 : ¬ ((g : Nat) : Int) = 0 := by omega
      have h8 : ¬ ((a : Nat) : Int) = ((l.length : Nat) : Int) := by omega
      rw [beq_eq_false_iff_ne.2 h7, beq_eq_false_iff_ne.2 h8]
end Go.Proofs.Ytpeknjbcjpdmnaa
