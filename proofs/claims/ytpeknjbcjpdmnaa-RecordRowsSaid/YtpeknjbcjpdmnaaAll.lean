/- The walk of record.All. -/
import Derived.Test.YtpeknjbcjpdmnaaRecA
import Derived.Test.YtpeknjbcjpdmnaaLOwn
import Derived.Test.YtpeknjbcjpdmnaaRecL
namespace Go.Proofs.Ytpeknjbcjpdmnaa
open Go.RowKit
set_option linter.unusedVariables false

theorem sl_info : (Try.prog.info? 22).map (fun i => (i.zero, i.size, i.bytes)) = some (some (.slice none 0 0), 1, 24) := by kernel_rfl

def AllIs (w : World) (b : List UInt8) (e : Ending) (w' : World) : Prop :=
  ∃ A c, e = .returned (.tuple #[.slice A (allS b).1.length c, .int .i64 ((allS b).2.1 : Int), .int .i64 ((allS b).2.2 : Int)]) ∧ LOwn 22 5 w' w.heap.size A c (allS b).1 ∧ Below w.heap.size w w'
theorem allIs_of {w w' : World} {b : List UInt8} {xs : List (List UInt8)} {a e : Nat} {n : Nat} {x y : Int} {A : Option Addr} {c : Nat} (h : allS b = (xs, a, e)) (hn : n = xs.length) (hx : x = (a : Int)) (hy : y = (e : Int)) (ho : LOwn 22 5 w' w.heap.size A c xs) (hb : Below w.heap.size w w') :
    AllIs w b (.returned (.tuple #[.slice A n c, .int .i64 x, .int .i64 y])) w' := by
  subst hn hx hy
  exact ⟨A, c, by rw [h], by rw [h]; exact ho, hb⟩

set_option maxHeartbeats 1600000 in
set_option maxRecDepth 100000 in
theorem recAll_any (A : Option Addr) (m c : Nat) (b : List UInt8) (w : World) (hn : m = b.length) (hb : BS w w.heap.size A b) (hl : m ≤ 1000000000) (hc : m ≤ c) :
    Calls Try.prog 18 #[.slice A m c] w (AllIs w b) := by
  subst hn
  obtain ⟨i0, hi0, hz0, hz1, hz2⟩ := info_parts sl_info
  have HB := Lib.hid hb
  clear hb
  go_enter Try.func18, Try.ntmps18
  go_wp2
  go_step3
  go_wp2
  go_step3
  go_wp2
  go_outline
  go_loopw [5, 6, 7] (fun v i q wr => ∃ (a : Nat) (xs : List (List UInt8)) (A' : Option Addr) (c' : Nat), a ≤ b.length ∧ xs.length ≤ a ∧ i = .int .i64 (a : Int) ∧ q = .int .i64 0 ∧ v = .slice A' xs.length c' ∧ Below w.heap.size w wr ∧ Hid (AllAt b a xs) ∧ Hid (LOwn 22 5 wr w.heap.size A' c' xs)) (fun _ i _ _ => b.length - (intOf i).toNat)
  case atStart => exact ⟨0, [], none, 0, by omega, by simp, rfl, rfl, rfl, Below.refl _ _, allAt_start b, LOwn.nil _ _ _ _⟩
  case round =>
    obtain ⟨a, xs, A', c', ha, hxa, rfl, rfl, rfl, hbel, hat, hown⟩ := hrel
    have hsz : w.heap.size ≤ wr.heap.size := hbel.size
    by_cases hlt : a < b.length
    · have haI : (a : Int) < (b.length : Int) := by omega
      obtain ⟨ad, rfl, _, _⟩ := HB.out (by omega)
      have hne : c ≠ a := by omega
      have hac : a ≤ c := by omega
      have hbs : Hid (BS wr wr.heap.size (some (ad.add a)) (b.drop a)) := by
        have := (HB.out.below hbel).more hsz |>.drop (k := a) (cap := c) (by omega)
        rw [if_neg hne] at this
        exact this
      have hdl : Hid (b.length - a = (b.drop a).length) := by show _ = _; rw [List.length_drop]
      rcases hv : nextS (b.drop a) with ⟨body, k, e⟩
      have Hv := Lib.hid hv
      by_cases he : e = 0
      · subst he
        obtain ⟨n, j, g1, g2, g3, g4, g5, g6, g7, g8⟩ := nextS_ok hv
        rw [List.length_drop] at g4
        have hstep := allAt_step hat.out hlt hv (by omega)
        have Hstep := Lib.hid hstep
        clear hv hstep g1 g5 g6 g7
        go_wp2_with fail
        refine (next_eq _ _ _ (b.drop a) _ hdl.out hbs.out (by omega) (by omega) Hv.out).mono ?_
        rintro e w1 ⟨A1, c1, rfl, hown1, hb1⟩
        have hB1 := hbel.trans (hb1.mono hsz)
        have Hown1 : Hid (w1.ownsRow w.heap.size 5 1 (.slice A1 body.length c1) body.length (bcells body)) := own_base hown1 hsz
        have Hown := Lib.hid (hown.out.below hb1)
        clear hown1 hown
        go_wp2_with (at_builtin; go_loud (refine wpList_append_list _ rfl _ _ 38 rfl w.heap.size 22 5 (by decide) i0 (.slice none 0 0) 24 Try.underlying38 hi0 hz0 hz1 hz2 rfl A' c' xs body A1 c1 rfl _ rfl ?_ ?_ ?_ ?_ ?_ ?_ ?_))
        · exact cell_of_row _ _ 0 _ _ _ (heap_alloc_new w1 _)
        · exact Hown.out.below ((Below.refl _ w1).alloc (Nat.le_refl _) _)
        · exact own_below Hown1.out ((Below.refl _ w1).alloc (Nat.le_refl _) _)
        · unfold maxLen; omega
        · omega
        · exact Nat.le_trans hB1.size ((Below.refl _ w1).alloc (Nat.le_refl _) _).size
        intro A3 c3 w3 hown3 hg3
        have hb3 : Below w.heap.size w w3 := (hB1.alloc hB1.size _).grown hg3 ((hB1.alloc hB1.size (.cells #[.slice A1 body.length c1] 22)).size) (fun g hg => Hown.out.lt hg)
        have Hown3 := Lib.hid hown3
        clear hown3 hg3 Hown Hown1
        go_wp2
        go_roundw
        case rel => exact ⟨a + k, xs ++ [body], A3, c3, by omega, by simp; omega, by go_num, rfl, by simp, hb3, Hstep.out, Hown3.out⟩
        case measure => simp [intOf]; omega
      · have he' : (e : Int) ≠ 0 := by omega
        have hbad := nextS_bad (b := b.drop a) (by rw [hv]; exact he)
        rw [hv] at hbad
        obtain ⟨rfl, rfl⟩ : body = [] ∧ k = 0 := hbad
        have Hend := Lib.hid (allAt_err hat.out hlt hv he)
        clear hv
        go_wp2_with fail
        refine (next_eq _ _ _ (b.drop a) _ hdl.out hbs.out (by omega) (by omega) Hv.out).mono ?_
        rintro e w1 ⟨A1, c1, rfl, hown1, hb1⟩
        have hB1 := hbel.trans (hb1.mono hsz)
        have Hown := Lib.hid (hown.out.below hb1)
        clear hown1 hown
        go_wp2
        rw [Exit.noGoto_ret]
        go_ret3
        exact allIs_of Hend.out rfl rfl rfl Hown.out hB1
    · have Hend := Lib.hid (allAt_end hat.out (by omega))
      go_wp2
      rw [Exit.noGoto_ret]
      go_ret3
      exact allIs_of Hend.out rfl rfl rfl hown.out hbel
end Go.Proofs.Ytpeknjbcjpdmnaa
