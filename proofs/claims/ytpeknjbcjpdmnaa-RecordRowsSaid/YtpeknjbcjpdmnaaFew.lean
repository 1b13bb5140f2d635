/- The walks of wayleaveref05.Few and wayleaveref05.Row. -/
import Derived.Test.YtpeknjbcjpdmnaaRecO
namespace Go.Proofs.Ytpeknjbcjpdmnaa
open Go.RowKit
set_option linter.unusedVariables false

/-- Few texts, and short. -/
def fewS (ls : List (List UInt8)) : Bool := decide (ls.length ≤ 20) && ls.all fun l => decide (l.length ≤ 300)

set_option maxHeartbeats 1600000 in
set_option maxRecDepth 100000 in
theorem few_any (A : Option Addr) (n c : Nat) (ls : List (List UInt8)) (w : World) (hn : n = ls.length) (hb : LS w w.heap.size A ls) (hl : n ≤ maxLen) :
    Calls Try.prog 21 #[.slice A n c] w fun e w' => e = .returned (.bool (fewS ls)) ∧ Below w.heap.size w w' := by
  subst hn
  have hl' : ls.length ≤ 9223372036854775807 := by unfold maxLen at hl; omega
  have HB := Lib.hid hb
  clear hb
  go_enter Try.func21, Try.ntmps21
  go_wp2
  go_loopw [3] (fun i wr => ∃ (k : Nat), k ≤ ls.length ∧ k ≤ 50 ∧ i = .int .i64 (k : Int) ∧ Below w.heap.size w wr ∧ Hid (∀ l ∈ ls.take k, l.length ≤ 300)) (fun i _ => ls.length - (intOf i).toNat)
  case atStart => exact ⟨0, by omega, by omega, rfl, Below.refl _ _, by simp [Hid]⟩
  case round =>
    obtain ⟨k, hk, hk50, rfl, hbel, heq⟩ := hrel
    by_cases hlt : k < ls.length
    · have hkI : (k : Int) < (ls.length : Int) := by omega
      have hkI0 : (0 : Int) ≤ (k : Int) := by omega
      by_cases h50 : k < 50
      · have h50I : (k : Int) < 50 := by omega
        obtain ⟨ad, A1, c1, rfl, _, hc, hcc, hbs⟩ := (HB.out.below hbel).at_ hlt
        have hge : ls[k] ∈ ls := List.getElem_mem hlt
        have hbig : Hid (300 < (ls[k]).length → fewS ls = false) := fun h => by
          rw [fewS, Bool.and_eq_false_iff]
          right
          rw [List.all_eq_false]
          exact ⟨_, hge, by simp; omega⟩
        have hstep : Hid ((ls[k]).length ≤ 300 → ∀ l ∈ ls.take (k + 1), l.length ≤ 300) := fun h l hl => by
          rw [take_step hlt, List.mem_append] at hl
          rcases hl with hl | hl
          · exact heq.out l hl
          · simp at hl
            subst hl
            exact h
        clear hge hbs hcc
        generalize (ls[k]).length = L at *
        by_cases hL : 300 < L
        · have hLI : (300 : Int) < (L : Int) := by omega
          have hx := hbig.out hL
          go_wp2
          go_ret
          exact ⟨by rw [hx]; rfl, hbel⟩
        · have hLI : ¬ (300 : Int) < (L : Int) := by omega
          have Hx := Lib.hid (hstep.out (by omega))
          go_wp2
          go_roundw
          case rel => exact ⟨k + 1, by omega, by omega, by go_num, hbel, Hx.out⟩
          case measure => simp [intOf]; omega
      · have h50I : ¬ (k : Int) < 50 := by omega
        have hx : fewS ls = false := by
          rw [fewS, Bool.and_eq_false_iff]
          left
          exact decide_eq_false (by omega)
        have h20 : ¬ (ls.length : Int) ≤ 20 := by omega
        go_wp2
        go_ret
        exact ⟨rfl, hbel⟩
    · have hkI : ¬ (k : Int) < (ls.length : Int) := by omega
      have he := heq.out
      rw [List.take_of_length_le (by omega)] at he
      have hx : fewS ls = decide (ls.length ≤ 20) := by
        rw [fewS]
        have : (ls.all fun l => decide (l.length ≤ 300)) = true := by
          rw [List.all_eq_true]
          intro l hl
          exact decide_eq_true (he l hl)
        rw [this, Bool.and_true]
      have hd : decide ((ls.length : Int) ≤ 20) = decide (ls.length ≤ 20) := by
        by_cases h : ls.length ≤ 20
        · rw [decide_eq_true h, decide_eq_true (by omega)]
        · rw [decide_eq_false h, decide_eq_false (by omega)]
      have Hx := Lib.hid (hx.trans hd.symm)
      clear hx hd he
      go_wp2
      go_ret
      exact ⟨by rw [Hx.out]; rfl, hbel⟩

set_option maxHeartbeats 1600000 in
set_option maxRecDepth 100000 in
theorem refRow_any (A : Option Addr) (n c : Nat) (ls : List (List UInt8)) (w : World) (hn : n = ls.length) (hb : LS w w.heap.size A ls) (hl : n ≤ 20) (hall : ∀ l ∈ ls, l.length ≤ 300) :
    Calls Try.prog 22 #[.slice A n c] w fun e w' => ∃ A' c', e = .returned (.slice A' (rowB ls).length c') ∧ w'.ownsRow w.heap.size 5 1 (.slice A' (rowB ls).length c') (rowB ls).length (bcells (rowB ls)) ∧ Below w.heap.size w w' := by
  subst hn
  obtain ⟨i0, hi0, hz0, hz1, hz2⟩ := info_parts u8_infoO
  have HB := Lib.hid hb
  have Hall := Lib.hid hall
  clear hb hall
  go_enter Try.func22, Try.ntmps22
  go_wp2
  go_loopw [3, 4] (fun v i wr => ∃ (k : Nat) (dn : List UInt8) (A' : Option Addr) (c' : Nat), k ≤ ls.length ∧ i = .int .i64 (k : Int) ∧ v = .slice A' dn.length c' ∧ Below w.heap.size w wr ∧ Hid (dn = rowB (ls.take k)) ∧ dn.length ≤ 400 * k ∧ Hid (wr.ownsRow w.heap.size 5 1 (.slice A' dn.length c') dn.length (bcells dn))) (fun _ i _ => ls.length - (intOf i).toNat)
  case atStart => exact ⟨0, [], none, 0, by omega, rfl, rfl, Below.refl _ _, by simp [Hid, rowB], by simp, World.ownsRow_nil _ _ _ _⟩
  case round =>
    obtain ⟨k, dn, A', c', hk, rfl, rfl, hbel, hdn, hlen, hown⟩ := hrel
    have hsz : w.heap.size ≤ wr.heap.size := hbel.size
    have hrow : ∀ g, (Value.slice A' dn.length c').ownBlock = some g → w.heap.size ≤ g := fun g hg => (hown.out.lt g hg).1
    by_cases hlt : k < ls.length
    · have hkI : (k : Int) < (ls.length : Int) := by omega
      obtain ⟨ad, A1, c1, rfl, hadb, hc, hcc, hbs⟩ := (HB.out.below hbel).at_ hlt
      have hL : (ls[k]).length ≤ 300 := Hall.out _ (List.getElem_mem hlt)
      have hdn' : Hid (dn ++ recB ls[k] = rowB (ls.take (k + 1))) := by
        show _ = _
        rw [hdn.out, take_step hlt, rowB_snoc]
      have hrl : (recB ls[k]).length ≤ 400 := by
        rw [recB_length]
        have := vput_le (n := (ls[k]).length) (by omega)
        omega
      have Hbs := Lib.hid (hbs.more hsz)
      clear hbs
      generalize ls[k] = l at *
      go_wp2_with fail
      refine (refRecPut_any _ _ _ l _ rfl Hbs.out (by omega)).mono ?_
      rintro e w1 ⟨A2, c2, rfl, hown2, hb2⟩
      have hB2 := hbel.trans (hb2.mono hsz)
      have Hown2 := Lib.hid hown2
      have Hown1 := Lib.hid (own_below hown.out hb2)
      clear hown2
      go_wp2_with (at_builtin; refine wpList_append_bytes _ rfl _ _ 22 rfl w.heap.size 5 i0 (.int .u8 0) 1 Try.underlying22 hi0 hz0 hz1 hz2 rfl (.slice A' dn.length c') dn rfl Hown1.out w1.heap.size A2 _ c2 (recB l) rfl rfl (BS.of_own Hown2.out).1 (by unfold maxLen; omega) (by omega) hB2.size ?_; intro A3 c3 w3 hown3 hg3 _)
      have hb3 : Below w.heap.size w w3 := hB2.grown hg3 hB2.size hrow
      have hlen3 : (dn ++ recB l).length = dn.length + (recB l).length := List.length_append
      have Hown3 := Lib.hid hown3
      have Hlen3 := Lib.hid hlen3
      clear hown3 hlen3 hg3 hb2
      go_roundw
      case rel => exact ⟨k + 1, dn ++ recB l, A3, c3, by omega, by go_num, by simp, hb3, hdn', by simp; omega, Hown3.out⟩
      case measure => simp [intOf]; omega
    · have hke : ls.take k = ls := List.take_of_length_le (by omega)
      have hd := hdn.out
      rw [hke] at hd
      subst hd
      clear hdn hke
      go_wp2
      go_ret
      exact ⟨A', c', rfl, hown.out, hbel⟩
end Go.Proofs.Ytpeknjbcjpdmnaa
