/- The walk of RecordKeeps. -/
import Derived.Test.YtpeknjbcjpdmnaaFew
import Derived.Test.YtpeknjbcjpdmnaaRecC
import Derived.Test.YtpeknjbcjpdmnaaTurn
namespace Go.Proofs.Ytpeknjbcjpdmnaa
open Go.RowKit
set_option linter.unusedVariables false

theorem own_kept {w w' : World} {base : Nat} {e : TypeId} {size n : Nat} {v : Value} {xs : List Value} (h : w.ownsRow base e size v n xs) (hk : ∀ g, base ≤ g → g < w.heap.size → w'.heap[g]? = w.heap[g]?) : w'.ownsRow base e size v n xs := by
  refine ⟨h.1, ?_⟩
  rcases h.2 with h2 | ⟨g, cap, cur, hv, hg, hh, h3⟩
  · exact .inl h2
  · exact .inr ⟨g, cap, cur, hv, hg, (hk g hg (Array.getElem?_eq_some_iff.1 hh).1).trans hh, h3⟩
theorem LOwn.kept {eT eB : TypeId} {w w' : World} {base : Nat} {A : Option Addr} {c : Nat} {ls : List (List UInt8)} (h : LOwn eT eB w base A c ls) (hk : ∀ g, base ≤ g → g < w.heap.size → w'.heap[g]? = w.heap[g]?) : LOwn eT eB w' base A c ls := by
  obtain ⟨vs, h1, h2⟩ := h
  refine ⟨vs, own_kept h1 hk, fun j l hj => ?_⟩
  obtain ⟨A', c', e1, e2⟩ := h2 j l hj
  exact ⟨A', c', e1, own_kept e2 hk⟩
theorem few_of {ls : List (List UInt8)} (h : fewS ls = true) : ls.length ≤ 20 ∧ ∀ l ∈ ls, l.length ≤ 300 := by
  rw [fewS, Bool.and_eq_true, List.all_eq_true] at h
  exact ⟨of_decide_eq_true h.1, fun l hl => of_decide_eq_true (h.2 l hl)⟩
theorem few_eq {b : Bool} (A : Option Addr) (n c : Nat) (ls : List (List UInt8)) (w : World) (hn : n = ls.length) (hb : LS w w.heap.size A ls) (hl : n ≤ maxLen) (h : fewS ls = b) :
    Calls Try.prog 21 #[.slice A n c] w fun e w' => e = .returned (.bool b) ∧ Below w.heap.size w w' := by
  subst h
  exact few_any A n c ls w hn hb hl
theorem refRow_eq {out : List UInt8} (A : Option Addr) (n c : Nat) (ls : List (List UInt8)) (w : World) (hn : n = ls.length) (hb : LS w w.heap.size A ls) (hl : n ≤ 20) (hall : ∀ l ∈ ls, l.length ≤ 300) (h : rowB ls = out) :
    Calls Try.prog 22 #[.slice A n c] w fun e w' => ∃ A' c', e = .returned (.slice A' out.length c') ∧ w'.ownsRow w.heap.size 5 1 (.slice A' out.length c') out.length (bcells out) ∧ Below w.heap.size w w' := by
  subst h
  exact refRow_any A n c ls w hn hb hl hall

set_option maxHeartbeats 1600000 in
set_option maxRecDepth 100000 in
theorem walk_recordKeeps (a0 : Option Addr) (len0 cap0 : Nat) (ls : List (List UInt8)) (w : World) (hn : len0 = ls.length) (hm : len0 ≤ maxLen) (hB : LS w w.heap.size a0 ls) :
    Calls Try.prog 7 #[.slice a0 len0 cap0] w fun e w' => e = .returned (.bool true) ∧ Below w.heap.size w w' := by
  subst hn
  obtain ⟨i0, hi0, hz0, hz1, hz2⟩ := info_parts u8_infoO
  have HB := Lib.hid hB
  clear hB
  rcases hf : fewS ls with _ | _
  · have Hf := Lib.hid hf
    clear hf
    go_enter Try.func7, Try.ntmps7
    go_wp2_with fail
    refine (awake5_any _).mono ?_
    rintro e w1 ⟨rfl, hb1⟩
    go_wp2_with fail
    refine (few_eq _ _ _ ls _ rfl ((HB.out.below hb1).more hb1.size) hm Hf.out).mono ?_
    rintro e w2 ⟨rfl, hb2⟩
    have hB2 := bthen hb1 hb2
    go_wp2_with fail
    refine (awake5_any _).mono ?_
    rintro e w3 ⟨rfl, hb3⟩
    go_wp2
    go_ret
    exact ⟨rfl, bthen hB2 hb3⟩
  · have Hf := Lib.hid hf
    obtain ⟨hf1, hf2⟩ := few_of hf
    have hok := Lib.hid (few_ok ⟨hf1, hf2⟩)
    obtain ⟨hr1, hr2⟩ := few_len hf1 hf2
    have hall := all_row hok.out
    obtain ⟨o, ho⟩ : ∃ o, rowB ls = o := ⟨_, rfl⟩
    rw [ho] at hall hr1
    have Ho := Lib.hid ho
    have Hall := Lib.hid hall
    have Hf2 := Lib.hid hf2
    have hoo : (o == o) = true := by simp
    have hss : (ls == ls) = true := by simp
    clear hf hf2 ho hall hr2
    go_enter Try.func7, Try.ntmps7
    go_wp2_with fail
    refine (awake5_any _).mono ?_
    rintro e w1 ⟨rfl, hb1⟩
    go_wp2_with fail
    refine (few_eq _ _ _ ls _ rfl ((HB.out.below hb1).more hb1.size) hm Hf.out).mono ?_
    rintro e w2 ⟨rfl, hb2⟩
    have hB2 := bthen hb1 hb2
    go_wp2_with fail
    refine (refRow_eq _ _ _ ls _ rfl ((HB.out.below hB2).more hB2.size) hf1 Hf2.out Ho.out).mono ?_
    rintro e w3 ⟨A3, c3, rfl, hown3, hb3⟩
    have hB3 := bthen hB2 hb3
    have Hown3 := Lib.hid hown3
    clear hown3
    go_wp2_with (at_builtin; refine wpList_append_bytes _ rfl _ _ 22 rfl w3.heap.size 5 i0 (.int .u8 0) 1 Try.underlying22 hi0 hz0 hz1 hz2 rfl (.slice (some ⟨w3.heap.size, 0, none⟩) 0 0) [] rfl (own_none _ _ _ (Nat.le_refl _) _ rfl) w3.heap.size A3 _ c3 o rfl rfl ((BS.of_own Hown3.out).1.alloc (Nat.le_refl _) _) (by simp [maxLen]; omega) (by simp; omega) (by simp) ?_; intro A4 c4 w4 hown4 hg4 _)
    have hb4 : Below w3.heap.size w3 w4 := ((Below.refl _ _).alloc (Nat.le_refl _) _).grown hg4 (by simp) (by intro k hk; simp [Value.ownBlock] at hk; omega)
    have Hown4 : Hid (w4.ownsRow w3.heap.size 5 1 (.slice A4 o.length c4) o.length (bcells o)) := by
      show World.ownsRow _ _ _ _ _ _ _
      simpa using hown4
    have hB4 := bthen hB3 hb4
    clear hown4 hg4
    have hcap4 : o.length ≤ c4 := own_cap Hown4.out
    refine (all_eq _ _ _ o _ rfl (BS.of_own Hown4.out).1 (by omega) hcap4 Hall.out).mono ?_
    rintro e w5 ⟨A5, c5, rfl, hown5, hb5⟩
    have hB5 := bthen hB4 hb5
    have Hown5 := Lib.hid hown5
    clear hown5
    have hx3 : Hid (BS w5 w3.heap.size A3 o) := (BS.of_own Hown3.out).1.below (hb4.trans (hb5.mono hb4.size))
    have hown4' : Hid (w5.ownsRow w3.heap.size 5 1 (.slice A4 o.length c4) o.length (bcells o)) := own_below Hown4.out hb5
    have h34 : w3.heap.size ≤ w4.heap.size := hb4.size
    have h04 : w.heap.size ≤ w3.heap.size := hB3.size
    go_wp2_with fail
    refine (same_any A4 _ c4 o A3 _ c3 o _ w5.heap.size w3.heap.size rfl rfl (BS.of_own hown4'.out).1 hx3.out).mono ?_
    rintro e w6 ⟨rfl, rfl⟩
    go_wp2_with fail
    have hfar : Hid (∀ g, (Value.slice A4 o.length c4).ownBlock = some g → g < w4.heap.size) := fun g hg => (Hown4.out.lt g hg).2
    go_loopw [8] (fun i wr => ∃ (j : Nat) (xs : List UInt8), j ≤ o.length ∧ i = .int .i64 (j : Int) ∧ Below w.heap.size w wr ∧ Hid (xs.length = o.length) ∧ Hid (wr.ownsRow w3.heap.size 5 1 (.slice A4 o.length c4) o.length (bcells xs)) ∧ w4.heap.size ≤ wr.heap.size ∧ Hid (LOwn 22 5 wr w4.heap.size A5 c5 ls)) (fun i _ => o.length - (intOf i).toNat)
    case atStart => exact ⟨0, o, by omega, rfl, hB5, rfl, hown4', hb5.size, Hown5⟩
    case round =>
      obtain ⟨j, xs, hj, rfl, hbel, hxl, hown, hsz, hlo⟩ := hrel
      by_cases hlt : j < o.length
      · have hltI : (j : Int) < (o.length : Int) := by omega
        have hj0 : (0 : Int) ≤ (j : Int) := by omega
        have hjx : j < xs.length := by have := hxl.out; omega
        obtain ⟨g, cap, hv3, hg2, hg3'⟩ := hown.out.form (by omega)
        have hA4 : A4 = some ⟨g, 0, none⟩ := by injection hv3
        subst hA4
        clear hv3
        have hgf : g < w4.heap.size := hfar.out g rfl
        have hc := hown.out.cellAt j (by omega)
        have hc2 : (bcells xs)[j]? = some (.int .u8 ((xs[j]).toNat : Int)) := by
          rw [bcells, List.getElem?_map, List.getElem?_eq_getElem hjx]
          rfl
        rw [hc2] at hc
        have hf := hown.out.frozenAt j
        have hd8 := (xs[j]).toNat_lt
        have hx : bits .xor .u8 ((xs[j]).toNat : Int) 255 = (((xs[j]).toNat ^^^ 255 : Nat) : Int) := xor_u8' _ 255 hd8 (by omega)
        have hst := hown.out.stored j (.int .u8 (((xs[j]).toNat ^^^ 255 : Nat) : Int))
        have Hst := Lib.hid hst
        have Hx := Lib.hid hx
        clear hst hc2 hx
        go_wp2
        go_roundw
        case rel =>
          refine ⟨j + 1, xs.set j (UInt8.ofNat ((xs[j]).toNat ^^^ 255)), by omega, by go_num, hbel.setCell (by simp; omega) _, ?_, ?_, by simpa using hsz, ?_⟩
          · show _ = _
            rw [List.length_set]
            exact hxl.out
          · show World.ownsRow _ _ _ _ _ _ _
            rw [Hx.out, bcells_set, ← toNat_u8' (Nat.xor_lt_two_pow (n := 8) hd8 (by omega))]
            exact Hst.out.1
          · exact hlo.out.kept fun g' h1 h2 => Below.heap_setCell _ _ _ g' (by simp; omega)
        case measure => simp [intOf]; omega
      · have hx5 : Hid (LS wr wr.heap.size A5 ls) := hlo.out.to_LS
        go_wp2_with fail
        refine (rowSame_any A5 _ c5 ls a0 _ cap0 ls _ rfl rfl hx5.out ((HB.out.below hbel).more hbel.size) (by omega)).mono ?_
        rintro e w7 ⟨rfl, hb7⟩
        go_wp2
        go_ret
        exact ⟨rfl, bthen hbel hb7⟩
end Go.Proofs.Ytpeknjbcjpdmnaa
