/- The contracts of layer 22, told apart by what they answer. -/
import Derived.Test.YtmkeljcjhcaigaaCAw
import Derived.Test.YtmkeljcjhcaigaaConfY
namespace Go.Proofs.Ytmkeljcjhcaigaa
open Go.RowKit
set_option linter.unusedVariables false

theorem few_yes (A : Option Addr) (n c : Nat) (f : ConfP) (h : n ≤ 100) (w : World) : Calls Try.prog 11 #[.agg (confCs A n c f).toArray] w fun e w' => e = .returned (.bool true) ∧ Below w.heap.size w w' := by
  have := refFew_any A n c f w
  rw [decide_eq_true h] at this
  exact this
theorem few_no (A : Option Addr) (n c : Nat) (f : ConfP) (h : ¬ n ≤ 100) (w : World) : Calls Try.prog 11 #[.agg (confCs A n c f).toArray] w fun e w' => e = .returned (.bool false) ∧ Below w.heap.size w w' := by
  have := refFew_any A n c f w
  rw [decide_eq_false h] at this
  exact this
theorem putC_no (A : Option Addr) (c : Nat) (f : ConfP) (hs : ConfShape f) (w : World) (hr : rightB f = false) (hc : f.vips.length ≤ c) (hv : VS w w.heap.size A f.vips) (hl : f.vips.length ≤ 1000000) :
    Calls Try.prog 20 #[.agg (confCs A f.vips.length c f).toArray] w fun e w' => e = .returned (.tuple #[.slice none 0 0, .int .i64 1]) ∧ Below w.heap.size w w' := by
  refine (put_cany A _ c f hs w rfl hc hv hl).mono ?_
  rintro e w' ⟨h1, h2, _⟩
  exact ⟨h2 hr, h1⟩
theorem putC_yes (A : Option Addr) (c : Nat) (f : ConfP) (hs : ConfShape f) (w : World) (hr : rightB f = true) (hc : f.vips.length ≤ c) (hv : VS w w.heap.size A f.vips) (hl : f.vips.length ≤ 1000000) (m : List UInt8) (hm : confPutS f = m) :
    Calls Try.prog 20 #[.agg (confCs A f.vips.length c f).toArray] w fun e w' => ∃ A' c', e = .returned (.tuple #[.slice A' m.length c', .int .i64 0]) ∧ w'.ownsRow w.heap.size 5 1 (.slice A' m.length c') m.length (bcells m) ∧ Below w.heap.size w w' := by
  subst hm
  refine (put_cany A _ c f hs w rfl hc hv hl).mono ?_
  rintro e w' ⟨h1, _, h3⟩
  obtain ⟨A', c', h4, h5⟩ := h3 hr
  exact ⟨A', c', h4, h5, h1⟩
theorem getC_no (A : Option Addr) (n c : Nat) (l : List UInt8) (w : World) (hn : n = l.length) (hb : BS w w.heap.size A l) (hl : n ≤ 1000000000) (hno : confGetS l = none) (F0 : ConfP) (hF : F0 = conf0) :
    Calls Try.prog 22 #[.slice A n c] w fun e w' => e = .returned (.tuple #[.agg (confCs none 0 0 F0).toArray, .int .i64 3]) ∧ Below w.heap.size w w' := by
  subst hF
  refine (get_cany A n c l w hn hb hl).mono ?_
  rintro e w' ⟨h1, h2, _⟩
  exact ⟨h2 hno, h1⟩
theorem getC_yes (A : Option Addr) (n c : Nat) (l : List UInt8) (w : World) (hn : n = l.length) (hb : BS w w.heap.size A l) (hl : n ≤ 1000000000) (f : ConfP) (hyes : confGetS l = some f) :
    Calls Try.prog 22 #[.slice A n c] w fun e w' => ∃ A c, e = .returned (.tuple #[.agg (confCs A f.vips.length c f).toArray, .int .i64 0]) ∧ VOwn w' w.heap.size A c f.vips ∧ f.vips.length ≤ c ∧ ConfShape f ∧ Below w.heap.size w w' := by
  refine (get_cany A n c l w hn hb hl).mono ?_
  rintro e w' ⟨h1, _, h3⟩
  obtain ⟨A', c', h4, h5, h6, h7⟩ := h3 f hyes
  exact ⟨A', c', h4, h5, h6, h7, h1⟩
theorem rightC_is (A : Option Addr) (c : Nat) (f : ConfP) (hs : ConfShape f) (w : World) (b : Bool) (hr : rightB f = b) (hc : f.vips.length ≤ c) (hv : VS w w.heap.size A f.vips) (hl : f.vips.length ≤ 1000000) :
    Calls Try.prog 16 #[.agg (confCs A f.vips.length c f).toArray] w fun e w' => e = .returned (.bool b) ∧ Below w.heap.size w w' := by
  subst hr
  exact right_any A _ c f hs w rfl hc hv hl
theorem sameC_is (A : Option Addr) (c : Nat) (f : ConfP) (hs : ConfShape f) (A' : Option Addr) (c' : Nat) (g : ConfP) (hg : ConfShape g) (w : World) (b : Bool) (hr : sameB f g = b) (hv : VS w w.heap.size A f.vips) (hv' : VS w w.heap.size A' g.vips) (hl : f.vips.length ≤ 1000000) (hl' : g.vips.length ≤ 1000000) :
    Calls Try.prog 18 #[.agg (confCs A f.vips.length c f).toArray, .agg (confCs A' g.vips.length c' g).toArray] w fun e w' => e = .returned (.bool b) ∧ Below w.heap.size w w' := by
  subst hr
  exact same_any A _ c f A' _ c' g hs hg w rfl rfl hv hv' hl hl'
theorem confPut_pos (f : ConfP) : 0 < (confPutS f).length := by
  have := vput_pos f.vips.length
  unfold confPutS
  rw [List.length_append]
  omega
/-- Cut off, it is none's. -/
theorem confCut {f : ConfP} (hs : ConfShape f) (hr : rightB f = true) {k : Nat} (hk : k < (confPutS f).length) : confGetS ((confPutS f).take k) = none := by
  rcases h : confGetS ((confPutS f).take k) with _ | d
  · rfl
  · obtain ⟨h1, h2, h3⟩ := confGet_iff.1 h
    have h4 := confPut_prefix (f := d) (d := f) h3 h2 hs (rightB_iff.1 hr) (r := (confPutS f).drop k) (by rw [← h1, List.take_append_drop])
    have h5 := congrArg List.length h4.2
    rw [List.length_drop, List.length_nil] at h5
    omega
theorem confMore {f : ConfP} (hs : ConfShape f) (hr : rightB f = true) {r : List UInt8} (hne : r ≠ []) : confGetS (confPutS f ++ r) = none := by
  rcases h : confGetS (confPutS f ++ r) with _ | d
  · rfl
  · obtain ⟨h1, h2, h3⟩ := confGet_iff.1 h
    exact absurd (confPut_prefix hs (rightB_iff.1 hr) h3 h2 h1.symm).2 hne
theorem confOwn {f : ConfP} (hs : ConfShape f) (hr : rightB f = true) : confGetS (confPutS f) = some f := confGet_iff.2 ⟨rfl, rightB_iff.1 hr, hs⟩
theorem vipB_le21 {v : VipP} (h : addrOk v.1) : (vipBytes v).length ≤ 21 := vipB_le h
/-- A right config has few bytes. -/
theorem confPut_le {f : ConfP} (hs : ConfShape f) (hr : rightB f = true) : (confPutS f).length ≤ 2000 := by
  have hv := (right_vips hs (rightB_iff.1 hr)).1
  have h1 := vipsB_le f.vips hs.vips
  have h2 : (vput f.vips.length).length ≤ 10 := by
    have := vputs_le (ns := [f.vips.length]) (by simp; omega)
    simpa [vputs] using this
  have h3 := vputs_le (ns := confNums f) (fun n hn => by have := confNums_le hs (rightB_iff.1 hr) n hn; omega)
  have h4 := vputs_le (ns := confLast f) (fun n hn => by have := confLast_le (rightB_iff.1 hr) n hn; omega)
  have h5 : (confNums f).length = 9 := by simp [confNums, hs.idle]
  have h6 : (confLast f).length = 3 := rfl
  have hm := hs.mac
  have h16 : f.six.2.length = 16 := hs.six
  unfold confPutS
  simp only [List.length_append, List.length_take]
  omega
end Go.Proofs.Ytmkeljcjhcaigaa
