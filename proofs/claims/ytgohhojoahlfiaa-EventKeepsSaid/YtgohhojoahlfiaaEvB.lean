/- The reader's steps as an event's bytes are read: flag, text, weight, okay. -/
import Derived.Test.YtgohhojoahlfiaaEvA
import Derived.Test.YtgohhojoahlfiaaWr
import Derived.Test.YtgohhojoahlfiaaRdT
namespace Go.Proofs.Ytgohhojoahlfiaa
open Go.RowKit
set_option linter.unusedVariables false
set_option linter.unusedSimpArgs false

/-- Block r is what bytes are read with: the reader in block g, whether something was bad. -/
def readCs (g : Nat) (bad : Bool) : Array Value := #[.pointer (some ⟨g, 0, none⟩), .bool bad]
structure RS (w : World) (base g r : Nat) (l : List UInt8) (s : St) (bad : Bool) : Prop where
  rd : RdW w base g l s
  ok : okS l s
  box : Blk w r 99 (readCs g bad)
theorem RdW.blk {w : World} {base g : Nat} {l : List UInt8} {s : St} (h : RdW w base g l s) : ∃ cs, Blk w g 111 cs := by
  obtain ⟨A, c, hr, _⟩ := h
  exact ⟨_, hr⟩
section
variable {w w' : World} {base g r : Nat} {l : List UInt8} {s s' : St} {bad bad' : Bool}
theorem RS.ne (h : RS w base g r l s bad) : r ≠ g := by
  obtain ⟨cs, hb⟩ := h.rd.blk
  exact Blk.ne h.box hb (by decide)
theorem RS.d0 (h : RS w base g r l s bad) : w.cell? ⟨r, 0, none⟩ = some (.pointer (some ⟨g, 0, none⟩)) := h.box.cell 0
theorem RS.d1 (h : RS w base g r l s bad) : w.cell? ⟨r, 1, none⟩ = some (.bool bad) := h.box.cell 1
theorem RS.after (h : RS w base g r l s bad) (hR : RdW w' base g l s') (hok : okS l s') (hg : w.grownBy w' (some g)) : RS w' base g r l s' bad :=
  ⟨hR, hok, Blk.grown h.box hg (fun e => h.ne (by injection e))⟩
theorem RS.below (h : RS w base g r l s bad) (hb : Below w.heap.size w w') : RS w' base g r l s bad := ⟨h.rd.below hb, h.ok, Blk.below h.box hb h.box.lt⟩
theorem RS.bad_ (h : RS w base g r l s bad) (b : Bool) : RS (w.setCell ⟨r, 1, none⟩ (.bool b)) base g r l s b :=
  ⟨RdW.off h.rd (grownSet w ⟨r, 1, none⟩ (.bool b)) h.box (by decide) (by decide), h.ok, Blk.set_ h.box 1 (.bool b)⟩
theorem off_set (w : World) (g r : Nat) (k : Nat) (u : Value) : Off2 w (w.setCell ⟨r, k, none⟩ u) g (some r) := Off2.of_grown (grownSet w ⟨r, k, none⟩ u)
end
theorem take_le8 {l : List UInt8} {s u : St} {x : List UInt8} (h : takeS l s 8 = (u, x)) : x.length ≤ 8 := by
  have := congrArg Prod.snd h
  simp only [takeS, cutS] at this
  rw [if_neg (by decide)] at this
  split at this
  · rw [← this]; simp
  · split at this
    · rw [← this]; simp
    · rw [← this, List.length_take]
      exact Nat.min_le_left _ _
/-- A truth read. -/
def flagS (l : List UInt8) (s : St) (bad : Bool) : St × Bool × Bool := ((numS l s 1 true).1, bad || decide (1 < (numS l s 1 true).2), (numS l s 1 true).2 == 1)
set_option maxRecDepth 100000 in
theorem rflag_any (base g r : Nat) (l : List UInt8) (s : St) (bad : Bool) (w : World) (h : RS w base g r l s bad) (hl : l.length ≤ 1000000000) :
    Calls Try.prog 57 #[.pointer (some ⟨r, 0, none⟩)] w fun e w' => e = .returned (.bool (flagS l s bad).2.2) ∧ RS w' base g r l (flagS l s bad).1 (flagS l s bad).2.1 ∧ Off2 w w' g (some r) := by
  have H := Lib.hid h
  have ok2 := ok_num h.ok 1 true
  have hn := Lib.hid (rdNum_any base g l s w 1 true h.rd h.ok hl)
  unfold flagS
  rcases hq : numS l s 1 true with ⟨s2, q⟩
  rw [hq] at hn ok2
  have d0 := h.d0
  clear hq h
  go_enter Try.func57, Try.ntmps57
  go_wp2_with fail
  refine hn.out.mono ?_
  rintro e w2 ⟨rfl, hR, hg⟩
  have H2 := Lib.hid (H.out.after hR ok2 hg)
  have HG := Lib.hid (Off2.of_g (r := some r) hg)
  have d0 := H2.out.d0
  have d1 := H2.out.d1
  have df := H2.out.box.frozen 1
  have hqe : ((q : Int) == 1) = (q == 1) := by
    by_cases hq : q = 1
    · subst hq; rfl
    · rw [beq_eq_false_iff_ne.2 hq, beq_eq_false_iff_ne.2 (by omega)]
  clear hR hg hn
  rcases bad with _ | _
  · by_cases hq : 1 < q
    · have hqI : (1 : Int) < (q : Int) := by omega
      have hf : Hid ((false || decide (1 < q)) = true) := by show _ = _; rw [decide_eq_true hq]; rfl
      clear hq
      go_wp2
      go_ret
      exact ⟨by first | rfl | rw [hqe], by rw [hf.out]; first | exact H2.out.bad_ true | (simp only [show (1 : Int) < (q : Int) by omega, decide_true]; exact H2.out.bad_ true), HG.out.trans (off_set _ _ _ _ _)⟩
    · have hqI : ¬ (1 : Int) < (q : Int) := by omega
      have hf : Hid ((false || decide (1 < q)) = false) := by show _ = _; rw [decide_eq_false hq]; rfl
      clear hq
      go_wp2
      go_ret
      exact ⟨by first | rfl | rw [hqe], by rw [hf.out]; first | exact H2.out.bad_ false | (simp only [show ¬ (1 : Int) < (q : Int) by omega, decide_false]; exact H2.out.bad_ false), HG.out.trans (off_set _ _ _ _ _)⟩
  · go_wp2
    go_ret
    exact ⟨by first | rfl | rw [hqe], H2.out.bad_ true, HG.out.trans (off_set _ _ _ _ _)⟩
/-- What a text, a weight is read as. -/
def CutR (w : World) (base g r : Nat) (l : List UInt8) (s' : St) (bad' : Bool) (w' : World) : Prop := RS w' base g r l s' bad' ∧ Off2 w w' g (some r)
set_option maxRecDepth 100000 in
theorem rtext_any (base g r : Nat) (l : List UInt8) (s : St) (bad : Bool) (w : World) (h : RS w base g r l s bad) (hl : l.length ≤ 1000000000) :
    Calls Try.prog 59 #[.pointer (some ⟨r, 0, none⟩)] w fun e w' => e = .returned (.string ⟨(textS l s 255).2.toArray⟩) ∧ CutR w base g r l (textS l s 255).1 bad w' := by
  have H := Lib.hid h
  have ok2 := ok_text h.ok 255
  have hn := Lib.hid (rdText_any base g l s w 255 h.rd h.ok hl (by decide))
  rcases hq : textS l s 255 with ⟨s2, x⟩
  rw [hq] at hn ok2
  have d0 := h.d0
  clear hq h
  go_enter Try.func59, Try.ntmps59
  go_wp2_with fail
  refine hn.out.mono ?_
  rintro e w2 ⟨A, c, rfl, hown, hR, hg⟩
  have H2 := Lib.hid (H.out.after hR ok2 hg)
  have HG := Lib.hid (Off2.of_g (r := some r) hg)
  have hcv := run_convert_bs (P := Try.prog) 22 9 5 Try.underlying22 Try.underlying5 Try.underlying9 w2 _ A x (BS.of_own hown).1 _ c rfl
  clear hR hg hn hown
  go_wp2
  go_ret
  exact ⟨rfl, H2.out, HG.out⟩
def weightS (l : List UInt8) (s : St) (bad : Bool) : St × Bool × Nat := ((takeS l s 8).1, bad || !(wgetS (takeS l s 8).2).2, (wgetS (takeS l s 8).2).1)
set_option maxRecDepth 100000 in
theorem rweight_any (base g r : Nat) (l : List UInt8) (s : St) (bad : Bool) (w : World) (h : RS w base g r l s bad) (hl : l.length ≤ 1000000000) :
    Calls Try.prog 85 #[.pointer (some ⟨r, 0, none⟩)] w fun e w' => e = .returned (.float .f64 (weightS l s bad).2.2) ∧ CutR w base g r l (weightS l s bad).1 (weightS l s bad).2.1 w' := by
  have H := Lib.hid h
  have ok2 := ok_take h.ok 8
  have hn := Lib.hid (rdTake_any base g l s w 8 h.rd h.ok hl (by decide))
  unfold weightS
  rcases hq : takeS l s 8 with ⟨s2, x⟩
  have hx8 := take_le8 hq
  rw [hq] at hn ok2
  have d0 := h.d0
  rcases hk : wgetS x with ⟨f, kk⟩
  simp only [hk]
  have Hk := Lib.hid hk
  clear hq h hk
  go_enter Try.func85, Try.ntmps85
  go_wp2_with fail
  refine hn.out.mono ?_
  rintro e w2 ⟨A, c, rfl, hown, hR, hg⟩
  have H2 := Lib.hid (H.out.after hR ok2 hg)
  have HG := Lib.hid (Off2.of_g (r := some r) hg)
  have Hw := Lib.hid (wGet_any A _ c x w2 rfl (BS.of_own hown).1 hx8 (own_le hown))
  rw [Hk.out] at Hw
  clear hR hg hn hown
  go_wp2_with fail
  refine Hw.out.mono ?_
  rintro e w3 ⟨rfl, hb3⟩
  have H3 := Lib.hid (H2.out.below hb3)
  have HG3 := Lib.hid (HG.out.trans (Off2.of_below hb3))
  have d0 := H3.out.d0
  have d1 := H3.out.d1
  have df := H3.out.box.frozen 1
  clear hb3 H2 HG Hw
  rcases bad with _ | _
  · rcases kk with _ | _
    · go_wp2
      go_ret
      exact ⟨rfl, H3.out.bad_ true, HG3.out.trans (off_set _ _ _ _ _)⟩
    · go_wp2
      go_ret
      exact ⟨rfl, H3.out.bad_ false, HG3.out.trans (off_set _ _ _ _ _)⟩
  · go_wp2
    go_ret
    exact ⟨rfl, H3.out.bad_ true, HG3.out.trans (off_set _ _ _ _ _)⟩
set_option maxRecDepth 100000 in
theorem rokay_any (base g r : Nat) (l : List UInt8) (s : St) (bad : Bool) (w : World) (h : RS w base g r l s bad) :
    Calls Try.prog 61 #[.pointer (some ⟨r, 0, none⟩)] w fun e w' => e = .returned (.bool (!bad && (decide (s.2.1 = 0) && decide (s.2.2 = 0)))) ∧ Below w.heap.size w w' := by
  obtain ⟨s0, fa, fe⟩ := s
  have d0 := h.d0
  have d1 := h.d1
  have hn : Hid (Calls Try.prog 33 #[.pointer (some ⟨g, 0, none⟩)] w fun e w' => e = .returned (.agg #[.int .i64 (fa : Int), .int .i64 (fe : Int)]) ∧ Below w.heap.size w w') := by
    obtain ⟨A, c, hr, _⟩ := h.rd
    exact rdFault_any g A l.length c s0 fa fe w hr
  clear h
  show Calls Try.prog _ _ w fun e w' => e = .returned (.bool (!bad && (decide (fa = 0) && decide (fe = 0)))) ∧ Below w.heap.size w w'
  obtain ⟨z, hz⟩ : ∃ z, z = (!bad && (decide (fa = 0) && decide (fe = 0))) := ⟨_, rfl⟩
  rw [← hz]
  have Hz := Lib.hid hz
  clear hz
  go_enter Try.func61, Try.ntmps61
  rcases bad with _ | _
  · go_wp2_with fail
    refine hn.out.mono ?_
    rintro e w2 ⟨rfl, hb2⟩
    by_cases h1 : fa = 0
    · by_cases h2 : fe = 0
      · have hf : Hid (z = true) := by show _ = _; rw [Hz.out, h1, h2]; rfl
        subst h1
        subst h2
        go_wp2
        go_ret
        exact ⟨by rw [hf.out]; rfl, hb2⟩
      · have h2I : ¬ (fe : Int) = 0 := by omega
        have hf : Hid (z = false) := by show _ = _; rw [Hz.out, decide_eq_false h2]; simp
        subst h1
        clear h2
        go_wp2
        go_ret
        exact ⟨by rw [hf.out]; rfl, hb2⟩
    · have h1I : ¬ (fa : Int) = 0 := by omega
      have hf : Hid (z = false) := by show _ = _; rw [Hz.out, decide_eq_false h1]; simp
      clear h1
      go_wp2
      go_ret
      exact ⟨by rw [hf.out]; rfl, hb2⟩
  · have hf : Hid (z = false) := by show _ = _; rw [Hz.out]; simp
    go_wp2
    go_ret
    exact ⟨by rw [hf.out]; rfl, Below.refl _ _⟩
end Go.Proofs.Ytgohhojoahlfiaa
