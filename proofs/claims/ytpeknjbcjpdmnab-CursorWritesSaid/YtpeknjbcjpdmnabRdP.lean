/- The reader: peek. -/
import Derived.Test.YtpeknjbcjpdmnabRdC
import Derived.Test.YtpeknjbcjpdmnabVarintE
import Derived.Deep.QuietTactic
import Derived.BigQuiet
namespace Go.Proofs.Ytpeknjbcjpdmnab
open Go.RowKit
set_option linter.unusedVariables false

theorem quiet_left' {P : Program} {f : FuncId} {args : Array Value} {w : World} {n : Nat} {v : Value}
    (h : Calls P f args (w.drewN n) fun e w' => e = .returned v ∧ w.drewN n = w') : Calls P f args (w.drewN n) fun e w'' => e = .returned v ∧ ∃ m, w'' = w.drewN m :=
  h.mono fun _ _ ⟨he, hm⟩ => ⟨he, n, hm.symm⟩

def PeekIs (w : World) (base g : Nat) (l : List UInt8) (r : St × Nat × Nat) (x : Ending) (w' : World) : Prop :=
  x = .returned (.tuple #[.int .u64 (r.2.1 : Int), .int .i64 (r.2.2 : Int)]) ∧ RdW w' base g l r.1 ∧ w.grownBy w' (some g)

set_option maxHeartbeats 800000 in
set_option maxRecDepth 100000 in
theorem rdPeek_any (base g : Nat) (l : List UInt8) (s : St) (w : World) (h : RdW w base g l s) (hs : okS l s) (hl : l.length ≤ 1000000000) :
    Calls Try.prog 49 #[.pointer (some ⟨g, 0, none⟩)] w (PeekIs w base g l (peekS l s)) := by
  obtain ⟨at_, fa, fe⟩ := s
  have H := Lib.hid h
  obtain ⟨A, c, hr, hown, hne, hc⟩ := h
  have h0 := Rd.c0 hr; have h1 := Rd.c1 hr; have h2 := Rd.c2 hr; have h3 := Rd.c3 hr
  have Hown := Lib.hid hown
  have ha : at_ ≤ l.length := hs.1
  clear hr hown hs hne
  by_cases hfe : fe = 0
  · subst hfe
    rcases hv : vgetS (l.drop at_) with ⟨n, k, e⟩
    have Hv := Lib.hid hv
    have HL : Hid (l.length - at_ = (l.drop at_).length) := by show _ = _; rw [List.length_drop]
    have hbs : BS w w.heap.size (if c = at_ then A else A.map (·.add at_)) (l.drop at_) := (BS.of_own Hown.out).1.drop hc
    have HbP : Hid (c = at_ → BS w w.heap.size A (l.drop at_)) := fun e => by rw [if_pos e] at hbs; exact hbs
    have HbN : Hid (¬ c = at_ → BS w w.heap.size (A.map (·.add at_)) (l.drop at_)) := fun e => by rw [if_neg e] at hbs; exact hbs
    have Hm : Hid (l.length - at_ ≤ maxLen) := by show _ ≤ maxLen; unfold maxLen; omega
    have ha0 : (0 : Int) ≤ (at_ : Int) := by omega
    have ha1 : (at_ : Int) ≤ (l.length : Int) := by omega
    clear hbs hv
    by_cases he : e = 0
    · subst he
      have hx : peekS l (at_, fa, 0) = ((at_, fa, 0), n, k) := by unfold peekS; rw [if_neg (by simp)]; simp only; rw [Hv.out, if_neg (by simp)]
      rw [hx]
      clear hx
      by_cases hca : c = at_
      all_goals
        go_enter Try.func49, Try.ntmps49
        go_wp2
        go_quiet ((go_at_call 56; exact quiet_left' (get_eq _ _ _ (l.drop at_) _ _ HL.out (BS.drewN (by first | exact HbP.out (by assumption) | exact HbN.out (by assumption)) _) Hm.out Hv.out)))
        go_wp2
        go_ret2
        exact ⟨rfl, H.out.drewN _, grownDrewN _ _ _⟩
    · have he' : (e : Int) ≠ 0 := by omega
      have hbad := vget_bad Hv.out he
      obtain ⟨rfl, rfl, he2⟩ := hbad
      have hx : peekS l (at_, fa, 0) = (failS (at_, fa, 0) e, 0, 0) := by unfold peekS; rw [if_neg (by simp)]; simp only; rw [Hv.out, if_pos he]
      rw [hx]
      clear hx
      by_cases hca : c = at_
      all_goals
        go_enter Try.func49, Try.ntmps49
        go_wp2
        go_quiet ((go_at_call 56; exact quiet_left' (get_eq _ _ _ (l.drop at_) _ _ HL.out (BS.drewN (by first | exact HbP.out (by assumption) | exact HbN.out (by assumption)) _) Hm.out Hv.out)))
        go_wp2_with fail
        refine (rdFail_st base g l (at_, fa, 0) e _ (H.out.drewN _)).mono ?_
        rintro x w2 ⟨rfl, hR, hg⟩
        go_wp2
        go_ret2
        exact ⟨rfl, hR, grownTrans (grownDrewN _ _ _) hg⟩
  · have hx : peekS l (at_, fa, fe) = ((at_, fa, fe), 0, 0) := if_pos hfe
    rw [hx]
    clear hx
    have hfI : ((fe : Int) == 0) = false := by simp; omega
    have hfI2 : ((fe : Int) != 0) = true := by simp; omega
    go_enter Try.func49, Try.ntmps49
    go_wp2
    go_ret2
    exact ⟨rfl, H.out, .refl _ _⟩
end Go.Proofs.Ytpeknjbcjpdmnab
