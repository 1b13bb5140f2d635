/- The reader: cut. -/
import Derived.Test.YtpeknjbcjpdmnabRdN
import Derived.Test.YtpeknjbcjpdmnabRefPB
import Derived.StillTailTactics
namespace Go.Proofs.Ytpeknjbcjpdmnab
open Go.RowKit
set_option linter.unusedVariables false

theorem rdLeft_st (base g : Nat) (l : List UInt8) (s : St) (w : World) (h : RdW w base g l s) (hs : okS l s) (hl : l.length ≤ 1000000000) :
    Calls Try.prog 26 #[.pointer (some ⟨g, 0, none⟩)] w fun e w' => e = .returned (.int .i64 ((l.length : Int) - (s.1 : Int))) ∧ ∃ m, w' = w.drewN m := by
  obtain ⟨A, c, hr, _⟩ := h
  exact rdLeft_any g A l.length c s.1 s.2.1 s.2.2 w hr hl hs.1

theorem below_drewN {B : Nat} {w : World} (n : Nat) : Below B w (w.drewN n) := ⟨rfl, rfl, rfl, Nat.le_refl _, fun _ _ => rfl⟩
theorem RdW.drewN {w : World} {base g : Nat} {l : List UInt8} {s : St} (h : RdW w base g l s) (m : Nat) : RdW (w.drewN m) base g l s := h.below (below_drewN m)
theorem RdW.drew {w : World} {base g : Nat} {l : List UInt8} {s : St} (h : RdW w base g l s) : RdW w.drew base g l s := h.below ((Below.refl _ w).drew)

theorem own_le {w : World} {base : Nat} {e : TypeId} {size n m c : Nat} {A : Option Addr} {xs : List Value} (h : w.ownsRow base e size (.slice A n c) m xs) : n ≤ c := by
  obtain ⟨_, _, e3, h3, _⟩ := own_slice h
  injection e3 with _ e2 e4
  omega

/-- What a method that hands bytes back leaves. -/
def CutIs (w : World) (base g : Nat) (l : List UInt8) (r : St × List UInt8) (x : Ending) (w' : World) : Prop :=
  ∃ A c, x = .returned (.slice A r.2.length c) ∧ w'.ownsRow w.heap.size 5 1 (.slice A r.2.length c) r.2.length (bcells r.2) ∧ RdW w' base g l r.1 ∧ w.grownBy w' (some g)
theorem cutIs_no {w w' : World} {base g : Nat} {l : List UInt8} {s : St} (h : RdW w' base g l s) (hg : w.grownBy w' (some g)) : CutIs w base g l (s, []) (.returned (.slice none 0 0)) w' :=
  ⟨none, 0, rfl, World.ownsRow_nil _ _ _ _, h, hg⟩
theorem cut_fault {l : List UInt8} {s : St} {k n : Nat} (h : ¬ s.2.2 = 0) : cutS l s k n = (s, []) := if_pos h
theorem cut_short {l : List UInt8} {s : St} {k n : Nat} (h : s.2.2 = 0) (h2 : l.length < s.1 + k + n) : cutS l s k n = (failS s 2, []) := by
  unfold cutS
  rw [if_neg (by omega), if_pos h2]
theorem cut_ok {l : List UInt8} {s : St} {k n : Nat} (h : s.2.2 = 0) (h2 : s.1 + k + n ≤ l.length) : cutS l s k n = ((s.1 + k + n, s.2.1, s.2.2), (l.drop (s.1 + k)).take n) := by
  unfold cutS
  rw [if_neg (by omega), if_neg (by omega)]

set_option maxHeartbeats 800000 in
set_option maxRecDepth 100000 in
theorem rdCut_any (base g : Nat) (l : List UInt8) (s : St) (k n : Nat) (w : World) (h : RdW w base g l s) (hs : okS l s) (hk : s.1 + k ≤ l.length) (hl : l.length ≤ 1000000000) (hn : n < 9223372036854775808) :
    Calls Try.prog 47 #[.pointer (some ⟨g, 0, none⟩), .int .i64 (k : Int), .int .i64 (n : Int)] w (CutIs w base g l (cutS l s k n)) := by
  obtain ⟨at_, fa, fe⟩ := s
  have H := Lib.hid h
  have Hs := Lib.hid hs
  obtain ⟨A, c, hr, hown, hne, hc⟩ := h
  have h0 := Rd.c0 hr; have h1 := Rd.c1 hr; have h2 := Rd.c2 hr; have h3 := Rd.c3 hr
  have f1 := Rd.fr hr 1
  have Hr := Lib.hid hr
  have Hown := Lib.hid hown
  have ha : at_ + k ≤ l.length := hk
  have Hne := Lib.hid hne
  clear hr hown hs hk hne
  by_cases hfe : fe = 0
  · subst hfe
    have hw1 : IntKind.i64.wrap ((l.length : Int) - (at_ : Int) - (k : Int)) = (l.length : Int) - (at_ : Int) - (k : Int) := IntWalk.i64_in _ (by omega)
    by_cases hsh : l.length < at_ + k + n
    · have hshI : (l.length : Int) - (at_ : Int) - (k : Int) < (n : Int) := by omega
      rw [cut_short (s := (at_, fa, 0)) rfl hsh]
      go_enter Try.func47, Try.ntmps47
      go_wp2_with fail
      refine (rdLeft_st base g l _ w H.out Hs.out hl).mono ?_
      rintro e w1 ⟨rfl, m, rfl⟩
      go_wp2_with fail
      refine (rdFail_st base g l (at_, fa, 0) 2 _ (H.out.drewN m)).mono ?_
      rintro e w2 ⟨rfl, hR, hg⟩
      go_wp2
      go_ret
      exact cutIs_no hR (grownTrans (grownDrewN w m _) hg)
    · have hshI : ¬ (l.length : Int) - (at_ : Int) - (k : Int) < (n : Int) := by omega
      obtain ⟨bod, hbod⟩ : ∃ bod, (l.drop (at_ + k)).take n = bod := ⟨_, rfl⟩
      obtain ⟨E, hE⟩ : ∃ E, at_ + k + n = E := ⟨_, rfl⟩
      rw [show cutS l (at_, fa, 0) k n = ((E, fa, 0), bod) by rw [cut_ok (s := (at_, fa, 0)) rfl (by show at_ + k + n ≤ _; omega), ← hbod, ← hE]]
      have hEl : E ≤ l.length := by omega
      have Hbod := Lib.hid hbod
      have HE := Lib.hid hE
      clear hbod hE
      have hw2 : IntKind.i64.wrap ((at_ : Int) + (k : Int)) = (at_ : Int) + (k : Int) := IntWalk.i64_in _ (by omega)
      obtain ⟨a, ha2⟩ : ∃ a, at_ + k = a := ⟨_, rfl⟩
      have ha3 : (at_ : Int) + (k : Int) = (a : Int) := by omega
      go_enter Try.func47, Try.ntmps47
      go_wp2_with fail
      refine (rdLeft_st base g l _ w H.out Hs.out hl).mono ?_
      rintro e w1 ⟨rfl, m, rfl⟩
      go_wp2_with fail
      have hE2 : (a : Int) + (n : Int) = (E : Int) := by have := HE.out; omega
      rw [hE2]
      have hR0 : Rd ((w.drewN m).setCell ⟨g, 1, none⟩ (.int .i64 (E : Int))) g A l.length c E fa 0 := Blk.set_ (Blk.drewN Hr.out m) 1 (.int .i64 (E : Int))
      have hg0 : w.grownBy ((w.drewN m).setCell ⟨g, 1, none⟩ (.int .i64 (E : Int))) (some g) := grownTrans (grownDrewN w m _) (grownSet _ ⟨g, 1, none⟩ (.int .i64 (E : Int)))
      generalize ((w.drewN m).setCell ⟨g, 1, none⟩ (.int .i64 (E : Int))) = W at *
      have h0' := Rd.c0 hR0
      have h1' := Rd.c1 hR0
      have HR0 := Lib.hid hR0
      have Hg0 := Lib.hid hg0
      have Hown1 := Lib.hid (Hown.out.kept hg0 (.inr (fun e => Hne.out g e rfl)))
      have ha4 : (0 : Int) ≤ (a : Int) := by omega
      have hE4 : (a : Int) ≤ (E : Int) := by omega
      have hE5 : (E : Int) ≤ (c : Int) := by omega
      clear hR0 hg0
      have HL : Hid (E - a = bod.length) := by show _ = _; have := HE.out; rw [← Hbod.out, List.length_take, List.length_drop]; omega
      have hbs : BS W.drew W.drew.heap.size (if c = a then A else A.map (·.add a)) bod := by
        obtain ⟨b1, _⟩ := BS.of_own Hown1.out
        rw [← Hbod.out, ha2]
        exact (b1.drop (k := a) (cap := c) hc).take n
      have HbP : Hid (c = a → BS W.drew W.drew.heap.size A bod) := fun e => by rw [if_pos e] at hbs; exact hbs
      have HbN : Hid (¬ c = a → BS W.drew W.drew.heap.size (A.map (·.add a)) bod) := fun e => by rw [if_neg e] at hbs; exact hbs
      have Hsz : Hid (w.heap.size ≤ W.heap.size) := Hg0.out.size
      clear hbs hE2 ha2 ha3 hw1 hw2
      go_still_tail 10, (by kernel_rfl)
      change wpList _ _ _ _ _ W.drew
      go_wp2_with fail
      all_goals
        refine (clone_own _ _ _ bod _ HL.out (by first | exact HbP.out (by assumption) | exact HbN.out (by assumption)) (by omega)).mono ?_
        rintro e w3 ⟨A3, c3, rfl, hown3, hb3⟩
        have Hown3 := Lib.hid hown3
        clear hown3
        go_wp2
        go_ret
        have hd : Below W.heap.size W W.drew := (Below.refl _ W).drew
        have h13 : Below W.heap.size W w3 := hd.trans hb3
        exact ⟨A3, c3, rfl, own_base' Hown3.out Hsz.out, Rdr.turn (Blk.below HR0.out h13 (Blk.lt HR0.out)) Hown1.out Hne.out hc (grownOf h13), grownTrans Hg0.out (grownOf h13)⟩
  · rw [cut_fault (s := (at_, fa, fe)) hfe]
    have hfI : ((fe : Int) == 0) = false := by simp; omega
    have hfI2 : ((fe : Int) != 0) = true := by simp; omega
    go_enter Try.func47, Try.ntmps47
    go_wp2
    go_ret
    exact cutIs_no H.out (.refl _ _)
end Go.Proofs.Ytpeknjbcjpdmnab
