/- The contracts of layer 28, told apart by what they answer. -/
import Derived.Test.YtgohhojoahlfiaaEvM
import Derived.Test.YtgohhojoahlfiaaEvG
import Derived.Test.YtgohhojoahlfiaaEvD
namespace Go.Proofs.Ytgohhojoahlfiaa
open Go.RowKit
set_option linter.unusedVariables false
set_option linter.unusedSimpArgs false

theorem eputE_no (A : Option Addr) (c : Nat) (A2 : Option Addr) (c2 : Nat) (e : EvP) (hs : EvShape e) (hr : rightEB e = false) (w : World) (hf : BS w w.heap.size A e.act.frame) :
    Calls Try.prog 20 #[.agg (evCs A e.act.frame.length c A2 e.o.out.length c2 e).toArray] w fun x w' => x = .returned (.tuple #[.slice none 0 0, .int .i64 1]) ∧ Below w.heap.size w w' := by
  refine (eput_any A c A2 c2 e hs w hf).mono ?_
  rintro x w' ⟨h1, h2, _⟩
  exact ⟨h2 hr, h1⟩
theorem eputE_yes (A : Option Addr) (c : Nat) (A2 : Option Addr) (c2 : Nat) (e : EvP) (hs : EvShape e) (hr : rightEB e = true) (w : World) (hf : BS w w.heap.size A e.act.frame) (m : List UInt8) (hm : evBytes e = m) :
    Calls Try.prog 20 #[.agg (evCs A e.act.frame.length c A2 e.o.out.length c2 e).toArray] w fun x w' => ∃ A' c', x = .returned (.tuple #[.slice A' m.length c', .int .i64 0]) ∧ w'.ownsRow w.heap.size 5 1 (.slice A' m.length c') m.length (bcells m) ∧ Below w.heap.size w w' := by
  subst hm
  refine (eput_any A c A2 c2 e hs w hf).mono ?_
  rintro x w' ⟨h1, _, h3⟩
  obtain ⟨A', c', h4, h5⟩ := h3 hr
  exact ⟨A', c', h4, h5, h1⟩
theorem egetE_no (A : Option Addr) (n c : Nat) (l : List UInt8) (w : World) (hn : n = l.length) (hb : BS w w.heap.size A l) (hl : n ≤ 1000000000) (hno : evGetS l = none) (E0 : EvP) (hE : E0 = ev0) :
    Calls Try.prog 22 #[.slice A n c] w fun x w' => x = .returned (.tuple #[.agg (evCs none 0 0 none 0 0 E0).toArray, .int .i64 3]) ∧ Below w.heap.size w w' := by
  subst hE
  refine (eget_any A n c l w hn hb (by omega)).mono ?_
  rintro x w' ⟨h1, h2, _⟩
  exact ⟨h2 hno, h1⟩
theorem egetE_yes (A : Option Addr) (n c : Nat) (l : List UInt8) (w : World) (hn : n = l.length) (hb : BS w w.heap.size A l) (hl : n ≤ 1000000000) (f : EvP) (hyes : evGetS l = some f) :
    Calls Try.prog 22 #[.slice A n c] w fun x w' => ∃ A c, x = .returned (.tuple #[.agg (evCs A f.act.frame.length c none 0 0 f).toArray, .int .i64 0]) ∧ w'.ownsRow w.heap.size 5 1 (.slice A f.act.frame.length c) f.act.frame.length (bcells f.act.frame) ∧ Below w.heap.size w w' := by
  refine (eget_any A n c l w hn hb (by omega)).mono ?_
  rintro x w' ⟨h1, _, h3⟩
  obtain ⟨A', c', h4, _, h5⟩ := h3 f hyes
  exact ⟨A', c', h4, h5, h1⟩
theorem esameE (A : Option Addr) (c : Nat) (A2 : Option Addr) (c2 : Nat) (a : EvP) (A' : Option Addr) (c' : Nat) (A2' : Option Addr) (c2' : Nat) (b : EvP) (ha0 : EvShape a) (hb0 : EvShape b) (w : World) (hf : BS w w.heap.size A a.act.frame) (hf' : BS w w.heap.size A' b.act.frame) (ho : BS w w.heap.size A2 a.o.out) (ho' : BS w w.heap.size A2' b.o.out) (r : Bool) (hr : sameEvB a b = r) :
    Calls Try.prog 16 #[.agg (evCs A a.act.frame.length c A2 a.o.out.length c2 a).toArray, .agg (evCs A' b.act.frame.length c' A2' b.o.out.length c2' b).toArray] w fun e w' => e = .returned (.bool r) ∧ Below w.heap.size w w' := by
  subst hr
  exact same_any A c A2 c2 a A' c' A2' c2' b ha0 hb0 w hf hf' ho ho'
theorem rsameE (A : Option Addr) (c : Nat) (A2 : Option Addr) (c2 : Nat) (a : EvP) (A' : Option Addr) (c' : Nat) (A2' : Option Addr) (c2' : Nat) (b : EvP) (ha0 : EvShape a) (hb0 : EvShape b) (w : World) (hf : BS w w.heap.size A a.act.frame) (hf' : BS w w.heap.size A' b.act.frame) (ho : BS w w.heap.size A2 a.o.out) (ho' : BS w w.heap.size A2' b.o.out) (r : Bool) (hr : sameEvB a b = r) :
    Calls Try.prog 17 #[.agg (evCs A a.act.frame.length c A2 a.o.out.length c2 a).toArray, .agg (evCs A' b.act.frame.length c' A2' b.o.out.length c2' b).toArray] w fun e w' => e = .returned (.bool r) ∧ Below w.heap.size w w' := by
  subst hr
  exact refSame_any A c A2 c2 a A' c' A2' c2' b ha0 hb0 w hf hf' ho ho'
theorem erightE (A : Option Addr) (c : Nat) (A2 : Option Addr) (c2 : Nat) (a : EvP) (ha0 : EvShape a) (w : World) (hf : BS w w.heap.size A a.act.frame) (r : Bool) (hr : rightEB a = r) :
    Calls Try.prog 12 #[.agg (evCs A a.act.frame.length c A2 a.o.out.length c2 a).toArray] w fun e w' => e = .returned (.bool r) ∧ Below w.heap.size w w' := by
  subst hr
  exact right_any A c A2 c2 a ha0 w hf
theorem eplainE (A : Option Addr) (c : Nat) (a : ActP) (ha0 : ActShape a) (w : World) (hf : BS w w.heap.size A a.frame) (r : Bool) (hr : plainB a = r) :
    Calls Try.prog 14 #[.agg (actCs A a.frame.length c a).toArray] w fun e w' => e = .returned (.bool r) ∧ Below w.heap.size w w' := by
  subst hr
  exact plain_any A c a ha0 w hf
/-- An act within an event's box. -/
theorem ev_act_range {w : World} {g : Nat} {t : TypeId} {A A2 : Option Addr} {n c n2 c2 : Nat} {e : EvP} (h : Blk w g t (evCs A n c A2 n2 c2 e).toArray) : w.rangeAt g 0 (actCs A n c e.act) := fun j v hj => by
  refine blk_range h j v ?_
  have hl := (List.getElem?_eq_some_iff.1 hj).1
  rw [evCs, List.getElem?_append_left hl]
  exact hj
end Go.Proofs.Ytgohhojoahlfiaa
