/- The contracts of layer 28 with the lengths spelt freely; what is read has no frame that goes out. -/
import Derived.Test.YtgohhojoahlfiaaEofl
import Derived.Test.YtgohhojoahlfiaaEvK2
namespace Go.Proofs.Ytgohhojoahlfiaa
open Go.RowKit
set_option linter.unusedVariables false
set_option linter.unusedSimpArgs false

theorem right_out {e : EvP} (h : rightEB e = true) : 0 = e.o.out.length := by
  simp only [rightEB, Bool.and_eq_true, decide_eq_true_eq] at h
  exact h.2.2.2.2.2.1.symm
theorem right_frame {e : EvP} (h : rightEB e = true) : e.act.frame.length ≤ 131072 := by
  simp only [rightEB, plainB, Bool.and_eq_true, decide_eq_true_eq] at h
  exact h.1.2.2.2.1
theorem eputN_yes (A : Option Addr) (n c : Nat) (A2 : Option Addr) (n2 c2 : Nat) (e : EvP) (hs : EvShape e) (hn : n = e.act.frame.length) (hn2 : n2 = e.o.out.length) (hr : rightEB e = true) (w : World) (hf : BS w w.heap.size A e.act.frame) (m : List UInt8) (hm : evBytes e = m) :
    Calls Try.prog 20 #[.agg (evCs A n c A2 n2 c2 e).toArray] w fun x w' => ∃ A' c', x = .returned (.tuple #[.slice A' m.length c', .int .i64 0]) ∧ w'.ownsRow w.heap.size 5 1 (.slice A' m.length c') m.length (bcells m) ∧ Below w.heap.size w w' := by
  subst hn hn2
  exact eputE_yes A c A2 c2 e hs hr w hf m hm
theorem erightN (A : Option Addr) (n c : Nat) (A2 : Option Addr) (n2 c2 : Nat) (e : EvP) (hs : EvShape e) (hn : n = e.act.frame.length) (hn2 : n2 = e.o.out.length) (w : World) (hf : BS w w.heap.size A e.act.frame) (r : Bool) (hr : rightEB e = r) :
    Calls Try.prog 12 #[.agg (evCs A n c A2 n2 c2 e).toArray] w fun e w' => e = .returned (.bool r) ∧ Below w.heap.size w w' := by
  subst hn hn2
  exact erightE A c A2 c2 e hs w hf r hr
theorem esameN (A : Option Addr) (n c : Nat) (A2 : Option Addr) (n2 c2 : Nat) (a : EvP) (A' : Option Addr) (n' c' : Nat) (A2' : Option Addr) (n2' c2' : Nat) (b : EvP) (ha0 : EvShape a) (hb0 : EvShape b) (hn : n = a.act.frame.length) (hn2 : n2 = a.o.out.length) (hn' : n' = b.act.frame.length) (hn2' : n2' = b.o.out.length) (w : World) (hf : BS w w.heap.size A a.act.frame) (hf' : BS w w.heap.size A' b.act.frame) (ho : BS w w.heap.size A2 a.o.out) (ho' : BS w w.heap.size A2' b.o.out) (r : Bool) (hr : sameEvB a b = r) :
    Calls Try.prog 16 #[.agg (evCs A n c A2 n2 c2 a).toArray, .agg (evCs A' n' c' A2' n2' c2' b).toArray] w fun e w' => e = .returned (.bool r) ∧ Below w.heap.size w w' := by
  subst hr hn hn2 hn' hn2'
  exact same_any A c A2 c2 a A' c' A2' c2' b ha0 hb0 w hf hf' ho ho'
/-- No event, and one that is laid out in the law's own text. -/
theorem esameZ (E : EvP) (hE : E = ev0) (Z : Array Value) (hZ : Z = (evCs none 0 0 none 0 0 ev0).toArray) (w : World) :
    Calls Try.prog 16 #[.agg (evCs none 0 0 none 0 0 E).toArray, .agg Z] w fun e w' => e = .returned (.bool true) ∧ Below w.heap.size w w' := by
  subst hE hZ
  exact esameE none 0 none 0 ev0 none 0 none 0 ev0 ev0_shape ev0_shape w (BS.nil _ _ _) (BS.nil _ _ _) (BS.nil _ _ _) (BS.nil _ _ _) true (sameEv_self _)
theorem rsameZ (E : EvP) (hE : E = ev0) (Z : Array Value) (hZ : Z = (evCs none 0 0 none 0 0 ev0).toArray) (w : World) :
    Calls Try.prog 17 #[.agg (evCs none 0 0 none 0 0 E).toArray, .agg Z] w fun e w' => e = .returned (.bool true) ∧ Below w.heap.size w w' := by
  subst hE hZ
  exact rsameE none 0 none 0 ev0 none 0 none 0 ev0 ev0_shape ev0_shape w (BS.nil _ _ _) (BS.nil _ _ _) (BS.nil _ _ _) (BS.nil _ _ _) true (sameEv_self _)
end Go.Proofs.Ytgohhojoahlfiaa
