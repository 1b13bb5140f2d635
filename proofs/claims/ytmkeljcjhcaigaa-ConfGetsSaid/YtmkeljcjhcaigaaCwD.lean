/- The document's contracts of layer 22, told apart by what they answer. -/
import Derived.Test.YtmkeljcjhcaigaaCwC
import Derived.Test.YtmkeljcjhcaigaaRPut
namespace Go.Proofs.Ytmkeljcjhcaigaa
open Go.RowKit
set_option linter.unusedVariables false

theorem rrightE (A : Option Addr) (c : Nat) (f : ConfP) (hs : ConfShape f) (w : World) (hv : VS w w.heap.size A f.vips) (hl : f.vips.length ≤ 1000000) (b : Bool) (hr : rightB f = b) :
    Calls Try.prog 17 #[.agg (confCs A f.vips.length c f).toArray] w fun e w' => e = .returned (.bool b) ∧ Below w.heap.size w w' := by
  subst hr
  exact refRight_any A _ c f hs w rfl hv hl
theorem rputE (A : Option Addr) (c : Nat) (f : ConfP) (hf : ConfShape f) (w : World) (hnc : f.vips.length ≤ c) (hb : VS w w.heap.size A f.vips) (hr : rightB f = true) (m : List UInt8) (hm : confPutS f = m) :
    Calls Try.prog 21 #[.agg (confCs A f.vips.length c f).toArray] w fun e w' => ∃ A' c', e = .returned (.slice A' m.length c') ∧ w'.ownsRow w.heap.size 5 1 (.slice A' m.length c') m.length (bcells m) ∧ Below w.heap.size w w' := by
  subst hm
  exact rputC_any A c f hf w hnc hb hr
theorem rsameE (A : Option Addr) (c : Nat) (f : ConfP) (hf : ConfShape f) (A' : Option Addr) (c' : Nat) (g : ConfP) (hg : ConfShape g) (w : World) (b : Bool) (hr : sameB f g = b) (hv : VS w w.heap.size A f.vips) (hv' : VS w w.heap.size A' g.vips) (hl : f.vips.length ≤ 1000000) (hl' : g.vips.length ≤ 1000000) :
    Calls Try.prog 19 #[.agg (confCs A f.vips.length c f).toArray, .agg (confCs A' g.vips.length c' g).toArray] w fun e w' => e = .returned (.bool b) ∧ Below w.heap.size w w' := by
  subst hr
  exact refSame_any A _ c f A' _ c' g hf hg w rfl rfl hv hv' hl hl'
theorem same_self (f : ConfP) : sameB f f = true := sameB_iff.2 rfl
end Go.Proofs.Ytmkeljcjhcaigaa
