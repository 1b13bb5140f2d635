/- A row of bytes that came in, opened as a list (the part of TrodP that speaks of no plan). No program in sight. -/
import Derived.Test.YtgohhojoahlfiaaKA
import Derived.Deep.Matrix
import Derived.Deep.SlicePairs
namespace Go.Proofs.Ytgohhojoahlfiaa
open Go.RowKit Go.Deep Go.ChangeShapes Go.WideShapes

theorem i64_of_wf {n : Int} (h : (Lit.int .i64 n).wf = true) : -9223372036854775808 ≤ n ∧ n < 9223372036854775808 := by
  simp [Lit.wf, IntKind.min, IntKind.max, IntKind.bits, IntKind.signed] at h
  omega

section
variable {H : Type} {enc : TypeId × Value → H} {P : Program} {w : World} {base : Nat} {held : Bool} {t e : TypeId} {fuel : Nat} {a0 : Option Addr} {len0 cap0 : Nat} {x : DataW H × List MemPlace}

theorem BS.of_trod (ht : P.underlying t = some (.slice e)) (he : P.underlying e = some (.int .u8)) (ce : P.cellsOf e = 1)
    (h : DataW.trod enc P w base (fun _ => true) held fuel t [.slice a0 len0 cap0] = some x) : ∃ l : List UInt8, len0 = l.length ∧ len0 ≤ cap0 ∧ cap0 ≤ maxLen ∧ BS w w.heap.size a0 l := by
  rcases open_ints ht he ce h with ⟨hc, _⟩ | ⟨a', l', c', zs, hc, _, hl', hm', hz, _, hcell, hwz⟩
  · simp at hc
    obtain ⟨rfl, rfl, rfl⟩ := hc
    exact ⟨[], rfl, by omega, by simp [maxLen], BS.nil _ _ _⟩
  · simp at hc
    obtain ⟨rfl, rfl, rfl⟩ := hc
    rw [if_pos rfl] at hz
    obtain ⟨l, e1, e2, e3, e4⟩ := BS.of_row (.inr ⟨a', rfl, hl', hm', hz, hcell, hwz⟩)
    exact ⟨l, e1.symm, e2, e3, e4⟩

end
end Go.Proofs.Ytgohhojoahlfiaa
