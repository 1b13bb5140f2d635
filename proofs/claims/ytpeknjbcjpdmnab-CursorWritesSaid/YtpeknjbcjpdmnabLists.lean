/- Words for memory: a slice of slices of bytes. No program in sight. -/
import Derived.Test.YtpeknjbcjpdmnabBlk
namespace Go.Proofs.Ytpeknjbcjpdmnab
open Go.RowKit

/-- The slice value '.slice A ls.length _' reads, in world w and below block B, as the texts ls. -/
def LS (w : World) (B : Nat) (A : Option Addr) (ls : List (List UInt8)) : Prop :=
  0 < ls.length → ∃ ad, A = some ad ∧ ad.block < B ∧ ∀ j l, ls[j]? = some l → ∃ A' c', w.cell? (ad.add j) = some (.slice A' l.length c') ∧ l.length ≤ c' ∧ BS w B A' l
section
variable {w w' : World} {B B' : Nat} {A : Option Addr} {ls : List (List UInt8)}
theorem LS.nil (w : World) (B : Nat) (A : Option Addr) : LS w B A [] := fun h => absurd h (by simp)
theorem LS.at_ {k : Nat} (h : LS w B A ls) (hk : k < ls.length) : ∃ ad A' c', A = some ad ∧ ad.block < B ∧ w.cell? (ad.add k) = some (.slice A' (ls[k]).length c') ∧ (ls[k]).length ≤ c' ∧ BS w B A' ls[k] := by
  obtain ⟨ad, e, hb, hc⟩ := h (by omega)
  obtain ⟨A', c', h1, h2, h3⟩ := hc k _ (List.getElem?_eq_getElem hk)
  exact ⟨ad, A', c', e, hb, h1, h2, h3⟩
theorem LS.keep (h : LS w B A ls) (hk : ∀ p : Addr, p.block < B → w'.cell? p = w.cell? p) : LS w' B A ls := fun hn => by
  obtain ⟨ad, e, hb, hc⟩ := h hn
  refine ⟨ad, e, hb, fun j l hj => ?_⟩
  obtain ⟨A', c', h1, h2, h3⟩ := hc j l hj
  exact ⟨A', c', (hk _ (by rw [block_of_add]; exact hb)).trans h1, h2, h3.keep hk⟩
theorem LS.more (h : LS w B A ls) (hB : B ≤ B') : LS w B' A ls := fun hn => by
  obtain ⟨ad, e, hb, hc⟩ := h hn
  refine ⟨ad, e, by omega, fun j l hj => ?_⟩
  obtain ⟨A', c', h1, h2, h3⟩ := hc j l hj
  exact ⟨A', c', h1, h2, h3.more hB⟩
theorem LS.below (h : LS w B A ls) (hb : Below B w w') : LS w' B A ls := h.keep fun _ hp => hb.cell hp
theorem LS.take (h : LS w B A ls) (k : Nat) : LS w B A (ls.take k) := fun hn => by
  rw [List.length_take] at hn
  obtain ⟨ad, rfl, hb, hc⟩ := h (by omega)
  refine ⟨ad, rfl, hb, fun j u hu => ?_⟩
  rw [List.getElem?_take] at hu
  split at hu
  · exact hc j u hu
  · cases hu
end
end Go.Proofs.Ytpeknjbcjpdmnab
