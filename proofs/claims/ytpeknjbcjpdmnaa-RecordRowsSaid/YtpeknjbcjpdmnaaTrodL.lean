/- A slice of slices of bytes that came in: opened as a list of texts. No program in sight. -/
import Derived.Test.YtpeknjbcjpdmnaaLists
import Derived.Deep.Matrix
namespace Go.Proofs.Ytpeknjbcjpdmnaa
open Go.RowKit Go.Deep Go.ChangeShapes Go.WideShapes

theorem LS.of_trod {H : Type} {enc : TypeId × Value → H} {P : Program} {w : World} {base : Nat} {held : Bool} {t e q : TypeId} {fuel : Nat} {a0 : Option Addr} {len0 cap0 : Nat} {x : DataW H × List MemPlace}
    (ht : P.underlying t = some (.slice e)) (he : P.underlying e = some (.slice q)) (hq : P.underlying q = some (.int .u8)) (ce : P.cellsOf e = 1) (cq : P.cellsOf q = 1)
    (h : DataW.trod enc P w base (fun _ => true) held fuel t [.slice a0 len0 cap0] = some x) : ∃ ls : List (List UInt8), len0 = ls.length ∧ len0 ≤ cap0 ∧ cap0 ≤ maxLen ∧ LS w w.heap.size a0 ls := by
  rcases open_int_rows ht he hq ce cq h with ⟨hcs, _⟩ | ⟨a, len, cap, A, L, C, Z, hcs, _, hlc, hcm, _, hrow⟩
  · simp at hcs
    obtain ⟨rfl, rfl, rfl⟩ := hcs
    exact ⟨[], rfl, by omega, by simp [maxLen], LS.nil _ _ _⟩
  · simp at hcs
    obtain ⟨rfl, rfl, rfl⟩ := hcs
    have each : ∀ r, r < len0 → ∃ l : List UInt8, L r = l.length ∧ BS w w.heap.size (A r) l ∧ L r ≤ C r := by
      intro r hr
      obtain ⟨_, h1, h2, h3, h4, h5, h6⟩ := hrow r (by omega)
      have hR : IsRow .u8 w (A r) (L r) (C r) (Z r) := by
        rcases hA : A r with _ | a'
        · have hC := h5 hA
          rw [hC] at h1 h3
          have hL : L r = 0 := by omega
          rw [hC, hL]
          exact .inl ⟨rfl, rfl, rfl, List.length_eq_zero_iff.1 h3⟩
        · obtain ⟨_, h7⟩ := h6 a' hA
          exact .inr ⟨a', rfl, h1, h2, h3, fun j hj => h7 j (by omega), h4⟩
      obtain ⟨l, e1, e2, e3, e4⟩ := BS.of_row hR
      exact ⟨l, e1.symm, e4, h1⟩
    obtain ⟨y, hy⟩ := choose_lt each
    refine ⟨(List.range len0).map y, by simp, hlc, hcm, fun hp => ?_⟩
    have hp' : 0 < len0 := by simpa using hp
    refine ⟨a, rfl, block_lt_of_add (hrow 0 (by omega)).1, fun j l hj => ?_⟩
    rw [List.getElem?_map] at hj
    by_cases hjl : j < len0
    · rw [List.getElem?_range hjl] at hj
      simp at hj
      subst hj
      obtain ⟨e1, e2, e3⟩ := hy j hjl
      refine ⟨A j, C j, ?_, by omega, e2⟩
      rw [← e1]
      exact (hrow j (by omega)).1
    · rw [List.getElem?_eq_none (by simp; omega)] at hj
      simp at hj
end Go.Proofs.Ytpeknjbcjpdmnaa
