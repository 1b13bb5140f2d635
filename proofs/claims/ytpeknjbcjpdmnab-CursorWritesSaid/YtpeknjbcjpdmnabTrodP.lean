/- A plan, and pieces, that came in: opened as lists. No program in sight. -/
import Derived.Test.YtpeknjbcjpdmnabPieces
import Derived.Deep.Matrix
import Derived.Deep.SlicePairs
namespace Go.Proofs.Ytpeknjbcjpdmnab
open Go.RowKit Go.Deep Go.ChangeShapes Go.WideShapes

theorem i64_of_wf {n : Int} (h : (Lit.int .i64 n).wf = true) : -9223372036854775808 ≤ n ∧ n < 9223372036854775808 := by
  simp [Lit.wf, IntKind.min, IntKind.max, IntKind.bits, IntKind.signed] at h
  omega

/-- The number of an item is an int. -/
def itemOk (x : Item) : Prop := -9223372036854775808 ≤ x.2.1 ∧ x.2.1 < 9223372036854775808

section
variable {H : Type} {enc : TypeId × Value → H} {P : Program} {w : World} {base : Nat} {held : Bool} {t e : TypeId} {fuel : Nat} {a0 : Option Addr} {len0 cap0 : Nat} {x : DataW H × List MemPlace}

theorem BS.of_trod (ht : P.underlying t = some (.slice e)) (he : P.underlying e = some (.int .u8)) (ce : P.cellsOf e = 1)
    (h : DataW.trod enc P w base (fun _ => true) held fuel t [.slice a0 len0 cap0] = some x) : ∃ l : List UInt8, len0 = l.length ∧ len0 ≤ cap0 ∧ cap0 ≤ maxLen ∧ BS w w.heap.size a0 l := by
  rcases open_ints ht he ce h with ⟨hc, _⟩ | ⟨a', l', c', zs, hc, _, hl', hm', hz, _, hcell, hwz⟩
  · simp at hc
    obtain ⟨rfl, rfl, rfl⟩ := hc
    exact ⟨[], rfl, by omega, by simp [maxLen], BS.nil _ _ _⟩
  · simp at hc
    obtain ⟨rfl, rfl, rfl⟩ := hc
    rw [if_pos rfl] at hz
    obtain ⟨l, e1, e2, e3, e4⟩ := BS.of_row (.inr ⟨a', rfl, hl', hm', hz, hcell, hwz⟩)
    exact ⟨l, e1.symm, e2, e3, e4⟩

theorem IS.of_trod {f0 f1 f2 : Field} (ht : P.underlying t = some (.slice e)) (he : P.underlying e = some (.struct #[f0, f1, f2])) (ce : P.cellsOf e = 3)
    (o0 : f0.offset = 0) (o1 : f1.offset = 1) (o2 : f2.offset = 2) (c0 : P.cellsOf f0.type = 1) (c1 : P.cellsOf f1.type = 1) (c2 : P.cellsOf f2.type = 1)
    (t0 : P.underlying f0.type = some (.int .i64)) (t1 : P.underlying f1.type = some (.int .i64)) (t2 : P.underlying f2.type = some .bool)
    (h : DataW.trod enc P w base (fun _ => true) held fuel t [.slice a0 len0 cap0] = some x) : ∃ is : List Item, len0 = is.length ∧ len0 ≤ cap0 ∧ cap0 ≤ maxLen ∧ IS w w.heap.size a0 is ∧ ∀ x ∈ is, itemOk x := by
  rcases open_slice ht h with ⟨hcs, _⟩ | ⟨a, len, cap, m, n, D, Pl, hcs, _, hlc, hcm, hm, _, hi⟩
  · simp at hcs
    obtain ⟨rfl, rfl, rfl⟩ := hcs
    exact ⟨[], rfl, by omega, by simp [maxLen], fun hp => absurd hp (by simp), by simp⟩
  · simp at hcs
    obtain ⟨rfl, rfl, rfl⟩ := hcs
    rw [if_pos rfl] at hm
    have each : ∀ r, r < len0 → ∃ y : Item, (w.cell? (a.add (r * 3)) = some (.int .i64 y.1) ∧ w.cell? (a.add (r * 3 + 1)) = some (.int .i64 y.2.1) ∧ w.cell? (a.add (r * 3 + 2)) = some (.bool y.2.2)) ∧ itemOk y := by
      intro r hr
      obtain ⟨cs', hc, htr⟩ := hi r (by omega)
      rw [ce] at hc
      obtain ⟨ys, n', _, _, hlen, _, hf⟩ := DataW.trod_struct he htr
      rw [ce] at hlen
      obtain ⟨_, _, hat⟩ := World.cells?_some hc
      match cs', hlen with
      | [v0, v1, v2], _ =>
        have g0 := hf 0 f0 rfl
        have g1 := hf 1 f1 rfl
        have g2 := hf 2 f2 rfl
        rw [o0, c0] at g0
        rw [o1, c1] at g1
        rw [o2, c2] at g2
        have hy : ∀ i, i < 3 → ∃ y, ys[i]? = some y := fun i hi => ⟨_, List.getElem?_eq_getElem (by have : ys.length = 3 := by assumption
                                                                                                    omega)⟩
        obtain ⟨y0, e0⟩ := hy 0 (by omega)
        obtain ⟨y1, e1⟩ := hy 1 (by omega)
        obtain ⟨y2, e2⟩ := hy 2 (by omega)
        rw [e0] at g0
        rw [e1] at g1
        rw [e2] at g2
        obtain ⟨n0, hv0, _, _⟩ := DataW.trod_int t0 g0
        obtain ⟨n1, hv1, _, hw1⟩ := DataW.trod_int t1 g1
        obtain ⟨b2, hv2, _⟩ := DataW.trod_bool t2 g2
        simp at hv0 hv1 hv2
        subst hv0 hv1 hv2
        have k0 := hat 0 (by simp)
        have k1 := hat 1 (by simp)
        have k2 := hat 2 (by simp)
        rw [add_of_add] at k0 k1 k2
        exact ⟨(n0, n1, b2), ⟨k0, k1, k2⟩, i64_of_wf hw1⟩
    obtain ⟨y, hy⟩ := choose_lt each
    refine ⟨(List.range len0).map y, by simp, hlc, hcm, fun hp => ?_, ?_⟩
    · have hp' : 0 < len0 := by simpa using hp
      refine ⟨a, rfl, block_lt_of_add (hy 0 hp').1.1, fun j z hj => ?_⟩
      rw [List.getElem?_map] at hj
      by_cases hjl : j < len0
      · rw [List.getElem?_range hjl] at hj
        simp at hj
        subst hj
        exact (hy j hjl).1
      · rw [List.getElem?_eq_none (by simp; omega)] at hj
        simp at hj
    · intro z hz
      simp only [List.mem_map, List.mem_range] at hz
      obtain ⟨j, hj, rfl⟩ := hz
      exact (hy j hj).2

theorem PS.of_trod {q : TypeId} {f0 f1 : Field} (ht : P.underlying t = some (.slice e)) (he : P.underlying e = some (.struct #[f0, f1])) (ce : P.cellsOf e = 2)
    (o0 : f0.offset = 0) (o1 : f1.offset = 1) (c0 : P.cellsOf f0.type = 1) (c1 : P.cellsOf f1.type = 1)
    (t0 : P.underlying f0.type = some (.int .u64)) (t1 : P.underlying f1.type = some (.slice q)) (hq : P.underlying q = some (.int .u8)) (cq : P.cellsOf q = 1)
    (h : DataW.trod enc P w base (fun _ => true) held fuel t [.slice a0 len0 cap0] = some x) : ∃ ps : List Piece, len0 = ps.length ∧ len0 ≤ cap0 ∧ cap0 ≤ maxLen ∧ PS w w.heap.size a0 ps ∧ ∀ p ∈ ps, p.1 < 18446744073709551616 ∧ p.2.length ≤ maxLen := by
  rcases open_slice_pairs ht he ce o0 o1 c0 c1 h with ⟨hcs, _⟩ | ⟨a, len, cap, m, n, V0, V1, D0, D1, P0, P1, hcs, _, hlc, hcm, hm, _, hi⟩
  · simp at hcs
    obtain ⟨rfl, rfl, rfl⟩ := hcs
    exact ⟨[], rfl, by omega, by simp [maxLen], fun hp => absurd hp (by simp), by simp⟩
  · simp at hcs
    obtain ⟨rfl, rfl, rfl⟩ := hcs
    rw [if_pos rfl] at hm
    have each : ∀ r, r < len0 → ∃ p : Piece, (w.cell? (a.add (r * 2)) = some (.int .u64 (p.1 : Int)) ∧ ∃ A' c', w.cell? (a.add (r * 2 + 1)) = some (.slice A' p.2.length c') ∧ p.2.length ≤ c' ∧ BS w w.heap.size A' p.2) ∧ p.1 < 18446744073709551616 ∧ p.2.length ≤ maxLen := by
      intro r hr
      obtain ⟨h0, h1, g0, g1⟩ := hi r (by omega)
      obtain ⟨n0, hv0, _, hw0⟩ := DataW.trod_int t0 g0
      simp at hv0
      have hn : ∃ k : Nat, n0 = (k : Int) ∧ k < 18446744073709551616 := by
        simp [Lit.wf, IntKind.min, IntKind.max, IntKind.bits, IntKind.signed] at hw0
        exact ⟨n0.toNat, by omega, by omega⟩
      obtain ⟨k, rfl, hk⟩ := hn
      rw [hv0] at h0
      rcases open_ints t1 hq cq g1 with ⟨hc, _⟩ | ⟨a', l', c', zs, hc, _, hl', hm', hz, _, hcell, hwz⟩
      · simp at hc
        rw [hc] at h1
        exact ⟨(k, []), ⟨h0, none, 0, h1, by simp, BS.nil _ _ _⟩, hk, by simp⟩
      · simp at hc
        rw [hc] at h1
        rw [if_pos rfl] at hz
        obtain ⟨l, e1, e2, e3, e4⟩ := BS.of_row (.inr ⟨a', rfl, hl', hm', hz, hcell, hwz⟩)
        refine ⟨(k, l), ⟨h0, some a', c', by rw [h1, e1], by rw [e1]; exact hl', e4⟩, hk, ?_⟩
        show l.length ≤ maxLen
        omega
    obtain ⟨y, hy⟩ := choose_lt each
    refine ⟨(List.range len0).map y, by simp, hlc, hcm, fun hp => ?_, ?_⟩
    · have hp' : 0 < len0 := by simpa using hp
      refine ⟨a, rfl, block_lt_of_add (hy 0 hp').1.1, fun j z hj => ?_⟩
      rw [List.getElem?_map] at hj
      by_cases hjl : j < len0
      · rw [List.getElem?_range hjl] at hj
        simp at hj
        subst hj
        exact (hy j hjl).1
      · rw [List.getElem?_eq_none (by simp; omega)] at hj
        simp at hj
    · intro z hz
      simp only [List.mem_map, List.mem_range] at hz
      obtain ⟨j, hj, rfl⟩ := hz
      exact (hy j hj).2
end
end Go.Proofs.Ytpeknjbcjpdmnab
