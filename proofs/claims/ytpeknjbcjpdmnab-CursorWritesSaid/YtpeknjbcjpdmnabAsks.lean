/- A row of asks that came in: kind, number, whether the highest byte comes first, a number, bytes; opened as a list. No program in sight. -/
import Derived.Test.YtpeknjbcjpdmnabTrodP
namespace Go.Proofs.Ytpeknjbcjpdmnab
open Go.RowKit Go.Deep Go.ChangeShapes Go.WideShapes

/-- What is asked: kind, n, big, m, the bytes. -/
abbrev AskT : Type := Int × Int × Bool × Nat × List UInt8

/-- The slice value '.slice A qs.length _' reads, in world w and below block B, qs the asks. -/
def AS (w : World) (B : Nat) (A : Option Addr) (qs : List AskT) : Prop :=
  0 < qs.length → ∃ ad, A = some ad ∧ ad.block < B ∧ ∀ j x, qs[j]? = some x → w.cell? (ad.add (j * 5)) = some (.int .i64 x.1) ∧ w.cell? (ad.add (j * 5 + 1)) = some (.int .i64 x.2.1) ∧ w.cell? (ad.add (j * 5 + 2)) = some (.bool x.2.2.1) ∧
    w.cell? (ad.add (j * 5 + 3)) = some (.int .u64 (x.2.2.2.1 : Int)) ∧ ∃ A' c', w.cell? (ad.add (j * 5 + 4)) = some (.slice A' x.2.2.2.2.length c') ∧ x.2.2.2.2.length ≤ c' ∧ BS w B A' x.2.2.2.2
def askOk (x : AskT) : Prop := (-9223372036854775808 ≤ x.1 ∧ x.1 < 9223372036854775808) ∧ (-9223372036854775808 ≤ x.2.1 ∧ x.2.1 < 9223372036854775808) ∧ x.2.2.2.1 < 18446744073709551616 ∧ x.2.2.2.2.length ≤ maxLen
section
variable {w w' : World} {B B' : Nat} {A : Option Addr} {qs : List AskT}
/-- The cells of one ask, qs a load of the whole spells them. -/
theorem AS.whole {k : Nat} (h : AS w B A qs) (hk : k < qs.length) : ∃ ad, A = some ad ∧ ad.block < B ∧ w.cell? (ad.add (k * 5)) = some (.int .i64 qs[k].1) ∧ w.cell? ⟨(ad.add (k * 5)).block, (ad.add (k * 5)).off + 1, none⟩ = some (.int .i64 qs[k].2.1) ∧ w.cell? ⟨(ad.add (k * 5)).block, (ad.add (k * 5)).off + 2, none⟩ = some (.bool qs[k].2.2.1) ∧
    w.cell? ⟨(ad.add (k * 5)).block, (ad.add (k * 5)).off + 3, none⟩ = some (.int .u64 (qs[k].2.2.2.1 : Int)) ∧ ∃ A' c', w.cell? ⟨(ad.add (k * 5)).block, (ad.add (k * 5)).off + 4, none⟩ = some (.slice A' qs[k].2.2.2.2.length c') ∧ qs[k].2.2.2.2.length ≤ c' ∧ BS w B A' qs[k].2.2.2.2 := by
  obtain ⟨ad, e, hb, hc⟩ := h (by omega)
  obtain ⟨h0, h1, h2, h3, A', c', h4, h5⟩ := hc k _ (List.getElem?_eq_getElem hk)
  exact ⟨ad, e, hb, h0, by rw [addr_next _ _ _ (by omega)]; exact h1, by rw [addr_next _ _ _ (by omega)]; exact h2, by rw [addr_next _ _ _ (by omega)]; exact h3, A', c', by rw [addr_next _ _ _ (by omega)]; exact h4, h5⟩
theorem AS.keep (h : AS w B A qs) (hk : ∀ p : Addr, p.block < B → w'.cell? p = w.cell? p) : AS w' B A qs := fun hn => by
  obtain ⟨ad, e, hb, hc⟩ := h hn
  refine ⟨ad, e, hb, fun j x hj => ?_⟩
  obtain ⟨h0, h1, h2, h3, A', c', h4, h5, h6⟩ := hc j x hj
  have hb' : ∀ i, (ad.add i).block < B := fun i => by rw [block_of_add]; exact hb
  exact ⟨(hk _ (hb' _)).trans h0, (hk _ (hb' _)).trans h1, (hk _ (hb' _)).trans h2, (hk _ (hb' _)).trans h3, A', c', (hk _ (hb' _)).trans h4, h5, h6.keep hk⟩
theorem AS.more (h : AS w B A qs) (hB : B ≤ B') : AS w B' A qs := fun hn => by
  obtain ⟨ad, e, hb, hc⟩ := h hn
  refine ⟨ad, e, by omega, fun j x hj => ?_⟩
  obtain ⟨h0, h1, h2, h3, A', c', h4, h5, h6⟩ := hc j x hj
  exact ⟨h0, h1, h2, h3, A', c', h4, h5, h6.more hB⟩
theorem AS.below (h : AS w B A qs) (hb : Below B w w') : AS w' B A qs := h.keep fun _ hp => hb.cell hp
end

section
variable {H : Type} {enc : TypeId × Value → H} {P : Program} {w : World} {base : Nat} {held : Bool} {t e q : TypeId} {fuel : Nat} {a0 : Option Addr} {len0 cap0 : Nat} {x : DataW H × List MemPlace}
theorem AS.of_trod {f0 f1 f2 f3 f4 : Field} (ht : P.underlying t = some (.slice e)) (he : P.underlying e = some (.struct #[f0, f1, f2, f3, f4])) (ce : P.cellsOf e = 5)
    (o0 : f0.offset = 0) (o1 : f1.offset = 1) (o2 : f2.offset = 2) (o3 : f3.offset = 3) (o4 : f4.offset = 4) (c0 : P.cellsOf f0.type = 1) (c1 : P.cellsOf f1.type = 1) (c2 : P.cellsOf f2.type = 1) (c3 : P.cellsOf f3.type = 1) (c4 : P.cellsOf f4.type = 1)
    (t0 : P.underlying f0.type = some (.int .i64)) (t1 : P.underlying f1.type = some (.int .i64)) (t2 : P.underlying f2.type = some .bool) (t3 : P.underlying f3.type = some (.int .u64)) (t4 : P.underlying f4.type = some (.slice q)) (hq : P.underlying q = some (.int .u8)) (cq : P.cellsOf q = 1)
    (h : DataW.trod enc P w base (fun _ => true) held fuel t [.slice a0 len0 cap0] = some x) : ∃ qs : List AskT, len0 = qs.length ∧ len0 ≤ cap0 ∧ cap0 ≤ maxLen ∧ AS w w.heap.size a0 qs ∧ ∀ x ∈ qs, askOk x := by
  rcases open_slice ht h with ⟨hcs, _⟩ | ⟨a, len, cap, m, n, D, Pl, hcs, _, hlc, hcm, hm, _, hi⟩
  · simp at hcs
    obtain ⟨rfl, rfl, rfl⟩ := hcs
    exact ⟨[], rfl, by omega, by simp [maxLen], fun hp => absurd hp (by simp), by simp⟩
  · simp at hcs
    obtain ⟨rfl, rfl, rfl⟩ := hcs
    rw [if_pos rfl] at hm
    have each : ∀ r, r < len0 → ∃ y : AskT, (w.cell? (a.add (r * 5)) = some (.int .i64 y.1) ∧ w.cell? (a.add (r * 5 + 1)) = some (.int .i64 y.2.1) ∧ w.cell? (a.add (r * 5 + 2)) = some (.bool y.2.2.1) ∧
        w.cell? (a.add (r * 5 + 3)) = some (.int .u64 (y.2.2.2.1 : Int)) ∧ ∃ A' c', w.cell? (a.add (r * 5 + 4)) = some (.slice A' y.2.2.2.2.length c') ∧ y.2.2.2.2.length ≤ c' ∧ BS w w.heap.size A' y.2.2.2.2) ∧ askOk y := by
      intro r hr
      obtain ⟨cs', hc, htr⟩ := hi r (by omega)
      rw [ce] at hc
      obtain ⟨ys, n', _, _, hlen, hys, hf⟩ := DataW.trod_struct he htr
      rw [ce] at hlen
      obtain ⟨_, _, hat⟩ := World.cells?_some hc
      match cs', hlen with
      | [v0, v1, v2, v3, v4], _ =>
        have g0 := hf 0 f0 rfl
        have g1 := hf 1 f1 rfl
        have g2 := hf 2 f2 rfl
        have g3 := hf 3 f3 rfl
        have g4 := hf 4 f4 rfl
        rw [o0, c0] at g0
        rw [o1, c1] at g1
        rw [o2, c2] at g2
        rw [o3, c3] at g3
        rw [o4, c4] at g4
        have hy : ∀ i, i < 5 → ∃ y, ys[i]? = some y := fun i hi => ⟨_, List.getElem?_eq_getElem (by have : ys.length = 5 := by assumption
                                                                                                    omega)⟩
        obtain ⟨y0, e0⟩ := hy 0 (by omega)
        obtain ⟨y1, e1⟩ := hy 1 (by omega)
        obtain ⟨y2, e2⟩ := hy 2 (by omega)
        obtain ⟨y3, e3⟩ := hy 3 (by omega)
        obtain ⟨y4, e4⟩ := hy 4 (by omega)
        rw [e0] at g0
        rw [e1] at g1
        rw [e2] at g2
        rw [e3] at g3
        rw [e4] at g4
        obtain ⟨n0, hv0, _, hw0⟩ := DataW.trod_int t0 g0
        obtain ⟨n1, hv1, _, hw1⟩ := DataW.trod_int t1 g1
        obtain ⟨b2, hv2, _⟩ := DataW.trod_bool t2 g2
        obtain ⟨n3, hv3, _, hw3⟩ := DataW.trod_int t3 g3
        simp at hv0 hv1 hv2 hv3
        subst hv0 hv1 hv2 hv3
        have k0 := hat 0 (by simp)
        have k1 := hat 1 (by simp)
        have k2 := hat 2 (by simp)
        have k3 := hat 3 (by simp)
        have k4 := hat 4 (by simp)
        rw [add_of_add] at k0 k1 k2 k3 k4
        have hn : ∃ k : Nat, n3 = (k : Int) ∧ k < 18446744073709551616 := by
          simp [Lit.wf, IntKind.min, IntKind.max, IntKind.bits, IntKind.signed] at hw3
          exact ⟨n3.toNat, by omega, by omega⟩
        obtain ⟨k, rfl, hk⟩ := hn
        have g4' : DataW.trod enc P w base (fun _ => true) held n' f4.type [v4] = some y4 := g4
        rcases open_ints t4 hq cq g4' with ⟨hcc, _⟩ | ⟨a', l', c', zs, hcc, _, hl', hm', hz, _, hcell, hwz⟩
        · simp at hcc
          subst hcc
          exact ⟨(n0, n1, b2, k, []), ⟨k0, k1, k2, k3, none, 0, k4, by simp, BS.nil _ _ _⟩, i64_of_wf hw0, i64_of_wf hw1, hk, by simp⟩
        · simp at hcc
          subst hcc
          rw [if_pos rfl] at hz
          obtain ⟨l, e1, e2, e3, e4⟩ := BS.of_row (.inr ⟨a', rfl, hl', hm', hz, hcell, hwz⟩)
          refine ⟨(n0, n1, b2, k, l), ⟨k0, k1, k2, k3, some a', c', by rw [e1]; exact k4, by rw [e1]; exact hl', e4⟩, i64_of_wf hw0, i64_of_wf hw1, hk, ?_⟩
          show l.length ≤ maxLen
          omega
    obtain ⟨y, hy⟩ := choose_lt each
    refine ⟨(List.range len0).map y, by simp, hlc, hcm, fun hp => ?_, ?_⟩
    · have hp' : 0 < len0 := by simpa using hp
      refine ⟨a, rfl, block_lt_of_add (hy 0 hp').1.1, fun j z hj => ?_⟩
      rw [List.getElem?_map] at hj
      by_cases hjl : j < len0
      · rw [List.getElem?_range hjl] at hj
        simp at hj
        subst hj
        exact (hy j hjl).1
      · rw [List.getElem?_eq_none (by simp; omega)] at hj
        simp at hj
    · intro z hz
      simp only [List.mem_map, List.mem_range] at hz
      obtain ⟨j, hj, rfl⟩ := hz
      exact (hy j hj).2
end
end Go.Proofs.Ytpeknjbcjpdmnab
