/- Words for memory: a plan's items that are read; pieces that are read; a row of pieces of the call's own. No program in sight. -/
import Derived.Test.YtpeknjbcjpdmnabLOwn
namespace Go.Proofs.Ytpeknjbcjpdmnab
open Go.RowKit

/-- An item of a plan: its kind, its number, whether the highest byte comes first. -/
abbrev Item : Type := Int × Int × Bool
/-- A piece: a number, bytes. -/
abbrev Piece : Type := Nat × List UInt8

theorem addr_next (ad : Addr) (i j : Nat) (hj : 0 < j) : (⟨(ad.add i).block, (ad.add i).off + j, none⟩ : Addr) = ad.add (i + j) := by
  unfold Addr.add
  by_cases hi : i = 0
  · subst hi
    rw [if_pos rfl, Nat.zero_add, if_neg (by omega)]
  · rw [if_neg hi, if_neg (by omega)]
    simp [Nat.add_assoc]

/-- The slice value '.slice A is.length _' reads, in world w and below block B, as the items. -/
def IS (w : World) (B : Nat) (A : Option Addr) (is : List Item) : Prop :=
  0 < is.length → ∃ ad, A = some ad ∧ ad.block < B ∧ ∀ j x, is[j]? = some x → w.cell? (ad.add (j * 3)) = some (.int .i64 x.1) ∧ w.cell? (ad.add (j * 3 + 1)) = some (.int .i64 x.2.1) ∧ w.cell? (ad.add (j * 3 + 2)) = some (.bool x.2.2)
section
variable {w w' : World} {B B' : Nat} {A : Option Addr} {is : List Item}
theorem IS.at_ {k : Nat} (h : IS w B A is) (hk : k < is.length) : ∃ ad, A = some ad ∧ ad.block < B ∧ w.cell? (ad.add (k * 3)) = some (.int .i64 is[k].1) ∧ w.cell? (ad.add (k * 3 + 1)) = some (.int .i64 is[k].2.1) ∧ w.cell? (ad.add (k * 3 + 2)) = some (.bool is[k].2.2) := by
  obtain ⟨ad, e, hb, hc⟩ := h (by omega)
  obtain ⟨h1, h2, h3⟩ := hc k _ (List.getElem?_eq_getElem hk)
  exact ⟨ad, e, hb, h1, h2, h3⟩
/-- The cells of one item, as a load of the whole item spells them. -/
theorem IS.whole {k : Nat} (h : IS w B A is) (hk : k < is.length) : ∃ ad, A = some ad ∧ ad.block < B ∧ w.cell? (ad.add (k * 3)) = some (.int .i64 is[k].1) ∧ w.cell? ⟨(ad.add (k * 3)).block, (ad.add (k * 3)).off + 1, none⟩ = some (.int .i64 is[k].2.1) ∧ w.cell? ⟨(ad.add (k * 3)).block, (ad.add (k * 3)).off + 2, none⟩ = some (.bool is[k].2.2) := by
  obtain ⟨ad, e, hb, h1, h2, h3⟩ := h.at_ hk
  exact ⟨ad, e, hb, h1, by rw [addr_next _ _ _ (by omega)]; exact h2, by rw [addr_next _ _ _ (by omega)]; exact h3⟩
theorem IS.keep (h : IS w B A is) (hk : ∀ p : Addr, p.block < B → w'.cell? p = w.cell? p) : IS w' B A is := fun hn => by
  obtain ⟨ad, e, hb, hc⟩ := h hn
  refine ⟨ad, e, hb, fun j x hj => ?_⟩
  obtain ⟨h1, h2, h3⟩ := hc j x hj
  exact ⟨(hk _ (by rw [block_of_add]; exact hb)).trans h1, (hk _ (by rw [block_of_add]; exact hb)).trans h2, (hk _ (by rw [block_of_add]; exact hb)).trans h3⟩
theorem IS.more (h : IS w B A is) (hB : B ≤ B') : IS w B' A is := fun hn => by
  obtain ⟨ad, e, hb, hc⟩ := h hn
  exact ⟨ad, e, by omega, hc⟩
theorem IS.below (h : IS w B A is) (hb : Below B w w') : IS w' B A is := h.keep fun _ hp => hb.cell hp
end

/-- The slice value '.slice A ps.length _' reads, in world w and below block B, as the pieces. -/
def PS (w : World) (B : Nat) (A : Option Addr) (ps : List Piece) : Prop :=
  0 < ps.length → ∃ ad, A = some ad ∧ ad.block < B ∧ ∀ j p, ps[j]? = some p → w.cell? (ad.add (j * 2)) = some (.int .u64 (p.1 : Int)) ∧ ∃ A' c', w.cell? (ad.add (j * 2 + 1)) = some (.slice A' p.2.length c') ∧ p.2.length ≤ c' ∧ BS w B A' p.2
section
variable {w w' : World} {B B' : Nat} {A : Option Addr} {ps : List Piece}
theorem PS.at_ {k : Nat} (h : PS w B A ps) (hk : k < ps.length) : ∃ ad A' c', A = some ad ∧ ad.block < B ∧ w.cell? (ad.add (k * 2)) = some (.int .u64 (ps[k].1 : Int)) ∧ w.cell? (ad.add (k * 2 + 1)) = some (.slice A' ps[k].2.length c') ∧ ps[k].2.length ≤ c' ∧ BS w B A' ps[k].2 := by
  obtain ⟨ad, e, hb, hc⟩ := h (by omega)
  obtain ⟨h1, A', c', h2, h3, h4⟩ := hc k _ (List.getElem?_eq_getElem hk)
  exact ⟨ad, A', c', e, hb, h1, h2, h3, h4⟩
/-- The cells of one piece, as a load of the whole piece spells them. -/
theorem PS.whole {k : Nat} (h : PS w B A ps) (hk : k < ps.length) : ∃ ad A' c', A = some ad ∧ ad.block < B ∧ w.cell? (ad.add (k * 2)) = some (.int .u64 (ps[k].1 : Int)) ∧ w.cell? ⟨(ad.add (k * 2)).block, (ad.add (k * 2)).off + 1, none⟩ = some (.slice A' ps[k].2.length c') ∧ ps[k].2.length ≤ c' ∧ BS w B A' ps[k].2 := by
  obtain ⟨ad, A', c', e, hb, h1, h2, h3⟩ := h.at_ hk
  exact ⟨ad, A', c', e, hb, h1, by rw [addr_next _ _ _ (by omega)]; exact h2, h3⟩
theorem PS.keep (h : PS w B A ps) (hk : ∀ p : Addr, p.block < B → w'.cell? p = w.cell? p) : PS w' B A ps := fun hn => by
  obtain ⟨ad, e, hb, hc⟩ := h hn
  refine ⟨ad, e, hb, fun j p hj => ?_⟩
  obtain ⟨h1, A', c', h2, h3, h4⟩ := hc j p hj
  exact ⟨(hk _ (by rw [block_of_add]; exact hb)).trans h1, A', c', (hk _ (by rw [block_of_add]; exact hb)).trans h2, h3, h4.keep hk⟩
theorem PS.more (h : PS w B A ps) (hB : B ≤ B') : PS w B' A ps := fun hn => by
  obtain ⟨ad, e, hb, hc⟩ := h hn
  refine ⟨ad, e, by omega, fun j p hj => ?_⟩
  obtain ⟨h1, A', c', h2, h3, h4⟩ := hc j p hj
  exact ⟨h1, A', c', h2, h3, h4.more hB⟩
theorem PS.below (h : PS w B A ps) (hb : Below B w w') : PS w' B A ps := h.keep fun _ hp => hb.cell hp
end

/-- The row of pieces '.slice A ps.length c' (elements of type eT) and each of their texts (bytes of type eB) are the call's own, from block base on. -/
def POwn (eT eB : TypeId) (w : World) (base : Nat) (A : Option Addr) (c : Nat) (ps : List Piece) : Prop :=
  ∃ vs : List Value, w.ownsRow base eT 2 (Value.slice A ps.length c) ps.length vs ∧ ∀ (j : Nat) (p : Piece), ps[j]? = some p → vs[j * 2]? = some (.int .u64 (p.1 : Int)) ∧ ∃ (A' : Option Addr) (c' : Nat), vs[j * 2 + 1]? = some (Value.slice A' p.2.length c') ∧ w.ownsRow base eB 1 (Value.slice A' p.2.length c') p.2.length (bcells p.2)
section
variable {eT eB : TypeId} {w w' : World} {base : Nat} {A : Option Addr} {c : Nat} {ps : List Piece}
theorem POwn.nil (eT eB : TypeId) (w : World) (base : Nat) : POwn eT eB w base none 0 [] := ⟨[], World.ownsRow_nil _ _ _ _, fun j l h => by simp at h⟩
theorem POwn.keep (h : POwn eT eB w base A c ps) (hk : ∀ {e : TypeId} {size n : Nat} {v : Value} {xs : List Value}, e = eT ∨ e = eB → w.ownsRow base e size v n xs → w'.ownsRow base e size v n xs) : POwn eT eB w' base A c ps := by
  obtain ⟨vs, h1, h2⟩ := h
  refine ⟨vs, hk (.inl rfl) h1, fun j p hj => ?_⟩
  obtain ⟨e0, A', c', e1, e2⟩ := h2 j p hj
  exact ⟨e0, A', c', e1, hk (.inr rfl) e2⟩
theorem POwn.below (h : POwn eT eB w base A c ps) (hb : Below w.heap.size w w') : POwn eT eB w' base A c ps := h.keep fun _ ho => own_below ho hb
theorem POwn.lt (h : POwn eT eB w base A c ps) {n g : Nat} (hg : (Value.slice A n c).ownBlock = some g) : base ≤ g := by
  obtain ⟨vs, h1, _⟩ := h
  have hg' : (Value.slice A ps.length c).ownBlock = some g := by cases A <;> exact hg
  exact (h1.lt g hg').1
theorem POwn.le (h : POwn eT eB w base A c ps) : ps.length ≤ c := by
  obtain ⟨vs, h1, _⟩ := h
  obtain ⟨_, _, e3, h3, _⟩ := own_slice h1
  injection e3 with _ _ e4
  omega
theorem POwn.head (h : POwn eT eB w base A c ps) (hp : 0 < ps.length) : ∃ k, A = some ⟨k, 0, none⟩ ∧ base ≤ k ∧ k < w.heap.size := by
  obtain ⟨vs, h1, h2⟩ := h
  obtain ⟨g, cap, hv, hb, hlt⟩ := h1.form hp
  exact ⟨g, by injection hv, hb, hlt⟩
theorem POwn.to_PS (h : POwn eT eB w base A c ps) : PS w w.heap.size A ps := fun hp => by
  obtain ⟨vs, h1, h2⟩ := h
  obtain ⟨g, cap, hv, _, hlt⟩ := h1.form hp
  have hA : A = some ⟨g, 0, none⟩ := by injection hv
  subst hA
  refine ⟨_, rfl, hlt, fun j p hj => ?_⟩
  obtain ⟨e0, A', c', e1, e2⟩ := h2 j p hj
  refine ⟨h1.cells (g := g) rfl _ _ e0, A', c', h1.cells (g := g) rfl _ _ e1, ?_, (BS.of_own e2).1⟩
  obtain ⟨_, _, e3, h3, _⟩ := own_slice e2
  injection e3 with _ _ e4
  omega
end

section
variable {P : Program} (w : World)
/-- 'append(out, p)', p a piece of the call's own, out a row of such. -/
theorem run_append_piece (base : Nat) (t ty eT eB : TypeId) (hne : eB ≠ eT) (i : TypeInfo) (z : Value) (bytes : Nat) (ht : P.underlying t = some (.slice eT)) (hi : P.info? eT = some i) (hz : i.zero = some z)
    (hsize : i.size = 2) (hby : i.bytes = bytes) (hzs : z.cells.size = 2)
    (A : Option Addr) (c : Nat) (ps : List Piece) (p : Piece) (A1 : Option Addr) (c1 : Nat) (ad : Addr)
    (hc0 : w.cell? ad = some (.int .u64 (p.1 : Int))) (hc1 : w.cell? (ad.add 1) = some (.slice A1 p.2.length c1)) (hown : POwn eT eB w base A c ps) (hel : w.ownsRow base eB 1 (.slice A1 p.2.length c1) p.2.length (bcells p.2))
    (h63 : ps.length + 1 ≤ maxLen) (hbytes : (ps.length + 1) * bytes ≤ 140737488355328) (hbase : base ≤ w.heap.size) :
    ∃ A' c' w', (Builtin.append_ #[t, t] ty #[.slice A ps.length c, .slice (some ad) 1 1]).run P w = .ok (.slice A' (ps.length + 1) c') w' ∧ POwn eT eB w' base A' c' (ps ++ [p]) ∧ w.grownBy w' (Value.slice A ps.length c).ownBlock ∧
      ((Value.slice A' (ps.length + 1) c').ownBlock = (Value.slice A ps.length c).ownBlock ∨ (Value.slice A' (ps.length + 1) c').ownBlock = some w.heap.size) := by
  obtain ⟨vs, h1, h2⟩ := hown
  have hvl : vs.length = ps.length * 2 := h1.1
  obtain ⟨v', w', hrun, hown', hg, _, hob⟩ := run_append_own_at (P := P) w base t ty eT i z 2 bytes ht hi hz hsize hby hzs (by omega) (.slice A ps.length c) ps.length vs h1 ad 1 1 [.int .u64 (p.1 : Int), .slice A1 p.2.length c1] rfl
    (fun j u hj => by
      match j, hj with
      | 0, hj =>
        simp at hj
        subst hj
        simpa [Addr.add] using hc0
      | 1, hj =>
        simp at hj
        subst hj
        exact hc1) (by simp [Value.oneCell']) h63 hbytes hbase
  obtain ⟨A', c', rfl, _⟩ := own_slice hown'
  refine ⟨A', c', w', hrun, ⟨vs ++ [.int .u64 (p.1 : Int), .slice A1 p.2.length c1], by simpa using hown', fun j u hj => ?_⟩, hg, hob⟩
  have hkeep : ∀ {n : Nat} {v : Value} {xs : List Value}, w.ownsRow base eB 1 v n xs → w'.ownsRow base eB 1 v n xs := fun hh => hh.kept hg (own_types_ne hh h1 hne)
  rw [List.getElem?_append] at hj
  split at hj
  · rename_i hjl
    obtain ⟨e0, A2, c2, e1, e2⟩ := h2 j u hj
    exact ⟨by rw [List.getElem?_append_left (by omega)]; exact e0, A2, c2, by rw [List.getElem?_append_left (by omega)]; exact e1, hkeep e2⟩
  · rename_i hjl
    have hj0 : j - ps.length = 0 := by
      rcases Nat.eq_zero_or_pos (j - ps.length) with h0 | h0
      · exact h0
      · rw [List.getElem?_eq_none (by simp; omega)] at hj
        cases hj
    have hj1 : j = ps.length := by omega
    rw [hj0] at hj
    simp at hj
    subst hj hj1
    refine ⟨by rw [List.getElem?_append_right (by omega), hvl, Nat.sub_self]; rfl, A1, c1, by rw [List.getElem?_append_right (by omega), hvl, show ps.length * 2 + 1 - ps.length * 2 = 1 by omega]; rfl, hkeep hel⟩

theorem step_append_piece {ops : Array Oper} {o : Oper} {a : Act} {K : Act → World → Prop} {Q : Exit → Act → World → Prop} {E : Prop} (hgd : o.guard = none) (s x : Operand) (t : TypeId)
    (ho : o.op = .call { callee := .builtin .append, args := #[s, x], argTypes := #[t, t] })
    (base eT eB : Nat) (hne : eB ≠ eT) (i : TypeInfo) (z : Value) (bytes : Nat) (ht : P.underlying t = some (.slice eT)) (hi : P.info? eT = some i) (hz : i.zero = some z)
    (hsize : i.size = 2) (hby : i.bytes = bytes) (hzs : z.cells.size = 2)
    (A : Option Addr) (c : Nat) (ps : List Piece) (p : Piece) (A1 : Option Addr) (c1 : Nat) (hs : a.eval s = .slice A ps.length c) (ad : Addr) (hx : a.eval x = .slice (some ad) 1 1)
    (hc0 : w.cell? ad = some (.int .u64 (p.1 : Int))) (hc1 : w.cell? (ad.add 1) = some (.slice A1 p.2.length c1)) (hown : POwn eT eB w base A c ps) (hel : w.ownsRow base eB 1 (.slice A1 p.2.length c1) p.2.length (bcells p.2))
    (h63 : ps.length + 1 ≤ maxLen) (hbytes : (ps.length + 1) * bytes ≤ 140737488355328) (hbase : base ≤ w.heap.size)
    (h : ∀ A' c' w', POwn eT eB w' base A' c' (ps ++ [p]) → w.grownBy w' (Value.slice A ps.length c).ownBlock → ((Value.slice A' (ps.length + 1) c').ownBlock = (Value.slice A ps.length c).ownBlock ∨ (Value.slice A' (ps.length + 1) c').ownBlock = some w.heap.size) → K (a.put o.dst (.slice A' (ps.length + 1) c')) w') :
    if Region.wanted o (yielded ops a.tmps) = true then Oper.wp P o a w K Q else E := by
  have hw : Region.wanted o (yielded ops a.tmps) = true := by simp [Region.wanted, hgd]
  rw [if_pos hw]
  obtain ⟨A', c', w', hrun, h2, h3, h4⟩ := run_append_piece (P := P) w base t o.type eT eB hne i z bytes ht hi hz hsize hby hzs A c ps p A1 c1 ad hc0 hc1 hown hel h63 hbytes hbase
  unfold Oper.wp execOp
  simp only [ho, resolve, invoke, builtin, Sem.run_bind, Sem.run_pure, Result.andThen_ok, List.map_toArray, List.map_cons, List.map_nil, hs, hx, hrun]
  exact h A' c' w' h2 h3 h4
end
end Go.Proofs.Ytpeknjbcjpdmnab
