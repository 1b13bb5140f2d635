/- Words for memory: a slice of slices of bytes that the call has made itself, its texts too. No program in sight. -/
import Derived.Test.YtpeknjbcjpdmnabLists
namespace Go.Proofs.Ytpeknjbcjpdmnab
open Go.RowKit

/-- The row '.slice A ls.length c' (elements of type eT) and each of its texts (bytes of type eB) are the call's own, from block base on. -/
def LOwn (eT eB : TypeId) (w : World) (base : Nat) (A : Option Addr) (c : Nat) (ls : List (List UInt8)) : Prop :=
  ∃ vs : List Value, w.ownsRow base eT 1 (Value.slice A ls.length c) ls.length vs ∧ ∀ (j : Nat) (l : List UInt8), ls[j]? = some l → ∃ (A' : Option Addr) (c' : Nat), vs[j]? = some (Value.slice A' l.length c') ∧ w.ownsRow base eB 1 (Value.slice A' l.length c') l.length (bcells l)

theorem own_types_ne {w : World} {b b' : Nat} {e e' : TypeId} {s s' n n' : Nat} {v v' : Value} {xs xs' : List Value} (h : w.ownsRow b e s v n xs) (h' : w.ownsRow b' e' s' v' n' xs') (hne : e ≠ e') : v.ownBlock = none ∨ v.ownBlock ≠ v'.ownBlock := by
  rcases h.2 with ⟨rfl, _⟩ | ⟨g, cap, cur, rfl, _, hh, _⟩
  · exact .inl rfl
  · right
    rcases h'.2 with ⟨rfl, _⟩ | ⟨g', cap', cur', rfl, _, hh', _⟩
    · simp [Value.ownBlock]
    · intro e1
      have : g = g' := by simpa [Value.ownBlock] using e1
      subst this
      rw [hh] at hh'
      injection hh' with hh'
      injection hh' with _ ht
      exact hne ht

section
variable {eT eB : TypeId} {w w' : World} {base : Nat} {A : Option Addr} {c : Nat} {ls : List (List UInt8)}
theorem LOwn.nil (eT eB : TypeId) (w : World) (base : Nat) : LOwn eT eB w base none 0 [] := ⟨[], World.ownsRow_nil _ _ _ _, fun j l h => by simp at h⟩
theorem LOwn.below (h : LOwn eT eB w base A c ls) (hb : Below w.heap.size w w') : LOwn eT eB w' base A c ls := by
  obtain ⟨vs, h1, h2⟩ := h
  refine ⟨vs, own_below h1 hb, fun j l hj => ?_⟩
  obtain ⟨A', c', e1, e2⟩ := h2 j l hj
  exact ⟨A', c', e1, own_below e2 hb⟩
theorem LOwn.lt (h : LOwn eT eB w base A c ls) {n g : Nat} (hg : (Value.slice A n c).ownBlock = some g) : base ≤ g := by
  obtain ⟨vs, h1, _⟩ := h
  have hg' : (Value.slice A ls.length c).ownBlock = some g := by cases A <;> exact hg
  exact (h1.lt g hg').1
theorem LOwn.to_LS (h : LOwn eT eB w base A c ls) : LS w w.heap.size A ls := fun hp => by
  obtain ⟨vs, h1, h2⟩ := h
  obtain ⟨g, cap, hv, _, hlt⟩ := h1.form hp
  have hA : A = some ⟨g, 0, none⟩ := by injection hv
  subst hA
  refine ⟨_, rfl, hlt, fun j l hj => ?_⟩
  obtain ⟨A', c', e1, e2⟩ := h2 j l hj
  refine ⟨A', c', h1.cells (g := g) rfl j _ e1, ?_, (BS.of_own e2).1⟩
  obtain ⟨_, _, e3, h3, _⟩ := own_slice e2
  injection e3 with _ _ e4
  omega
end

section
variable {P : Program} (w : World)
/-- 'out = append(out, x)', x a text of the call's own, out a row of such. -/
theorem wpList_append_list {ops : Array Oper} {rest : List Oper} {o : Oper} {a : Act} {Q : Exit → Act → World → Prop} (hgd : o.guard = none) (s x : Operand) (t : TypeId)
    (ho : o.op = .call { callee := .builtin .append, args := #[s, x], argTypes := #[t, t] })
    (base : Nat) (eT eB : TypeId) (hne : eB ≠ eT) (i : TypeInfo) (z : Value) (bytes : Nat) (ht : P.underlying t = some (.slice eT)) (hi : P.info? eT = some i) (hz : i.zero = some z)
    (hsize : i.size = 1) (hby : i.bytes = bytes) (hzs : z.cells.size = 1)
    (A : Option Addr) (c : Nat) (ls : List (List UInt8)) (l : List UInt8) (A1 : Option Addr) (c1 : Nat) (hs : a.eval s = .slice A ls.length c) (ad : Addr) (hx : a.eval x = .slice (some ad) 1 1)
    (hcell : w.cell? ad = some (.slice A1 l.length c1)) (hown : LOwn eT eB w base A c ls) (hel : w.ownsRow base eB 1 (.slice A1 l.length c1) l.length (bcells l))
    (h63 : ls.length + 1 ≤ maxLen) (hbytes : (ls.length + 1) * bytes ≤ 140737488355328) (hbase : base ≤ w.heap.size)
    (h : ∀ A' c' w', LOwn eT eB w' base A' c' (ls ++ [l]) → w.grownBy w' (Value.slice A ls.length c).ownBlock → wpList P ops Q rest (a.put o.dst (.slice A' (ls.length + 1) c')) w') : wpList P ops Q (o :: rest) a w := by
  obtain ⟨vs, h1, h2⟩ := hown
  have hvl : vs.length = ls.length := by have := h1.1; omega
  refine wpList_append_own_at w hgd s x t ho base eT i z 1 bytes ht hi hz hsize hby hzs (by omega) (.slice A ls.length c) ls.length vs hs h1 ad 1 1 [.slice A1 l.length c1] hx rfl
    (fun j u hj => by
      match j, hj with
      | 0, hj =>
        simp at hj
        subst hj
        simpa [Addr.add] using hcell) (by simp [Value.oneCell']) h63 hbytes hbase ?_
  intro v' w' hown' hg _ _
  obtain ⟨A', c', rfl, _⟩ := own_slice hown'
  refine h A' c' w' ⟨vs ++ [.slice A1 l.length c1], by simpa using hown', fun j u hj => ?_⟩ hg
  have hkeep : ∀ {n : Nat} {v : Value} {xs : List Value}, w.ownsRow base eB 1 v n xs → w'.ownsRow base eB 1 v n xs := fun hh => hh.kept hg (own_types_ne hh h1 hne)
  rw [List.getElem?_append] at hj
  split at hj
  · rename_i hjl
    obtain ⟨A2, c2, e1, e2⟩ := h2 j u hj
    exact ⟨A2, c2, by rw [List.getElem?_append_left (by omega)]; exact e1, hkeep e2⟩
  · rename_i hjl
    have hj0 : j - ls.length = 0 := by
      rcases Nat.eq_zero_or_pos (j - ls.length) with h0 | h0
      · exact h0
      · rw [List.getElem?_eq_none (by simp; omega)] at hj
        cases hj
    rw [hj0] at hj
    simp at hj
    subst hj
    exact ⟨A1, c1, by rw [List.getElem?_append_right (by omega), hvl, hj0]; rfl, hkeep hel⟩
end
end Go.Proofs.Ytpeknjbcjpdmnab
