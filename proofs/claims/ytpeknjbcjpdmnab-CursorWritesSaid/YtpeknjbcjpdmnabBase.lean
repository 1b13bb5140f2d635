/- Words for memory, used by all walks of this seat: a []byte that reads as a list of bytes ('BS'), an append of such bytes onto a row of the call's own, and small number facts. No program in sight. -/
import Derived.Below
import Derived.Laws.OwnMore
import Derived.Deep.AppendLies
import Derived.Deep.Draws
import Derived.Maps.AppendAt
import Derived.RegionTactic
import Derived.OwnWalk
import Derived.Laws.MakeOwn
import Derived.Laws.Bits64b
import Derived.Laws.BitsLemmas
import Derived.Lib.Hide
import Derived.Laws.BytesArg
import Derived.Laws.Rows
namespace Go.Proofs.Ytpeknjbcjpdmnab
open Go.RowKit

def u8v (c : UInt8) : Value := .int .u8 (c.toNat : Int)
def bcells (l : List UInt8) : List Value := l.map u8v
theorem bcells_length (l : List UInt8) : (bcells l).length = l.length := by simp [bcells]
theorem bcells_append (l m : List UInt8) : bcells (l ++ m) = bcells l ++ bcells m := by simp [bcells]
theorem bcells_one (l : List UInt8) : ∀ u ∈ bcells l, u.oneCell' = true := by
  intro u hu
  simp only [bcells, List.mem_map] at hu
  obtain ⟨c, _, rfl⟩ := hu
  rfl
theorem u8v_inj {a b : UInt8} (h : u8v a = u8v b) : a = b := by
  simp only [u8v, Value.int.injEq, true_and] at h
  exact UInt8.toNat.inj (by omega)
theorem bcells_inj : ∀ {l m : List UInt8}, bcells l = bcells m → l = m
  | [], [], _ => rfl
  | [], _ :: _, h => by simp [bcells] at h
  | _ :: _, [], h => by simp [bcells] at h
  | a :: l, b :: m, h => by
    simp only [bcells, List.map_cons, List.cons.injEq] at h
    rw [u8v_inj h.1, bcells_inj (l := l) (m := m) h.2]

theorem block_of_add (a : Addr) (n : Nat) : (a.add n).block = a.block := by unfold Addr.add; split <;> rfl
theorem add_of_add (a : Addr) (i j : Nat) : (a.add i).add j = a.add (i + j) := by
  unfold Addr.add
  by_cases hi : i = 0 <;> by_cases hj : j = 0 <;> simp [hi, hj, Nat.add_assoc]

/-- The slice value '.slice A l.length _' reads, in world w and below block B, as the bytes l. -/
def BS (w : World) (B : Nat) (A : Option Addr) (l : List UInt8) : Prop :=
  0 < l.length → ∃ ad, A = some ad ∧ ad.block < B ∧ ∀ j c, l[j]? = some c → w.cell? (ad.add j) = some (u8v c)

section
variable {w w' : World} {B B' : Nat} {A : Option Addr} {l : List UInt8}
theorem BS.nil (w : World) (B : Nat) (A : Option Addr) : BS w B A [] := fun h => absurd h (by simp)
theorem BS.at_ {k : Nat} (h : BS w B A l) (hk : k < l.length) : ∃ ad, A = some ad ∧ ad.block < B ∧ w.cell? (ad.add k) = some (.int .u8 ((l[k]).toNat : Int)) := by
  obtain ⟨ad, e, hb, hc⟩ := h (by omega)
  exact ⟨ad, e, hb, hc k _ (List.getElem?_eq_getElem hk)⟩
theorem BS.keep (h : BS w B A l) (hk : ∀ p : Addr, p.block < B → w'.cell? p = w.cell? p) : BS w' B A l := fun hn => by
  obtain ⟨ad, e, hb, hc⟩ := h hn
  exact ⟨ad, e, hb, fun j u hu => (hk _ (by rw [block_of_add]; exact hb)).trans (hc j u hu)⟩
theorem BS.more (h : BS w B A l) (hB : B ≤ B') : BS w B' A l := fun hn => by
  obtain ⟨ad, e, hb, hc⟩ := h hn
  exact ⟨ad, e, by omega, hc⟩
theorem BS.below (h : BS w B A l) (hb : Below B w w') : BS w' B A l := h.keep fun _ hp => hb.cell hp
theorem BS.drew (h : BS w B A l) : BS w.drew B A l := h
theorem BS.drewN (h : BS w B A l) (k : Nat) : BS (w.drewN k) B A l := h
theorem BS.alloc (h : BS w B A l) (hB : B ≤ w.heap.size) (o : Obj) : BS (w.alloc o) B A l := h.keep fun p hp => World.cell?_alloc_lt w o p (by omega)
theorem BS.setCell (h : BS w B A l) {p : Addr} (hB : B ≤ p.block) (u : Value) : BS (w.setCell p u) B A l :=
  h.keep fun q hq => World.cell?_setCell_other w p q u (fun e => by subst e; omega)
theorem BS.grown (h : BS w B A l) {row : Option Nat} (hg : w.grownBy w' row) (hB : B ≤ w.heap.size) (hr : ∀ g, row = some g → B ≤ g) : BS w' B A l :=
  h.keep fun p hp => World.cell?_of_block (hg.block p.block (by omega) (fun e => by have := hr _ e.symm; omega))
/-- 's[k:]': where k is the capacity the address stays. -/
theorem BS.drop (h : BS w B A l) {k cap : Nat} (hc : l.length ≤ cap) :
    BS w B (if cap = k then A else A.map (·.add k)) (l.drop k) := fun hn => by
  rw [List.length_drop] at hn
  obtain ⟨ad, rfl, hb, hcell⟩ := h (by omega)
  rw [if_neg (by omega)]
  refine ⟨ad.add k, rfl, by rw [block_of_add]; exact hb, fun j u hu => ?_⟩
  rw [add_of_add]
  exact hcell _ u (by rw [← hu, List.getElem?_drop])
theorem BS.take (h : BS w B A l) (k : Nat) : BS w B A (l.take k) := fun hn => by
  rw [List.length_take] at hn
  obtain ⟨ad, rfl, hb, hcell⟩ := h (by omega)
  refine ⟨ad, rfl, hb, fun j u hu => ?_⟩
  rw [List.getElem?_take] at hu
  split at hu
  · exact hcell j u hu
  · cases hu
theorem BS.of_own {base : Nat} {e : TypeId} {c n : Nat} (h : w.ownsRow base e 1 (.slice A n c) n (bcells l)) : BS w w.heap.size A l ∧ n = l.length := by
  have hn : n = l.length := by have := h.1; rw [bcells_length] at this; omega
  refine ⟨fun hp => ?_, hn⟩
  obtain ⟨g, cap, hv, _, hlt⟩ := h.form (by omega)
  have hA : A = some ⟨g, 0, none⟩ := by injection hv
  subst hA
  exact ⟨_, rfl, hlt, fun j c hj => h.cells (g := g) rfl j (u8v c) (by rw [bcells, List.getElem?_map, hj]; rfl)⟩
end

theorem bthen {a w w' : World} (h : Below a.heap.size a w) (k : Below w.heap.size w w') : Below a.heap.size a w' := h.trans (k.mono h.size)
theorem balloc {a w : World} (h : Below a.heap.size a w) (o : Obj) : Below a.heap.size a (w.alloc o) := h.alloc h.size o

/-- A slice of the call's own, whatever is in it: its value is a slice value of that length. -/
theorem own_slice {w : World} {base : Nat} {e : TypeId} {size n : Nat} {v : Value} {xs : List Value} (h : w.ownsRow base e size v n xs) : ∃ A c, v = .slice A n c ∧ n ≤ c ∧ c ≤ maxLen := by
  rcases h.2 with ⟨rfl, rfl⟩ | ⟨g, cap, _, rfl, _, _, hc, hm, _⟩
  · exact ⟨none, 0, rfl, Nat.le_refl _, by unfold maxLen; omega⟩
  · exact ⟨_, cap, rfl, hc, hm⟩

section
variable {P : Program} (w : World)

theorem run_append_of_nil (base : Nat) (t ty e : TypeId) (i : TypeInfo) (size : Nat) (ht : P.underlying t = some (.slice e)) (hi : P.info? e = some i)
    (v : Value) (n : Nat) (xs : List Value) (hown : w.ownsRow base e size v n xs) (c : Nat) : (Builtin.append_ #[t, t] ty #[v, .slice none 0 c]).run P w = .ok v w := by
  rcases hown.2 with ⟨rfl, rfl⟩ | ⟨g, cap, cur, rfl, _, _, hnc, _⟩
  · simp [Builtin.append_, run_underlying ht, sizeOf, typeInfo, hi, Builtin.lenOf, Builtin.firstCells]
  · simp [Builtin.append_, run_underlying ht, sizeOf, typeInfo, hi, Builtin.lenOf, Builtin.firstCells, hnc, storeCells]

/-- 'append(v, s...)': v a row of bytes of the call's own, s whatever reads as the bytes m. -/
theorem run_append_bytes (base : Nat) (t ty e : TypeId) (i : TypeInfo) (z : Value) (bytes : Nat) (ht : P.underlying t = some (.slice e)) (hi : P.info? e = some i) (hz : i.zero = some z)
    (hsize : i.size = 1) (hby : i.bytes = bytes) (hzs : z.cells.size = 1)
    (v : Value) (l : List UInt8) (hown : w.ownsRow base e 1 v l.length (bcells l))
    (B : Nat) (A : Option Addr) (c : Nat) (m : List UInt8) (hr : BS w B A m)
    (h63 : l.length + m.length ≤ maxLen) (hbytes : (l.length + m.length) * bytes ≤ 140737488355328) (hbase : base ≤ w.heap.size) :
    ∃ v' w', (Builtin.append_ #[t, t] ty #[v, .slice A m.length c]).run P w = .ok v' w' ∧ w'.ownsRow base e 1 v' (l ++ m).length (bcells (l ++ m)) ∧ w.grownBy w' v.ownBlock ∧
      (v'.ownBlock = v.ownBlock ∨ v'.ownBlock = some w.heap.size) := by
  have hlen : (l ++ m).length = l.length + m.length := List.length_append
  have hcs : bcells (l ++ m) = bcells l ++ bcells m := bcells_append l m
  rw [hlen, hcs]
  rcases A with _ | ad
  · have hm : m = [] := by
      rcases m with _ | ⟨a, m⟩
      · rfl
      · obtain ⟨ad, h, _⟩ := hr (by simp)
        cases h
    subst hm
    exact ⟨v, w, run_append_of_nil w base t ty e i 1 ht hi v _ _ hown c, by simpa [bcells] using hown, World.grownBy.refl w _, .inl rfl⟩
  · have hcells : ∀ j u, (bcells m)[j]? = some u → w.cell? (ad.add j) = some u := by
      intro j u hu
      rcases Nat.eq_zero_or_pos m.length with h0 | h0
      · have hn : m = [] := List.eq_nil_of_length_eq_zero h0
        subst hn
        simp [bcells] at hu
      · obtain ⟨ad', h, _, hc⟩ := hr h0
        injection h with h
        subst h
        rw [bcells, List.getElem?_map] at hu
        rcases hm : m[j]? with _ | x
        · rw [hm] at hu; cases hu
        · rw [hm] at hu
          simp only [Option.map_some, Option.some.injEq] at hu
          rw [← hu]
          exact hc j x hm
    obtain ⟨v', w', hrun, h2, h3, _, h5⟩ := run_append_own_at (P := P) w base t ty e i z 1 bytes ht hi hz hsize hby hzs (by omega) v _ _ hown ad m.length c (bcells m) (by rw [bcells_length]; omega) hcells (bcells_one m) h63 hbytes hbase
    exact ⟨v', w', hrun, h2, h3, h5⟩

theorem wp_append_bytes {o : Oper} {a : Act} {K : Act → World → Prop} {Q : Exit → Act → World → Prop} (s x : Operand) (t : TypeId)
    (ho : o.op = .call { callee := .builtin .append, args := #[s, x], argTypes := #[t, t] })
    (base : Nat) (e : TypeId) (i : TypeInfo) (z : Value) (bytes : Nat) (ht : P.underlying t = some (.slice e)) (hi : P.info? e = some i) (hz : i.zero = some z)
    (hsize : i.size = 1) (hby : i.bytes = bytes) (hzs : z.cells.size = 1)
    (v : Value) (l : List UInt8) (hs : a.eval s = v) (hown : w.ownsRow base e 1 v l.length (bcells l))
    (B : Nat) (A : Option Addr) (n c : Nat) (m : List UInt8) (hx : a.eval x = .slice A n c) (hn : n = m.length) (hr : BS w B A m)
    (h63 : l.length + m.length ≤ maxLen) (hbytes : (l.length + m.length) * bytes ≤ 140737488355328) (hbase : base ≤ w.heap.size)
    (h : ∀ A' c' w', w'.ownsRow base e 1 (.slice A' (l ++ m).length c') (l ++ m).length (bcells (l ++ m)) → w.grownBy w' v.ownBlock → ((Value.slice A' (l ++ m).length c').ownBlock = v.ownBlock ∨ (Value.slice A' (l ++ m).length c').ownBlock = some w.heap.size) → K (a.put o.dst (.slice A' (l ++ m).length c')) w') : o.wp P a w K Q := by
  subst hn
  obtain ⟨v', w', hrun, h2, h3, h4⟩ := run_append_bytes (P := P) w base t o.type e i z bytes ht hi hz hsize hby hzs v l hown B A c m hr h63 hbytes hbase
  unfold Oper.wp execOp
  simp only [ho, resolve, invoke, builtin, Sem.run_bind, Sem.run_pure, Result.andThen_ok, List.map_toArray, List.map_cons, List.map_nil, hs, hx, hrun]
  obtain ⟨A', c', rfl, _⟩ := own_slice h2
  exact h A' c' w' h2 h3 h4

theorem wpList_append_bytes {ops : Array Oper} {rest : List Oper} {o : Oper} {a : Act} {Q : Exit → Act → World → Prop} (hgd : o.guard = none) (s x : Operand) (t : TypeId)
    (ho : o.op = .call { callee := .builtin .append, args := #[s, x], argTypes := #[t, t] })
    (base : Nat) (e : TypeId) (i : TypeInfo) (z : Value) (bytes : Nat) (ht : P.underlying t = some (.slice e)) (hi : P.info? e = some i) (hz : i.zero = some z)
    (hsize : i.size = 1) (hby : i.bytes = bytes) (hzs : z.cells.size = 1)
    (v : Value) (l : List UInt8) (hs : a.eval s = v) (hown : w.ownsRow base e 1 v l.length (bcells l))
    (B : Nat) (A : Option Addr) (n c : Nat) (m : List UInt8) (hx : a.eval x = .slice A n c) (hn : n = m.length) (hr : BS w B A m)
    (h63 : l.length + m.length ≤ maxLen) (hbytes : (l.length + m.length) * bytes ≤ 140737488355328) (hbase : base ≤ w.heap.size)
    (h : ∀ A' c' w', w'.ownsRow base e 1 (.slice A' (l ++ m).length c') (l ++ m).length (bcells (l ++ m)) → w.grownBy w' v.ownBlock → ((Value.slice A' (l ++ m).length c').ownBlock = v.ownBlock ∨ (Value.slice A' (l ++ m).length c').ownBlock = some w.heap.size) → wpList P ops Q rest (a.put o.dst (.slice A' (l ++ m).length c')) w') : wpList P ops Q (o :: rest) a w :=
  wpList_plain hgd fun _ hK => wp_append_bytes w s x t ho base e i z bytes ht hi hz hsize hby hzs v l hs hown B A n c m hx hn hr h63 hbytes hbase fun A' c' w' h2 h3 h4 => hK _ _ (h A' c' w' h2 h3 h4)
end

section
variable {P : Program} (w : World)
theorem step_append_bytes {ops : Array Oper} {o : Oper} {a : Act} {K : Act → World → Prop} {Q : Exit → Act → World → Prop} {E : Prop} (hgd : o.guard = none) (s x : Operand) (t : TypeId)
    (ho : o.op = .call { callee := .builtin .append, args := #[s, x], argTypes := #[t, t] })
    (base : Nat) (e : TypeId) (i : TypeInfo) (z : Value) (bytes : Nat) (ht : P.underlying t = some (.slice e)) (hi : P.info? e = some i) (hz : i.zero = some z)
    (hsize : i.size = 1) (hby : i.bytes = bytes) (hzs : z.cells.size = 1)
    (v : Value) (l : List UInt8) (hs : a.eval s = v) (hown : w.ownsRow base e 1 v l.length (bcells l))
    (B : Nat) (A : Option Addr) (n c : Nat) (m : List UInt8) (hx : a.eval x = .slice A n c) (hn : n = m.length) (hr : BS w B A m)
    (h63 : l.length + m.length ≤ maxLen) (hbytes : (l.length + m.length) * bytes ≤ 140737488355328) (hbase : base ≤ w.heap.size)
    (h : ∀ A' c' w', w'.ownsRow base e 1 (.slice A' (l ++ m).length c') (l ++ m).length (bcells (l ++ m)) → w.grownBy w' v.ownBlock → ((Value.slice A' (l ++ m).length c').ownBlock = v.ownBlock ∨ (Value.slice A' (l ++ m).length c').ownBlock = some w.heap.size) → K (a.put o.dst (.slice A' (l ++ m).length c')) w') :
    if Region.wanted o (yielded ops a.tmps) = true then Oper.wp P o a w K Q else E := by
  have hw : Region.wanted o (yielded ops a.tmps) = true := by simp [Region.wanted, hgd]
  rw [if_pos hw]
  exact wp_append_bytes w s x t ho base e i z bytes ht hi hz hsize hby hzs v l hs hown B A n c m hx hn hr h63 hbytes hbase h
end

/-- '[]byte{}': nothing, of the call's own. -/
theorem own_none (w : World) (base : Nat) (e : TypeId) (hb : base ≤ w.heap.size) (a : Nat) (ha : w.heap.size = a) : (w.alloc (.cells #[] e)).ownsRow base e 1 (.slice (some ⟨a, 0, none⟩) 0 0) ([] : List UInt8).length (bcells []) := by
  subst ha
  exact World.ownsRow_lit w #[] 0 hb (by unfold maxLen; omega) (by simp)

/-- One new cell, as 'append(v, x)' lays it, reads as one byte. -/
theorem BS.one (w : World) (x : UInt8) (t : TypeId) : BS (w.alloc (.cells #[.int .u8 (x.toNat : Int)] t)) (w.heap.size + 1) (some ⟨w.heap.size, 0, none⟩) [x] := fun _ => by
  refine ⟨_, rfl, Nat.lt_succ_self _, fun j c hj => cell_one_new w (u8v x) t j (u8v c) ?_⟩
  show ([x].map u8v)[j]? = some (u8v c)
  rw [List.getElem?_map, hj]
  rfl

theorem BS.one' (w : World) (x : UInt8) (z : Int) (hz : z = (x.toNat : Int)) (t : TypeId) : BS (w.alloc (.cells #[.int .u8 z] t)) (w.heap.size + 1) (some ⟨w.heap.size, 0, none⟩) [x] := by
  subst hz
  exact BS.one w x t

/-- What the walk is told of a slice of integers that came in. -/
def IsRow (k : IntKind) (w : World) (a : Option Addr) (len cap : Nat) (zs : List Int) : Prop :=
  (a = none ∧ len = 0 ∧ cap = 0 ∧ zs = []) ∨
  ∃ x, a = some x ∧ len ≤ cap ∧ cap ≤ maxLen ∧ zs.length = cap ∧ (∀ i, i < zs.length → w.cell? (x.add i) = some (.int k (zs.getD i 0))) ∧ ∀ n ∈ zs, (Lit.int k n).wf = true

theorem block_lt_of_add {w : World} {x : Addr} {j : Nat} {v : Value} (h : w.cell? (x.add j) = some v) : x.block < w.heap.size := by
  have := World.block_lt_of_cell? w _ h
  rwa [block_of_add] at this

theorem u8_of_wf {n : Int} (h : (Lit.int .u8 n).wf = true) : 0 ≤ n ∧ n ≤ 255 := by
  simp [Lit.wf, IntKind.min, IntKind.max, IntKind.bits, IntKind.signed] at h
  omega

theorem BS.of_row {w : World} {a : Option Addr} {len cap : Nat} {zs : List Int} (h : IsRow .u8 w a len cap zs) :
    ∃ l : List UInt8, l.length = len ∧ len ≤ cap ∧ cap ≤ maxLen ∧ BS w w.heap.size a l := by
  rcases h with ⟨rfl, rfl, rfl, rfl⟩ | ⟨x, rfl, hl, hm, hz, hcell, hwz⟩
  · exact ⟨[], rfl, Nat.le_refl _, by unfold maxLen; omega, BS.nil _ _ _⟩
  · refine ⟨(zs.take len).map fun n => UInt8.ofNat n.toNat, by rw [List.length_map, List.length_take]; omega, hl, hm, fun hp => ⟨x, rfl, ?_, fun j c hj => ?_⟩⟩
    · rw [List.length_map, List.length_take] at hp
      exact block_lt_of_add (hcell 0 (by omega))
    · rw [List.getElem?_map, List.getElem?_take] at hj
      split at hj
      · rename_i hjl
        have hjz : j < zs.length := by omega
        have hgd : zs.getD j 0 = zs[j] := by simp [List.getD, List.getElem?_eq_getElem hjz]
        rw [List.getElem?_eq_getElem hjz] at hj
        simp only [Option.map_some, Option.some.injEq] at hj
        rw [hcell j hjz, hgd, ← hj]
        have hb := u8_of_wf (hwz _ (List.getElem_mem hjz))
        have ht : (UInt8.ofNat (zs[j]).toNat).toNat = (zs[j]).toNat := by
          rw [UInt8.toNat_ofNat']
          exact Nat.mod_eq_of_lt (by omega)
        have hi : (((zs[j]).toNat : Nat) : Int) = zs[j] := Int.toNat_of_nonneg hb.1
        simp only [u8v, ht, hi]
      · cases hj

/-- A literal slice's new block reads as its bytes. -/
theorem BS.lit (w : World) (l : List UInt8) (cs : Array Value) (h : cs = (bcells l).toArray) (t : TypeId) (m : Nat × Nat) : BS (w.alloc (.cells cs t m)) (w.heap.size + 1) (some ⟨w.heap.size, 0, none⟩) l := fun _ => by
  subst h
  refine ⟨_, rfl, Nat.lt_succ_self _, fun j c hj => ?_⟩
  have hp : (⟨w.heap.size, 0, none⟩ : Addr).add j = ⟨w.heap.size, j, none⟩ := by unfold Addr.add; split <;> simp_all
  rw [hp, cell_of_row _ _ j _ t m (heap_alloc_new w _)]
  simp [bcells, hj]

theorem BS.lit' (w : World) (l : List UInt8) (cs : Array Value) (h : cs = (bcells l).toArray) (t : TypeId) (m : Nat × Nat) (a : Nat) (ha : w.heap.size = a) : BS (w.alloc (.cells cs t m)) (a + 1) (some ⟨a, 0, none⟩) l := by
  subst ha
  exact BS.lit w l cs h t m

theorem lit_le {w : World} {o : Obj} {a : Nat} (ha : w.heap.size = a) : a + 1 ≤ (w.alloc o).heap.size := by
  subst ha
  simp

/-- 'string(b)'. -/
theorem run_convert_bs {P : Program} (src dst e : TypeId) (hs : P.underlying src = some (.slice e)) (he : P.underlying e = some (.int .u8)) (hd : P.underlying dst = some .string)
    (w : World) (B : Nat) (A : Option Addr) (l : List UInt8) (hb : BS w B A l) (n c : Nat) (hn : n = l.length) :
    (convert src dst (.slice A n c)).run P w = .ok (.string ⟨l.toArray⟩) w := by
  subst hn
  rcases A with _ | ad
  · have hl : l = [] := by
      rcases l with _ | ⟨a, l⟩
      · rfl
      · obtain ⟨ad, h, _⟩ := hb (by simp)
        cases h
    subst hl
    exact run_convert_bytes_nil w src e hs he _ _ dst hd
  · have hcells : ∀ j v, (bcells l)[j]? = some v → w.cell? (ad.add j) = some v := by
      intro j v hj
      rw [bcells, List.getElem?_map] at hj
      rcases hm : l[j]? with _ | x
      · rw [hm] at hj; cases hj
      · rw [hm] at hj
        simp only [Option.map_some, Option.some.injEq] at hj
        rw [← hj]
        obtain ⟨ad', h, _, hc⟩ := hb (by have := (List.getElem?_eq_some_iff.1 hm).1; omega)
        injection h with h
        subst h
        exact hc j x hm
    have hl := run_loadCells_list (P := P) w ad (bcells l) hcells
    rw [bcells_length] at hl
    have hm : bcells l = (l.map fun c => (c.toNat : Int)).map (Value.int .u8) := by simp [bcells, u8v]
    rw [hm] at hl
    rw [run_convert_bytes_string w src dst e _ _ c hs he hd, run_bytesToString w ad _ c _ hl, foldl_push_bytes]
    have hmm : (l.map fun c => (c.toNat : Int)).map (fun n => UInt8.ofNat n.toNat) = l := by
      rw [List.map_map]
      conv => rhs; rw [← List.map_id l]
      apply List.map_congr_left
      intro x _
      simp
    rw [hmm]
    simp [ByteArray.empty, ByteArray.emptyWithCapacity]
    rfl

theorem cells_at {cells : Array Value} {j : Nat} {v : Value} (h : cells[j]? = some v) : j < cells.size := (Array.getElem?_eq_some_iff.1 h).1
end Go.Proofs.Ytpeknjbcjpdmnab
