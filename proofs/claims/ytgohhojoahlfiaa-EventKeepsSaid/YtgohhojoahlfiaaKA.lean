/- Laid into one text: Base Blk Lists CrcS VarintS VarintW OwnB. -/
import Derived.Below
import Derived.Laws.OwnMore
import Derived.Deep.AppendLies
import Derived.Deep.Draws
import Derived.Maps.AppendAt
import Derived.RegionTactic
import Derived.OwnWalk
import Derived.Laws.MakeOwn
import Derived.Laws.Bits64b
import Derived.Laws.BitsLemmas
import Derived.Lib.Hide
import Derived.Laws.BytesArg
import Derived.Laws.Rows
import Derived.Laws.Tables
import Derived.Laws.BitsAllLaws
import Derived.Lib.BitFns
import Derived.WalkKit

/- Words for memory, used by all walks of this seat: a []byte that reads as a list of bytes ('BS'), an append of such bytes onto a row of the call's own, and small number facts. No program in sight. -/
namespace Go.Proofs.Ytgohhojoahlfiaa
open Go.RowKit

def u8v (c : UInt8) : Value := .int .u8 (c.toNat : Int)
def bcells (l : List UInt8) : List Value := l.map u8v
theorem bcells_length (l : List UInt8) : (bcells l).length = l.length := by simp [bcells]
theorem bcells_append (l m : List UInt8) : bcells (l ++ m) = bcells l ++ bcells m := by simp [bcells]
theorem bcells_one (l : List UInt8) : ∀ u ∈ bcells l, u.oneCell' = true := by
  intro u hu
  simp only [bcells, List.mem_map] at hu
  obtain ⟨c, _, rfl⟩ := hu
  rfl
theorem u8v_inj {a b : UInt8} (h : u8v a = u8v b) : a = b := by
  simp only [u8v, Value.int.injEq, true_and] at h
  exact UInt8.toNat.inj (by omega)
theorem bcells_inj : ∀ {l m : List UInt8}, bcells l = bcells m → l = m
  | [], [], _ => rfl
  | [], _ :: _, h => by simp [bcells] at h
  | _ :: _, [], h => by simp [bcells] at h
  | a :: l, b :: m, h => by
    simp only [bcells, List.map_cons, List.cons.injEq] at h
    rw [u8v_inj h.1, bcells_inj (l := l) (m := m) h.2]

theorem block_of_add (a : Addr) (n : Nat) : (a.add n).block = a.block := by unfold Addr.add; split <;> rfl
theorem add_of_add (a : Addr) (i j : Nat) : (a.add i).add j = a.add (i + j) := by
  unfold Addr.add
  by_cases hi : i = 0 <;> by_cases hj : j = 0 <;> simp [hi, hj, Nat.add_assoc]

/-- The slice value '.slice A l.length _' reads, in world w and below block B, as the bytes l. -/
def BS (w : World) (B : Nat) (A : Option Addr) (l : List UInt8) : Prop :=
  0 < l.length → ∃ ad, A = some ad ∧ ad.block < B ∧ ∀ j c, l[j]? = some c → w.cell? (ad.add j) = some (u8v c)

section
variable {w w' : World} {B B' : Nat} {A : Option Addr} {l : List UInt8}
theorem BS.nil (w : World) (B : Nat) (A : Option Addr) : BS w B A [] := fun h => absurd h (by simp)
theorem BS.at_ {k : Nat} (h : BS w B A l) (hk : k < l.length) : ∃ ad, A = some ad ∧ ad.block < B ∧ w.cell? (ad.add k) = some (.int .u8 ((l[k]).toNat : Int)) := by
  obtain ⟨ad, e, hb, hc⟩ := h (by omega)
  exact ⟨ad, e, hb, hc k _ (List.getElem?_eq_getElem hk)⟩
theorem BS.keep (h : BS w B A l) (hk : ∀ p : Addr, p.block < B → w'.cell? p = w.cell? p) : BS w' B A l := fun hn => by
  obtain ⟨ad, e, hb, hc⟩ := h hn
  exact ⟨ad, e, hb, fun j u hu => (hk _ (by rw [block_of_add]; exact hb)).trans (hc j u hu)⟩
theorem BS.more (h : BS w B A l) (hB : B ≤ B') : BS w B' A l := fun hn => by
  obtain ⟨ad, e, hb, hc⟩ := h hn
  exact ⟨ad, e, by omega, hc⟩
theorem BS.below (h : BS w B A l) (hb : Below B w w') : BS w' B A l := h.keep fun _ hp => hb.cell hp
theorem BS.drew (h : BS w B A l) : BS w.drew B A l := h
theorem BS.drewN (h : BS w B A l) (k : Nat) : BS (w.drewN k) B A l := h
theorem BS.alloc (h : BS w B A l) (hB : B ≤ w.heap.size) (o : Obj) : BS (w.alloc o) B A l := h.keep fun p hp => World.cell?_alloc_lt w o p (by omega)
theorem BS.setCell (h : BS w B A l) {p : Addr} (hB : B ≤ p.block) (u : Value) : BS (w.setCell p u) B A l :=
  h.keep fun q hq => World.cell?_setCell_other w p q u (fun e => by subst e; omega)
theorem BS.grown (h : BS w B A l) {row : Option Nat} (hg : w.grownBy w' row) (hB : B ≤ w.heap.size) (hr : ∀ g, row = some g → B ≤ g) : BS w' B A l :=
  h.keep fun p hp => World.cell?_of_block (hg.block p.block (by omega) (fun e => by have := hr _ e.symm; omega))
/-- 's[k:]': where k is the capacity the address stays. -/
theorem BS.drop (h : BS w B A l) {k cap : Nat} (hc : l.length ≤ cap) :
    BS w B (if cap = k then A else A.map (·.add k)) (l.drop k) := fun hn => by
  rw [List.length_drop] at hn
  obtain ⟨ad, rfl, hb, hcell⟩ := h (by omega)
  rw [if_neg (by omega)]
  refine ⟨ad.add k, rfl, by rw [block_of_add]; exact hb, fun j u hu => ?_⟩
  rw [add_of_add]
  exact hcell _ u (by rw [← hu, List.getElem?_drop])
theorem BS.take (h : BS w B A l) (k : Nat) : BS w B A (l.take k) := fun hn => by
  rw [List.length_take] at hn
  obtain ⟨ad, rfl, hb, hcell⟩ := h (by omega)
  refine ⟨ad, rfl, hb, fun j u hu => ?_⟩
  rw [List.getElem?_take] at hu
  split at hu
  · exact hcell j u hu
  · cases hu
theorem BS.of_own {base : Nat} {e : TypeId} {c n : Nat} (h : w.ownsRow base e 1 (.slice A n c) n (bcells l)) : BS w w.heap.size A l ∧ n = l.length := by
  have hn : n = l.length := by have := h.1; rw [bcells_length] at this; omega
  refine ⟨fun hp => ?_, hn⟩
  obtain ⟨g, cap, hv, _, hlt⟩ := h.form (by omega)
  have hA : A = some ⟨g, 0, none⟩ := by injection hv
  subst hA
  exact ⟨_, rfl, hlt, fun j c hj => h.cells (g := g) rfl j (u8v c) (by rw [bcells, List.getElem?_map, hj]; rfl)⟩
end

theorem bthen {a w w' : World} (h : Below a.heap.size a w) (k : Below w.heap.size w w') : Below a.heap.size a w' := h.trans (k.mono h.size)
theorem balloc {a w : World} (h : Below a.heap.size a w) (o : Obj) : Below a.heap.size a (w.alloc o) := h.alloc h.size o

/-- A slice of the call's own, whatever is in it: its value is a slice value of that length. -/
theorem own_slice {w : World} {base : Nat} {e : TypeId} {size n : Nat} {v : Value} {xs : List Value} (h : w.ownsRow base e size v n xs) : ∃ A c, v = .slice A n c ∧ n ≤ c ∧ c ≤ maxLen := by
  rcases h.2 with ⟨rfl, rfl⟩ | ⟨g, cap, _, rfl, _, _, hc, hm, _⟩
  · exact ⟨none, 0, rfl, Nat.le_refl _, by unfold maxLen; omega⟩
  · exact ⟨_, cap, rfl, hc, hm⟩

section
variable {P : Program} (w : World)

theorem run_append_of_nil (base : Nat) (t ty e : TypeId) (i : TypeInfo) (size : Nat) (ht : P.underlying t = some (.slice e)) (hi : P.info? e = some i)
    (v : Value) (n : Nat) (xs : List Value) (hown : w.ownsRow base e size v n xs) (c : Nat) : (Builtin.append_ #[t, t] ty #[v, .slice none 0 c]).run P w = .ok v w := by
  rcases hown.2 with ⟨rfl, rfl⟩ | ⟨g, cap, cur, rfl, _, _, hnc, _⟩
  · simp [Builtin.append_, run_underlying ht, sizeOf, typeInfo, hi, Builtin.lenOf, Builtin.firstCells]
  · simp [Builtin.append_, run_underlying ht, sizeOf, typeInfo, hi, Builtin.lenOf, Builtin.firstCells, hnc, storeCells]

/-- 'append(v, s...)': v a row of bytes of the call's own, s whatever reads as the bytes m. -/
theorem run_append_bytes (base : Nat) (t ty e : TypeId) (i : TypeInfo) (z : Value) (bytes : Nat) (ht : P.underlying t = some (.slice e)) (hi : P.info? e = some i) (hz : i.zero = some z)
    (hsize : i.size = 1) (hby : i.bytes = bytes) (hzs : z.cells.size = 1)
    (v : Value) (l : List UInt8) (hown : w.ownsRow base e 1 v l.length (bcells l))
    (B : Nat) (A : Option Addr) (c : Nat) (m : List UInt8) (hr : BS w B A m)
    (h63 : l.length + m.length ≤ maxLen) (hbytes : (l.length + m.length) * bytes ≤ 140737488355328) (hbase : base ≤ w.heap.size) :
    ∃ v' w', (Builtin.append_ #[t, t] ty #[v, .slice A m.length c]).run P w = .ok v' w' ∧ w'.ownsRow base e 1 v' (l ++ m).length (bcells (l ++ m)) ∧ w.grownBy w' v.ownBlock ∧
      (v'.ownBlock = v.ownBlock ∨ v'.ownBlock = some w.heap.size) := by
  have hlen : (l ++ m).length = l.length + m.length := List.length_append
  have hcs : bcells (l ++ m) = bcells l ++ bcells m := bcells_append l m
  rw [hlen, hcs]
  rcases A with _ | ad
  · have hm : m = [] := by
      rcases m with _ | ⟨a, m⟩
      · rfl
      · obtain ⟨ad, h, _⟩ := hr (by simp)
        cases h
    subst hm
    exact ⟨v, w, run_append_of_nil w base t ty e i 1 ht hi v _ _ hown c, by simpa [bcells] using hown, World.grownBy.refl w _, .inl rfl⟩
  · have hcells : ∀ j u, (bcells m)[j]? = some u → w.cell? (ad.add j) = some u := by
      intro j u hu
      rcases Nat.eq_zero_or_pos m.length with h0 | h0
      · have hn : m = [] := List.eq_nil_of_length_eq_zero h0
        subst hn
        simp [bcells] at hu
      · obtain ⟨ad', h, _, hc⟩ := hr h0
        injection h with h
        subst h
        rw [bcells, List.getElem?_map] at hu
        rcases hm : m[j]? with _ | x
        · rw [hm] at hu; cases hu
        · rw [hm] at hu
          simp only [Option.map_some, Option.some.injEq] at hu
          rw [← hu]
          exact hc j x hm
    obtain ⟨v', w', hrun, h2, h3, _, h5⟩ := run_append_own_at (P := P) w base t ty e i z 1 bytes ht hi hz hsize hby hzs (by omega) v _ _ hown ad m.length c (bcells m) (by rw [bcells_length]; omega) hcells (bcells_one m) h63 hbytes hbase
    exact ⟨v', w', hrun, h2, h3, h5⟩

theorem wp_append_bytes {o : Oper} {a : Act} {K : Act → World → Prop} {Q : Exit → Act → World → Prop} (s x : Operand) (t : TypeId)
    (ho : o.op = .call { callee := .builtin .append, args := #[s, x], argTypes := #[t, t] })
    (base : Nat) (e : TypeId) (i : TypeInfo) (z : Value) (bytes : Nat) (ht : P.underlying t = some (.slice e)) (hi : P.info? e = some i) (hz : i.zero = some z)
    (hsize : i.size = 1) (hby : i.bytes = bytes) (hzs : z.cells.size = 1)
    (v : Value) (l : List UInt8) (hs : a.eval s = v) (hown : w.ownsRow base e 1 v l.length (bcells l))
    (B : Nat) (A : Option Addr) (n c : Nat) (m : List UInt8) (hx : a.eval x = .slice A n c) (hn : n = m.length) (hr : BS w B A m)
    (h63 : l.length + m.length ≤ maxLen) (hbytes : (l.length + m.length) * bytes ≤ 140737488355328) (hbase : base ≤ w.heap.size)
    (h : ∀ A' c' w', w'.ownsRow base e 1 (.slice A' (l ++ m).length c') (l ++ m).length (bcells (l ++ m)) → w.grownBy w' v.ownBlock → ((Value.slice A' (l ++ m).length c').ownBlock = v.ownBlock ∨ (Value.slice A' (l ++ m).length c').ownBlock = some w.heap.size) → K (a.put o.dst (.slice A' (l ++ m).length c')) w') : o.wp P a w K Q := by
  subst hn
  obtain ⟨v', w', hrun, h2, h3, h4⟩ := run_append_bytes (P := P) w base t o.type e i z bytes ht hi hz hsize hby hzs v l hown B A c m hr h63 hbytes hbase
  unfold Oper.wp execOp
  simp only [ho, resolve, invoke, builtin, Sem.run_bind, Sem.run_pure, Result.andThen_ok, List.map_toArray, List.map_cons, List.map_nil, hs, hx, hrun]
  obtain ⟨A', c', rfl, _⟩ := own_slice h2
  exact h A' c' w' h2 h3 h4

theorem wpList_append_bytes {ops : Array Oper} {rest : List Oper} {o : Oper} {a : Act} {Q : Exit → Act → World → Prop} (hgd : o.guard = none) (s x : Operand) (t : TypeId)
    (ho : o.op = .call { callee := .builtin .append, args := #[s, x], argTypes := #[t, t] })
    (base : Nat) (e : TypeId) (i : TypeInfo) (z : Value) (bytes : Nat) (ht : P.underlying t = some (.slice e)) (hi : P.info? e = some i) (hz : i.zero = some z)
    (hsize : i.size = 1) (hby : i.bytes = bytes) (hzs : z.cells.size = 1)
    (v : Value) (l : List UInt8) (hs : a.eval s = v) (hown : w.ownsRow base e 1 v l.length (bcells l))
    (B : Nat) (A : Option Addr) (n c : Nat) (m : List UInt8) (hx : a.eval x = .slice A n c) (hn : n = m.length) (hr : BS w B A m)
    (h63 : l.length + m.length ≤ maxLen) (hbytes : (l.length + m.length) * bytes ≤ 140737488355328) (hbase : base ≤ w.heap.size)
    (h : ∀ A' c' w', w'.ownsRow base e 1 (.slice A' (l ++ m).length c') (l ++ m).length (bcells (l ++ m)) → w.grownBy w' v.ownBlock → ((Value.slice A' (l ++ m).length c').ownBlock = v.ownBlock ∨ (Value.slice A' (l ++ m).length c').ownBlock = some w.heap.size) → wpList P ops Q rest (a.put o.dst (.slice A' (l ++ m).length c')) w') : wpList P ops Q (o :: rest) a w :=
  wpList_plain hgd fun _ hK => wp_append_bytes w s x t ho base e i z bytes ht hi hz hsize hby hzs v l hs hown B A n c m hx hn hr h63 hbytes hbase fun A' c' w' h2 h3 h4 => hK _ _ (h A' c' w' h2 h3 h4)
end

section
variable {P : Program} (w : World)
theorem step_append_bytes {ops : Array Oper} {o : Oper} {a : Act} {K : Act → World → Prop} {Q : Exit → Act → World → Prop} {E : Prop} (hgd : o.guard = none) (s x : Operand) (t : TypeId)
    (ho : o.op = .call { callee := .builtin .append, args := #[s, x], argTypes := #[t, t] })
    (base : Nat) (e : TypeId) (i : TypeInfo) (z : Value) (bytes : Nat) (ht : P.underlying t = some (.slice e)) (hi : P.info? e = some i) (hz : i.zero = some z)
    (hsize : i.size = 1) (hby : i.bytes = bytes) (hzs : z.cells.size = 1)
    (v : Value) (l : List UInt8) (hs : a.eval s = v) (hown : w.ownsRow base e 1 v l.length (bcells l))
    (B : Nat) (A : Option Addr) (n c : Nat) (m : List UInt8) (hx : a.eval x = .slice A n c) (hn : n = m.length) (hr : BS w B A m)
    (h63 : l.length + m.length ≤ maxLen) (hbytes : (l.length + m.length) * bytes ≤ 140737488355328) (hbase : base ≤ w.heap.size)
    (h : ∀ A' c' w', w'.ownsRow base e 1 (.slice A' (l ++ m).length c') (l ++ m).length (bcells (l ++ m)) → w.grownBy w' v.ownBlock → ((Value.slice A' (l ++ m).length c').ownBlock = v.ownBlock ∨ (Value.slice A' (l ++ m).length c').ownBlock = some w.heap.size) → K (a.put o.dst (.slice A' (l ++ m).length c')) w') :
    if Region.wanted o (yielded ops a.tmps) = true then Oper.wp P o a w K Q else E := by
  have hw : Region.wanted o (yielded ops a.tmps) = true := by simp [Region.wanted, hgd]
  rw [if_pos hw]
  exact wp_append_bytes w s x t ho base e i z bytes ht hi hz hsize hby hzs v l hs hown B A n c m hx hn hr h63 hbytes hbase h
end

/-- '[]byte{}': nothing, of the call's own. -/
theorem own_none (w : World) (base : Nat) (e : TypeId) (hb : base ≤ w.heap.size) (a : Nat) (ha : w.heap.size = a) : (w.alloc (.cells #[] e)).ownsRow base e 1 (.slice (some ⟨a, 0, none⟩) 0 0) ([] : List UInt8).length (bcells []) := by
  subst ha
  exact World.ownsRow_lit w #[] 0 hb (by unfold maxLen; omega) (by simp)

/-- One new cell, as 'append(v, x)' lays it, reads as one byte. -/
theorem BS.one (w : World) (x : UInt8) (t : TypeId) : BS (w.alloc (.cells #[.int .u8 (x.toNat : Int)] t)) (w.heap.size + 1) (some ⟨w.heap.size, 0, none⟩) [x] := fun _ => by
  refine ⟨_, rfl, Nat.lt_succ_self _, fun j c hj => cell_one_new w (u8v x) t j (u8v c) ?_⟩
  show ([x].map u8v)[j]? = some (u8v c)
  rw [List.getElem?_map, hj]
  rfl

theorem BS.one' (w : World) (x : UInt8) (z : Int) (hz : z = (x.toNat : Int)) (t : TypeId) : BS (w.alloc (.cells #[.int .u8 z] t)) (w.heap.size + 1) (some ⟨w.heap.size, 0, none⟩) [x] := by
  subst hz
  exact BS.one w x t

/-- What the walk is told of a slice of integers that came in. -/
def IsRow (k : IntKind) (w : World) (a : Option Addr) (len cap : Nat) (zs : List Int) : Prop :=
  (a = none ∧ len = 0 ∧ cap = 0 ∧ zs = []) ∨
  ∃ x, a = some x ∧ len ≤ cap ∧ cap ≤ maxLen ∧ zs.length = cap ∧ (∀ i, i < zs.length → w.cell? (x.add i) = some (.int k (zs.getD i 0))) ∧ ∀ n ∈ zs, (Lit.int k n).wf = true

theorem block_lt_of_add {w : World} {x : Addr} {j : Nat} {v : Value} (h : w.cell? (x.add j) = some v) : x.block < w.heap.size := by
  have := World.block_lt_of_cell? w _ h
  rwa [block_of_add] at this

theorem u8_of_wf {n : Int} (h : (Lit.int .u8 n).wf = true) : 0 ≤ n ∧ n ≤ 255 := by
  simp [Lit.wf, IntKind.min, IntKind.max, IntKind.bits, IntKind.signed] at h
  omega

theorem BS.of_row {w : World} {a : Option Addr} {len cap : Nat} {zs : List Int} (h : IsRow .u8 w a len cap zs) :
    ∃ l : List UInt8, l.length = len ∧ len ≤ cap ∧ cap ≤ maxLen ∧ BS w w.heap.size a l := by
  rcases h with ⟨rfl, rfl, rfl, rfl⟩ | ⟨x, rfl, hl, hm, hz, hcell, hwz⟩
  · exact ⟨[], rfl, Nat.le_refl _, by unfold maxLen; omega, BS.nil _ _ _⟩
  · refine ⟨(zs.take len).map fun n => UInt8.ofNat n.toNat, by rw [List.length_map, List.length_take]; omega, hl, hm, fun hp => ⟨x, rfl, ?_, fun j c hj => ?_⟩⟩
    · rw [List.length_map, List.length_take] at hp
      exact block_lt_of_add (hcell 0 (by omega))
    · rw [List.getElem?_map, List.getElem?_take] at hj
      split at hj
      · rename_i hjl
        have hjz : j < zs.length := by omega
        have hgd : zs.getD j 0 = zs[j] := by simp [List.getD, List.getElem?_eq_getElem hjz]
        rw [List.getElem?_eq_getElem hjz] at hj
        simp only [Option.map_some, Option.some.injEq] at hj
        rw [hcell j hjz, hgd, ← hj]
        have hb := u8_of_wf (hwz _ (List.getElem_mem hjz))
        have ht : (UInt8.ofNat (zs[j]).toNat).toNat = (zs[j]).toNat := by
          rw [UInt8.toNat_ofNat']
          exact Nat.mod_eq_of_lt (by omega)
        have hi : (((zs[j]).toNat : Nat) : Int) = zs[j] := Int.toNat_of_nonneg hb.1
        simp only [u8v, ht, hi]
      · cases hj

/-- A literal slice's new block reads as its bytes. -/
theorem BS.lit (w : World) (l : List UInt8) (cs : Array Value) (h : cs = (bcells l).toArray) (t : TypeId) (m : Nat × Nat) : BS (w.alloc (.cells cs t m)) (w.heap.size + 1) (some ⟨w.heap.size, 0, none⟩) l := fun _ => by
  subst h
  refine ⟨_, rfl, Nat.lt_succ_self _, fun j c hj => ?_⟩
  have hp : (⟨w.heap.size, 0, none⟩ : Addr).add j = ⟨w.heap.size, j, none⟩ := by unfold Addr.add; split <;> simp_all
  rw [hp, cell_of_row _ _ j _ t m (heap_alloc_new w _)]
  simp [bcells, hj]

theorem BS.lit' (w : World) (l : List UInt8) (cs : Array Value) (h : cs = (bcells l).toArray) (t : TypeId) (m : Nat × Nat) (a : Nat) (ha : w.heap.size = a) : BS (w.alloc (.cells cs t m)) (a + 1) (some ⟨a, 0, none⟩) l := by
  subst ha
  exact BS.lit w l cs h t m

theorem lit_le {w : World} {o : Obj} {a : Nat} (ha : w.heap.size = a) : a + 1 ≤ (w.alloc o).heap.size := by
  subst ha
  simp

/-- 'string(b)'. -/
theorem run_convert_bs {P : Program} (src dst e : TypeId) (hs : P.underlying src = some (.slice e)) (he : P.underlying e = some (.int .u8)) (hd : P.underlying dst = some .string)
    (w : World) (B : Nat) (A : Option Addr) (l : List UInt8) (hb : BS w B A l) (n c : Nat) (hn : n = l.length) :
    (convert src dst (.slice A n c)).run P w = .ok (.string ⟨l.toArray⟩) w := by
  subst hn
  rcases A with _ | ad
  · have hl : l = [] := by
      rcases l with _ | ⟨a, l⟩
      · rfl
      · obtain ⟨ad, h, _⟩ := hb (by simp)
        cases h
    subst hl
    exact run_convert_bytes_nil w src e hs he _ _ dst hd
  · have hcells : ∀ j v, (bcells l)[j]? = some v → w.cell? (ad.add j) = some v := by
      intro j v hj
      rw [bcells, List.getElem?_map] at hj
      rcases hm : l[j]? with _ | x
      · rw [hm] at hj; cases hj
      · rw [hm] at hj
        simp only [Option.map_some, Option.some.injEq] at hj
        rw [← hj]
        obtain ⟨ad', h, _, hc⟩ := hb (by have := (List.getElem?_eq_some_iff.1 hm).1; omega)
        injection h with h
        subst h
        exact hc j x hm
    have hl := run_loadCells_list (P := P) w ad (bcells l) hcells
    rw [bcells_length] at hl
    have hm : bcells l = (l.map fun c => (c.toNat : Int)).map (Value.int .u8) := by simp [bcells, u8v]
    rw [hm] at hl
    rw [run_convert_bytes_string w src dst e _ _ c hs he hd, run_bytesToString w ad _ c _ hl, foldl_push_bytes]
    have hmm : (l.map fun c => (c.toNat : Int)).map (fun n => UInt8.ofNat n.toNat) = l := by
      rw [List.map_map]
      conv => rhs; rw [← List.map_id l]
      apply List.map_congr_left
      intro x _
      simp
    rw [hmm]
    simp [ByteArray.empty, ByteArray.emptyWithCapacity]
    rfl

theorem cells_at {cells : Array Value} {j : Nat} {v : Value} (h : cells[j]? = some v) : j < cells.size := (Array.getElem?_eq_some_iff.1 h).1
end Go.Proofs.Ytgohhojoahlfiaa

/- A block of memory that is known whole, and bits of uint32. No program in sight. -/
namespace Go.Proofs.Ytgohhojoahlfiaa
open Go.RowKit

/-- Block g is just the cells cs of element type t, none frozen. -/
def Blk (w : World) (g : Nat) (t : TypeId) (cs : Array Value) : Prop := w.heap[g]? = some (.cells cs t (0, 0))

section
variable {w w' : World} {g : Nat} {t : TypeId} {cs : Array Value}
theorem Blk.lt (h : Blk w g t cs) : g < w.heap.size := by
  rcases Nat.lt_or_ge g w.heap.size with hlt | hge
  · exact hlt
  · unfold Blk at h; rw [Array.getElem?_eq_none hge] at h; cases h
theorem Blk.cell (h : Blk w g t cs) (i : Nat) : w.cell? ⟨g, i, none⟩ = cs[i]? := cell_of_row w g i cs t (0, 0) h
theorem Blk.frozen (h : Blk w g t cs) (i : Nat) : w.frozen? ⟨g, i, none⟩ = false := frozen_of_row w g i cs t h
theorem Blk.new (w : World) (t : TypeId) (cs : Array Value) (a : Nat) (ha : w.heap.size = a) : Blk (w.alloc (.cells cs t)) a t cs := by
  subst ha
  exact heap_alloc_new w _
theorem Blk.drew (h : Blk w g t cs) : Blk w.drew g t cs := h
theorem Blk.drewN (h : Blk w g t cs) (n : Nat) : Blk (w.drewN n) g t cs := h
theorem Blk.alloc (h : Blk w g t cs) (o : Obj) : Blk (w.alloc o) g t cs := (Below.heap_alloc w o g h.lt).trans h
theorem Blk.set_ (h : Blk w g t cs) (i : Nat) (u : Value) : Blk (w.setCell ⟨g, i, none⟩ u) g t (cs.setIfInBounds i u) := heap_setCell_same w g i cs t u h
theorem Blk.far (h : Blk w g t cs) {p : Addr} (hp : g ≠ p.block) (u : Value) : Blk (w.setCell p u) g t cs := (Below.heap_setCell w p u g hp).trans h
theorem Blk.row (h : Blk w g t cs) (c' : Array Value) : Blk (w.setRow g c') g t c' := setRow_heap w g cs c' t _ h
theorem Blk.rowFar (h : Blk w g t cs) {k : Nat} (hk : g ≠ k) (c' : Array Value) : Blk (w.setRow k c') g t cs := (setRow_other w k g c' hk).trans h
theorem Blk.below {B : Nat} (h : Blk w g t cs) (hb : Below B w w') (hg : g < B) : Blk w' g t cs := (hb.block g hg).trans h
end
theorem below_setRow {B : Nat} {a w : World} (h : Below B a w) {g : Nat} (hg : B ≤ g) (cs : Array Value) : Below B a (w.setRow g cs) :=
  h.trans ⟨rfl, rfl, rfl, by simp, fun k hk => setRow_other w g k cs (by omega)⟩

/-- A row of the call's own stays while nothing below the heap's size turns. -/
theorem own_below {w w' : World} {base : Nat} {e : TypeId} {size n : Nat} {v : Value} {xs : List Value} (h : w.ownsRow base e size v n xs) (hb : Below w.heap.size w w') : w'.ownsRow base e size v n xs :=
  h.kept (row := none) ⟨hb.os, hb.tape, hb.output, hb.size, fun i hi _ => hb.block i hi⟩ (by cases hv : v.ownBlock <;> simp)

theorem wrap_u32_nat (n : Nat) (h : n < 4294967296) : IntKind.u32.wrap (n : Int) = (n : Int) := by
  simp [IntKind.wrap, IntKind.bits, IntKind.signed]; omega
theorem ofInt32 (a : Nat) (ha : a < 4294967296) : (BitVec.ofInt 32 (a : Int)).toNat = a := by
  rw [BitVec.ofInt_natCast, BitVec.toNat_ofNat]; exact Nat.mod_eq_of_lt (by omega)
theorem xor_u32 (a b : Nat) (ha : a < 4294967296) (hb : b < 4294967296) : bits .xor .u32 (a : Int) (b : Int) = ((a ^^^ b : Nat) : Int) := by
  have hx : a ^^^ b < 2 ^ 32 := Nat.xor_lt_two_pow (by omega) (by omega)
  show IntKind.u32.wrap ((BitVec.ofInt 32 (a : Int) ^^^ BitVec.ofInt 32 (b : Int)).toNat : Int) = _
  rw [BitVec.toNat_xor, ofInt32 a ha, ofInt32 b hb, wrap_u32_nat _ (by omega)]
theorem and_u32 (a b : Nat) (ha : a < 4294967296) (hb : b < 4294967296) : bits .and .u32 (a : Int) (b : Int) = ((a &&& b : Nat) : Int) := by
  have hx : a &&& b < 2 ^ 32 := Nat.and_lt_two_pow _ (by omega)
  show IntKind.u32.wrap ((BitVec.ofInt 32 (a : Int) &&& BitVec.ofInt 32 (b : Int)).toNat : Int) = _
  rw [BitVec.toNat_and, ofInt32 a ha, ofInt32 b hb, wrap_u32_nat _ (by omega)]
theorem and1_u32 (a : Nat) (ha : a < 4294967296) : bits .and .u32 (a : Int) 1 = ((a % 2 : Nat) : Int) := by
  have h := and_u32 a 1 ha (by omega)
  rw [Nat.and_one_is_mod] at h
  exact h
theorem and15_u32 (a : Nat) (ha : a < 4294967296) : bits .and .u32 (a : Int) 15 = ((a % 16 : Nat) : Int) := by
  have h := and_u32 a 15 ha (by omega)
  rw [show a &&& 15 = a % 16 from Nat.and_two_pow_sub_one_eq_mod a 4] at h
  exact h
theorem u32_of_wf {n : Int} (h : (Lit.int .u32 n).wf = true) : ∃ m : Nat, n = (m : Int) ∧ m < 4294967296 := by
  simp [Lit.wf, IntKind.min, IntKind.max, IntKind.bits, IntKind.signed] at h
  exact ⟨n.toNat, by omega, by omega⟩
theorem u16_of_wf {n : Int} (h : (Lit.int .u16 n).wf = true) : ∃ m : Nat, n = (m : Int) ∧ m < 65536 := by
  simp [Lit.wf, IntKind.min, IntKind.max, IntKind.bits, IntKind.signed] at h
  exact ⟨n.toNat, by omega, by omega⟩
end Go.Proofs.Ytgohhojoahlfiaa

/- Words for memory: a slice of slices of bytes. No program in sight. -/
namespace Go.Proofs.Ytgohhojoahlfiaa
open Go.RowKit

/-- The slice value '.slice A ls.length _' reads, in world w and below block B, as the texts ls. -/
def LS (w : World) (B : Nat) (A : Option Addr) (ls : List (List UInt8)) : Prop :=
  0 < ls.length → ∃ ad, A = some ad ∧ ad.block < B ∧ ∀ j l, ls[j]? = some l → ∃ A' c', w.cell? (ad.add j) = some (.slice A' l.length c') ∧ l.length ≤ c' ∧ BS w B A' l
section
variable {w w' : World} {B B' : Nat} {A : Option Addr} {ls : List (List UInt8)}
theorem LS.nil (w : World) (B : Nat) (A : Option Addr) : LS w B A [] := fun h => absurd h (by simp)
theorem LS.at_ {k : Nat} (h : LS w B A ls) (hk : k < ls.length) : ∃ ad A' c', A = some ad ∧ ad.block < B ∧ w.cell? (ad.add k) = some (.slice A' (ls[k]).length c') ∧ (ls[k]).length ≤ c' ∧ BS w B A' ls[k] := by
  obtain ⟨ad, e, hb, hc⟩ := h (by omega)
  obtain ⟨A', c', h1, h2, h3⟩ := hc k _ (List.getElem?_eq_getElem hk)
  exact ⟨ad, A', c', e, hb, h1, h2, h3⟩
theorem LS.keep (h : LS w B A ls) (hk : ∀ p : Addr, p.block < B → w'.cell? p = w.cell? p) : LS w' B A ls := fun hn => by
  obtain ⟨ad, e, hb, hc⟩ := h hn
  refine ⟨ad, e, hb, fun j l hj => ?_⟩
  obtain ⟨A', c', h1, h2, h3⟩ := hc j l hj
  exact ⟨A', c', (hk _ (by rw [block_of_add]; exact hb)).trans h1, h2, h3.keep hk⟩
theorem LS.more (h : LS w B A ls) (hB : B ≤ B') : LS w B' A ls := fun hn => by
  obtain ⟨ad, e, hb, hc⟩ := h hn
  refine ⟨ad, e, by omega, fun j l hj => ?_⟩
  obtain ⟨A', c', h1, h2, h3⟩ := hc j l hj
  exact ⟨A', c', h1, h2, h3.more hB⟩
theorem LS.below (h : LS w B A ls) (hb : Below B w w') : LS w' B A ls := h.keep fun _ hp => hb.cell hp
theorem LS.take (h : LS w B A ls) (k : Nat) : LS w B A (ls.take k) := fun hn => by
  rw [List.length_take] at hn
  obtain ⟨ad, rfl, hb, hc⟩ := h (by omega)
  refine ⟨ad, rfl, hb, fun j u hu => ?_⟩
  rw [List.getElem?_take] at hu
  split at hu
  · exact hc j u hu
  · cases hu
end
end Go.Proofs.Ytgohhojoahlfiaa

/- CRC-32C in plain Lean, on numbers: a step is linear over bits; the sum of a text is so many steps from one great number. No program in sight. -/
namespace Go.Proofs.Ytgohhojoahlfiaa

def poly : Nat := 2197175160
/-- One bit. -/
def sh (x : Nat) : Nat := if x % 2 = 1 then x / 2 ^^^ poly else x / 2
/-- So many bits. -/
def shN : Nat → Nat → Nat
  | 0, x => x
  | k + 1, x => shN k (sh x)
def allOnes : Nat := 4294967295

theorem xor_left_comm (a b c : Nat) : a ^^^ (b ^^^ c) = b ^^^ (a ^^^ c) := by rw [← Nat.xor_assoc, Nat.xor_comm a b, Nat.xor_assoc]
theorem xor_mod2 (a b : Nat) : (a ^^^ b) % 2 = (a + b) % 2 := by
  have h : (a ^^^ b) % 2 ^ 1 = (a % 2 ^ 1) ^^^ (b % 2 ^ 1) := Nat.xor_mod_two_pow
  rw [Nat.pow_one] at h
  rw [h]
  rcases Nat.mod_two_eq_zero_or_one a with ha | ha <;> rcases Nat.mod_two_eq_zero_or_one b with hb | hb <;> rw [ha, hb]
  · have : (a + b) % 2 = 0 := by omega
    rw [this]; rfl
  · have : (a + b) % 2 = 1 := by omega
    rw [this]; rfl
  · have : (a + b) % 2 = 1 := by omega
    rw [this]; rfl
  · have : (a + b) % 2 = 0 := by omega
    rw [this]; rfl
theorem xor_half (a b : Nat) : (a ^^^ b) / 2 = a / 2 ^^^ b / 2 := by
  have h : (a ^^^ b) / 2 ^ 1 = (a / 2 ^ 1) ^^^ (b / 2 ^ 1) := Nat.xor_div_two_pow
  rwa [Nat.pow_one] at h

theorem sh_xor (a b : Nat) : sh (a ^^^ b) = sh a ^^^ sh b := by
  unfold sh
  rw [xor_mod2, xor_half]
  rcases Nat.mod_two_eq_zero_or_one a with ha | ha <;> rcases Nat.mod_two_eq_zero_or_one b with hb | hb
  · rw [if_neg (by omega), if_neg (by omega), if_neg (by omega)]
  · rw [if_pos (by omega), if_neg (by omega), if_pos (by omega), Nat.xor_assoc]
  · rw [if_pos (by omega), if_pos (by omega), if_neg (by omega), Nat.xor_assoc, Nat.xor_assoc, Nat.xor_comm poly]
  · rw [if_neg (by omega), if_pos (by omega), if_pos (by omega), Nat.xor_assoc, xor_left_comm poly, Nat.xor_self, Nat.xor_zero]
theorem shN_xor : ∀ (k a b : Nat), shN k (a ^^^ b) = shN k a ^^^ shN k b
  | 0, _, _ => rfl
  | k + 1, a, b => by rw [shN, sh_xor, shN_xor k, shN, shN]
theorem shN_add : ∀ (j k x : Nat), shN (j + k) x = shN k (shN j x)
  | 0, k, x => by rw [Nat.zero_add]; rfl
  | j + 1, k, x => by rw [Nat.add_right_comm, shN, shN_add j k, shN]
theorem sh_zero : sh 0 = 0 := rfl
theorem shN_zero : ∀ k, shN k 0 = 0
  | 0 => rfl
  | k + 1 => by rw [shN, sh_zero, shN_zero k]
theorem sh_lt {x : Nat} (h : x < 4294967296) : sh x < 4294967296 := by
  unfold sh
  split
  · have : x / 2 ^^^ poly < 2 ^ 32 := Nat.xor_lt_two_pow (by omega) (by unfold poly; omega)
    omega
  · omega
theorem shN_lt : ∀ (k : Nat) {x : Nat}, x < 4294967296 → shN k x < 4294967296
  | 0, _, h => h
  | k + 1, _, h => shN_lt k (sh_lt h)
theorem sh_double (x : Nat) : sh (2 * x) = x := by
  unfold sh
  rw [if_neg (by omega)]
  omega
theorem shN_pow : ∀ (k x : Nat), shN k (2 ^ k * x) = x
  | 0, x => by simp [shN]
  | k + 1, x => by rw [shN, Nat.pow_succ, Nat.mul_comm (2 ^ k) 2, Nat.mul_assoc, sh_double, shN_pow k]
/-- Nothing but 0 goes to 0. -/
theorem sh_ne {x : Nat} (h : x < 4294967296) (h0 : x ≠ 0) : sh x ≠ 0 := by
  unfold sh
  split
  · intro e
    have : x / 2 = poly := by
      have := congrArg (· ^^^ poly) e
      simp only [Nat.xor_assoc, Nat.xor_self, Nat.xor_zero, Nat.zero_xor] at this
      exact this
    unfold poly at this
    omega
  · omega
theorem shN_ne : ∀ (k : Nat) {x : Nat}, x < 4294967296 → x ≠ 0 → shN k x ≠ 0
  | 0, _, _, h0 => h0
  | k + 1, _, h, h0 => shN_ne k (sh_lt h) (sh_ne h h0)

/-- Low bits and high bits, apart. -/
theorem xor_low : ∀ (k a q : Nat), a < 2 ^ k → a ^^^ (2 ^ k * q) = a + 2 ^ k * q
  | 0, a, q, h => by
    obtain rfl : a = 0 := by simpa using h
    simp
  | k + 1, a, q, h => by
    have e : 2 ^ (k + 1) * q = 2 * (2 ^ k * q) := by rw [Nat.pow_succ, Nat.mul_comm (2 ^ k) 2, Nat.mul_assoc]
    rw [Nat.pow_succ] at h
    have ih := xor_low k (a / 2) q (by omega)
    have h1 := xor_half a (2 * (2 ^ k * q))
    have h2 := xor_mod2 a (2 * (2 ^ k * q))
    rw [show 2 * (2 ^ k * q) / 2 = 2 ^ k * q by omega, ih] at h1
    rw [e]
    omega
theorem split_low (k x : Nat) : x = x % 2 ^ k ^^^ (2 ^ k * (x / 2 ^ k)) := by
  rw [xor_low k _ _ (Nat.mod_lt _ (Nat.two_pow_pos k))]
  exact (Nat.mod_add_div x (2 ^ k)).symm
/-- Four bits at once, by a table. -/
theorem nibble (x : Nat) : shN 4 x = shN 4 (x % 16) ^^^ x / 16 := by
  conv => lhs; rw [split_low 4 x]
  rw [shN_xor, shN_pow]
theorem nibble2 (x : Nat) : shN 8 x = shN 4 (shN 4 (x % 16) ^^^ x / 16) := by rw [← nibble, ← shN_add]

/-- From a state, through a text. -/
def crcGo (w : Nat) (l : List UInt8) : Nat := l.foldl (fun w c => shN 8 (w ^^^ c.toNat)) w
def moreS (s : Nat) (l : List UInt8) : Nat := crcGo (s ^^^ allOnes) l ^^^ allOnes
def ofS (l : List UInt8) : Nat := moreS 0 l

/-- A text as one number, its first byte the lowest. -/
def val : List UInt8 → Nat
  | [] => 0
  | c :: l => c.toNat + 256 * val l

theorem crcGo_val : ∀ (l : List UInt8) (w : Nat), crcGo w l = shN (8 * l.length) (w ^^^ val l)
  | [], w => by simp [crcGo, val, shN]
  | c :: l, w => by
    have hc : c.toNat < 2 ^ 8 := c.toNat_lt
    show crcGo (shN 8 (w ^^^ c.toNat)) l = _
    rw [crcGo_val l, List.length_cons, Nat.mul_add, Nat.mul_one, Nat.add_comm, shN_add, val]
    congr 1
    rw [show 256 = 2 ^ 8 from rfl, ← xor_low 8 _ _ hc, ← Nat.xor_assoc, shN_xor 8 (w ^^^ c.toNat), shN_pow]
theorem crcGo_append (w : Nat) (a b : List UInt8) : crcGo w (a ++ b) = crcGo (crcGo w a) b := by simp [crcGo]
theorem crcGo_lt : ∀ (l : List UInt8) {w : Nat}, w < 4294967296 → crcGo w l < 4294967296
  | [], _, h => h
  | c :: l, w, h => crcGo_lt l (shN_lt 8 (by
      have hc : c.toNat < 256 := c.toNat_lt
      have : w ^^^ c.toNat < 2 ^ 32 := Nat.xor_lt_two_pow (by omega) (by omega)
      omega))
theorem allOnes_lt : allOnes < 4294967296 := by unfold allOnes; omega
theorem xor_lt32 {a b : Nat} (ha : a < 4294967296) (hb : b < 4294967296) : a ^^^ b < 4294967296 := by
  have : a ^^^ b < 2 ^ 32 := Nat.xor_lt_two_pow (by omega) (by omega)
  omega
theorem moreS_lt {s : Nat} (h : s < 4294967296) (l : List UInt8) : moreS s l < 4294967296 := xor_lt32 (crcGo_lt l (xor_lt32 h allOnes_lt)) allOnes_lt
theorem ofS_lt (l : List UInt8) : ofS l < 4294967296 := moreS_lt (by omega) l
theorem ofS_eq (l : List UInt8) : ofS l = crcGo allOnes l ^^^ allOnes := by unfold ofS moreS; rw [Nat.zero_xor]
theorem ofS_val (l : List UInt8) : ofS l = shN (8 * l.length) (allOnes ^^^ val l) ^^^ allOnes := by rw [ofS_eq, crcGo_val]

theorem xor_xor_self (a b : Nat) : a ^^^ b ^^^ b = a := by rw [Nat.xor_assoc, Nat.xor_self, Nat.xor_zero]
theorem ofS_append (a b : List UInt8) : ofS (a ++ b) = moreS (ofS a) b := by
  unfold moreS
  rw [ofS_eq, ofS_eq, crcGo_append, xor_xor_self]
theorem moreS_nil (s : Nat) : moreS s [] = s := by
  unfold moreS crcGo
  rw [List.foldl_nil, xor_xor_self]
theorem ofS_nil : ofS [] = 0 := by unfold ofS; rw [moreS_nil]
theorem ofS_join (a b : List UInt8) : ofS (a ++ b) = shN (8 * b.length) (ofS a) ^^^ ofS b := by
  rw [ofS_append, ofS_val b]
  unfold moreS
  rw [crcGo_val, Nat.xor_assoc (ofS a), shN_xor, Nat.xor_assoc]

/-! ### Texts turned by one another -/
theorem val_three : ∀ (a b c : List UInt8), b.length = a.length → c.length = a.length →
    val ((a.zip (b.zip c)).map fun x => x.1 ^^^ x.2.1 ^^^ x.2.2) = val a ^^^ val b ^^^ val c
  | [], [], [], _, _ => rfl
  | x :: a, y :: b, z :: c, h1, h2 => by
    have ih := val_three a b c (by simpa using h1) (by simpa using h2)
    have hx : x.toNat < 2 ^ 8 := x.toNat_lt
    have hy : y.toNat < 2 ^ 8 := y.toNat_lt
    have hz : z.toNat < 2 ^ 8 := z.toNat_lt
    have hxyz : (x ^^^ y ^^^ z).toNat = x.toNat ^^^ y.toNat ^^^ z.toNat := by simp
    have hlt : x.toNat ^^^ y.toNat ^^^ z.toNat < 2 ^ 8 := Nat.xor_lt_two_pow (Nat.xor_lt_two_pow hx hy) hz
    simp only [List.zip_cons_cons, List.map_cons, val]
    rw [ih, hxyz, show 256 = 2 ^ 8 from rfl, ← xor_low 8 _ _ hlt, ← xor_low 8 _ _ hx, ← xor_low 8 _ _ hy, ← xor_low 8 _ _ hz]
    have hm : 2 ^ 8 * (val a ^^^ val b ^^^ val c) = (2 ^ 8 * val a) ^^^ (2 ^ 8 * val b) ^^^ (2 ^ 8 * val c) := by
      simp only [Nat.mul_comm (2 ^ 8), ← Nat.shiftLeft_eq, Nat.shiftLeft_xor_distrib]
    rw [hm]
    simp only [Nat.xor_assoc, xor_left_comm]
  | [], _ :: _, _, h, _ => by simp at h
  | [], [], _ :: _, _, h => by simp at h
  | _ :: _, [], _, h, _ => by simp at h
  | _ :: _, _ :: _, [], _, h => by simp at h
end Go.Proofs.Ytgohhojoahlfiaa

/- Varints, in plain Lean: what 'varint.Get' and 'varint.Put' compute, on lists of bytes. No program in sight. -/
namespace Go.Proofs.Ytgohhojoahlfiaa
open Go.RowKit

/-- From place i on, acc read so far: the number, its bytes, the error. -/
def vget (i acc : Nat) : List UInt8 → Nat × Nat × Nat
  | [] => (0, 0, 2)
  | c :: l =>
    if i = 9 ∧ 1 < c.toNat then (0, 0, 3)
    else if c.toNat < 128 then (if c.toNat = 0 ∧ 0 < i then (0, 0, 3) else (acc + c.toNat * 128 ^ i, i + 1, 0))
    else vget (i + 1) (acc + (c.toNat - 128) * 128 ^ i) l

/-- 'varint.Get' of bytes. -/
def vgetS (l : List UInt8) : Nat × Nat × Nat := vget 0 0 l

theorem u8_lt (c : UInt8) : c.toNat < 256 := c.toNat_lt

theorem wrap_u64_nat (n : Nat) (h : n < 18446744073709551616) : IntKind.u64.wrap (n : Int) = (n : Int) := by
  simp [IntKind.wrap, IntKind.bits, IntKind.signed]; omega
theorem wrap_u8_nat (n : Nat) (h : n < 256) : IntKind.u8.wrap (n : Int) = (n : Int) := by
  simp [IntKind.wrap, IntKind.bits, IntKind.signed]; omega

theorem andNot128 (d : Nat) (hd : d < 256) : bits .andNot .u8 (d : Int) 128 = ((d % 128 : Nat) : Int) := by
  have h : ∀ d : Fin 256, bits .andNot .u8 ((d.val : Nat) : Int) 128 = ((d.val % 128 : Nat) : Int) := by decide +kernel
  exact h ⟨d, hd⟩
theorem or128 (d : Nat) (hd : d < 256) : bits .or .u8 (d : Int) 128 = ((d % 128 + 128 : Nat) : Int) := by
  have h : ∀ d : Fin 256, bits .or .u8 ((d.val : Nat) : Int) 128 = ((d.val % 128 + 128 : Nat) : Int) := by decide +kernel
  exact h ⟨d, hd⟩

theorem pow128 (k : Nat) : (2 : Nat) ^ (7 * k) = 128 ^ k := by rw [Nat.pow_mul]
theorem pow128_le {k : Nat} (hk : k ≤ 8) : 128 ^ k ≤ 72057594037927936 := by
  have := Nat.pow_le_pow_right (n := 128) (by omega) hk
  simpa using this

theorem pow128_le9 {k : Nat} (hk : k ≤ 9) : 128 ^ k ≤ 9223372036854775808 := by
  have := Nat.pow_le_pow_right (n := 128) (by omega) hk
  simpa using this

/-- What a digit puts on top. -/
theorem vor {acc k d : Nat} (hacc : acc < 128 ^ k) (hd : d < 256) (hk : k ≤ 9) (h9 : k = 9 → d ≤ 1) :
    bits .or .u64 (acc : Int) (IntKind.u64.wrap (IntKind.u64.wrap (bits .andNot .u8 (d : Int) 128) * 2 ^ (7 * k))) = ((acc + d % 128 * 128 ^ k : Nat) : Int) := by
  have hp : ((2 : Int) ^ (7 * k)) = ((128 ^ k : Nat) : Int) := by rw [← pow128]; simp
  have hm : d % 128 * 128 ^ k + 128 ^ k ≤ 18446744073709551616 := by
    rcases Nat.lt_or_ge k 9 with h | h
    · have h1 := pow128_le (k := k) (by omega)
      have h2 : d % 128 * 128 ^ k ≤ 127 * 128 ^ k := Nat.mul_le_mul_right _ (by omega)
      omega
    · have h1 := pow128_le9 hk
      have h2 : d % 128 * 128 ^ k ≤ 1 * 128 ^ k := Nat.mul_le_mul_right _ (by have := h9 (by omega); omega)
      omega
  rw [andNot128 d hd, hp, wrap_u64_nat _ (by omega), ← Int.natCast_mul, wrap_u64_nat _ (by omega), bits_or_u64_nat _ _ (by omega) (by omega)]
  congr 1
  rw [Nat.or_comm, ← pow128, Nat.mul_comm, ← Nat.two_pow_add_eq_or_of_lt (by rw [pow128]; exact hacc), Nat.add_comm]

theorem top_le {k d : Nat} (hd : d < 256) (hk : k ≤ 9) (h9 : k = 9 → d ≤ 1) : d % 128 * 128 ^ k + 128 ^ k ≤ 18446744073709551616 := by
  rcases Nat.lt_or_ge k 9 with h | h
  · have h1 := pow128_le (k := k) (by omega)
    have h2 : d % 128 * 128 ^ k ≤ 127 * 128 ^ k := Nat.mul_le_mul_right _ (by omega)
    omega
  · have h1 := pow128_le9 hk
    have h2 : d % 128 * 128 ^ k ≤ 1 * 128 ^ k := Nat.mul_le_mul_right _ (by have := h9 (by omega); omega)
    omega
/-- The document's way: by sums and products. -/
theorem radd {acc sc k d : Nat} (hacc : acc < 128 ^ k) (hsc : sc = 128 ^ k) (hd : d < 256) (hk : k ≤ 9) (h9 : k = 9 → d ≤ 1) :
    IntKind.u64.wrap ((acc : Int) + IntKind.u64.wrap ((d : Int) % 128 * (sc : Int))) = ((acc + d % 128 * 128 ^ k : Nat) : Int) := by
  have hm := top_le hd hk h9
  subst hsc
  have e : ((d : Int) % 128 * ((128 ^ k : Nat) : Int)) = ((d % 128 * 128 ^ k : Nat) : Int) := by rw [Int.natCast_mul]; rfl
  rw [e, wrap_u64_nat _ (by omega), ← Int.natCast_add, wrap_u64_nat _ (by omega)]
theorem radd0 {acc k : Nat} (hacc : acc < 128 ^ k) (hk : k ≤ 9) : IntKind.u64.wrap (acc : Int) = ((acc + 0 % 128 * 128 ^ k : Nat) : Int) := by
  have := pow128_le9 hk
  rw [wrap_u64_nat _ (by omega)]
  simp
theorem rsc {sc k : Nat} (hsc : sc = 128 ^ k) (hk : k < 9) : IntKind.u64.wrap ((sc : Int) * 128) = ((128 ^ (k + 1) : Nat) : Int) := by
  have := pow128_le9 (k := k + 1) (by omega)
  rw [Nat.pow_succ] at this ⊢
  subst hsc
  have e : ((128 ^ k : Nat) : Int) * 128 = ((128 ^ k * 128 : Nat) : Int) := by rw [Int.natCast_mul]; rfl
  rw [e, wrap_u64_nat _ (by omega)]

/-! What one byte does to the reading. -/
section
variable {l : List UInt8} {k acc : Nat}
theorem vget_step (h : k < l.length) : vget k acc (l.drop k) =
    if k = 9 ∧ 1 < (l[k]).toNat then (0, 0, 3)
    else if (l[k]).toNat < 128 then (if (l[k]).toNat = 0 ∧ 0 < k then (0, 0, 3) else (acc + (l[k]).toNat * 128 ^ k, k + 1, 0))
    else vget (k + 1) (acc + ((l[k]).toNat - 128) * 128 ^ k) (l.drop (k + 1)) := by
  rw [List.drop_eq_getElem_cons h, vget]
theorem vget_end (h : l.length ≤ k) : vget k acc (l.drop k) = (0, 0, 2) := by
  rw [List.drop_eq_nil_of_le h, vget]
theorem vget_next {d : Nat} (h : k < l.length) (hd : (l[k]).toNat = d) (h1 : 128 ≤ d) (h2 : k < 9) : vget k acc (l.drop k) = vget (k + 1) (acc + d % 128 * 128 ^ k) (l.drop (k + 1)) := by
  have := u8_lt l[k]
  rw [vget_step h, if_neg (by omega), if_neg (by omega), hd, show d % 128 = d - 128 by omega]
theorem vget_form {d : Nat} (h : k < l.length) (hd : (l[k]).toNat = d) (h1 : (k = 9 ∧ 1 < d) ∨ (d = 0 ∧ 0 < k)) : vget k acc (l.drop k) = (0, 0, 3) := by
  rw [vget_step h, hd]
  split
  · rfl
  · rw [if_pos (by omega), if_pos (by omega)]
theorem vget_done {d : Nat} (h : k < l.length) (hd : (l[k]).toNat = d) (h1 : ¬(k = 9 ∧ 1 < d)) (h2 : d < 128) (h3 : ¬(d = 0 ∧ 0 < k)) : vget k acc (l.drop k) = (acc + d % 128 * 128 ^ k, k + 1, 0) := by
  rw [vget_step h, hd, if_neg h1, if_pos h2, if_neg h3, Nat.mod_eq_of_lt h2]
theorem vget_lt {d : Nat} (ha : acc < 128 ^ k) : acc + d % 128 * 128 ^ k < 128 ^ (k + 1) := by
  rw [Nat.pow_succ]
  have : d % 128 * 128 ^ k ≤ 127 * 128 ^ k := Nat.mul_le_mul_right _ (by omega)
  omega
end

/-! ### Put and Size -/
def vput (n : Nat) : List UInt8 := if n < 128 then [UInt8.ofNat n] else UInt8.ofNat (n % 128 + 128) :: vput (n / 128)
termination_by n
decreasing_by omega

theorem vput_lo {n : Nat} (h : n < 128) : vput n = [UInt8.ofNat n] := by rw [vput, if_pos h]
theorem vput_hi {n : Nat} (h : 128 ≤ n) : vput n = UInt8.ofNat (n % 128 + 128) :: vput (n / 128) := by rw [vput, if_neg (by omega)]
theorem vput_pos (n : Nat) : 0 < (vput n).length := by
  rcases Nat.lt_or_ge n 128 with h | h
  · rw [vput_lo h]; simp
  · rw [vput_hi h]; simp

theorem toNat_u8 {n : Nat} (h : n < 256) : (UInt8.ofNat n).toNat = n := by
  rw [UInt8.toNat_ofNat']
  exact Nat.mod_eq_of_lt (by omega)

/-- How many bytes: by the bits. -/
theorem vput_size : ∀ n : Nat, n < 18446744073709551616 → (vput n).length = max 1 ((Lib.bitLen n + 6) / 7) := by
  intro n
  induction n using Nat.strongRecOn with
  | ind n ih =>
    intro hn
    rcases Nat.lt_or_ge n 128 with h | h
    · have hb : Lib.bitLen n ≤ 7 := by
        have : ∀ n : Fin 128, Lib.bitLen n.val ≤ 7 := by decide +kernel
        exact this ⟨n, h⟩
      rw [vput_lo h]
      simp only [List.length_singleton]
      omega
    · have hs := Lib.bitLen_shift 7 n h hn
      rw [show (2 : Nat) ^ 7 = 128 from rfl] at hs
      have hq : 0 < Lib.bitLen (n / 128) := by rw [Lib.bitLen_half (n / 128) (by omega) (by omega)]; omega
      rw [vput_hi h, List.length_cons, ih (n / 128) (by omega) (by omega), hs]
      omega
theorem vput_le {n : Nat} (h : n < 18446744073709551616) : (vput n).length ≤ 10 := by
  have : ∀ k n : Nat, n < 128 ^ (k + 1) → (vput n).length ≤ k + 1 := by
    intro k
    induction k with
    | zero => intro n hn; rw [vput_lo (by simpa using hn)]; simp
    | succ k ih =>
      intro n hn
      rcases Nat.lt_or_ge n 128 with h | h
      · rw [vput_lo h]; simp
      · have := ih (n / 128) (by rw [Nat.pow_succ] at hn; omega)
        rw [vput_hi h, List.length_cons]
        omega
  exact this 9 n (Nat.lt_trans h (by decide))

theorem orbyte (m : Nat) : bits .or .u8 (IntKind.u8.wrap (m : Int)) 128 = (((UInt8.ofNat (m % 128 + 128)).toNat : Nat) : Int) := by
  have h : IntKind.u8.wrap (m : Int) = ((m % 256 : Nat) : Int) := by rw [IntKind.wrap_u8]; omega
  rw [h, or128 _ (by omega), toNat_u8 (by omega)]
  omega
theorem lobyte' (m : Nat) (h : m < 128) : (m : Int) = (((UInt8.ofNat m).toNat : Nat) : Int) := by
  rw [toNat_u8 (by omega)]
theorem lobyte (m : Nat) (h : m < 128) : IntKind.u8.wrap (m : Int) = (((UInt8.ofNat m).toNat : Nat) : Int) := by
  rw [toNat_u8 (by omega), IntKind.wrap_u8]
  omega

/-! ### Fold and Open -/
def foldS (n : Int) : Int := if 0 ≤ n then 2 * n else -2 * n - 1
def openS (u : Int) : Int := if u % 2 = 0 then u / 2 else -(u / 2) - 1

theorem xor_u64_zero (a : Nat) (ha : a < 18446744073709551616) : bits .xor .u64 (a : Int) 0 = (a : Int) := by
  show IntKind.u64.wrap ((BitVec.ofInt 64 (a : Int) ^^^ BitVec.ofInt 64 0).toNat : Int) = _
  rw [show BitVec.ofInt 64 0 = 0#64 from rfl, BitVec.xor_zero, BitVec.ofInt_natCast, BitVec.toNat_ofNat, Nat.mod_eq_of_lt (by omega), wrap_u64_nat _ ha]
theorem xor_u64_ones (a : Nat) (ha : a < 18446744073709551616) : bits .xor .u64 (a : Int) 18446744073709551615 = 18446744073709551615 - (a : Int) := by
  show IntKind.u64.wrap ((BitVec.ofInt 64 (a : Int) ^^^ BitVec.ofInt 64 18446744073709551615).toNat : Int) = _
  rw [show BitVec.ofInt 64 18446744073709551615 = BitVec.allOnes 64 from rfl, BitVec.xor_allOnes, BitVec.toNat_not, BitVec.ofInt_natCast, BitVec.toNat_ofNat, Nat.mod_eq_of_lt (by omega), wrap_u64_nat _ (by omega)]
  omega
theorem foldbits {n : Int} (h0 : -9223372036854775808 ≤ n) (h1 : n ≤ 9223372036854775807) :
    bits .xor .u64 (IntKind.u64.wrap (IntKind.u64.wrap n * 2)) (IntKind.u64.wrap (n / 9223372036854775808)) = foldS n := by
  have hw : ∀ x : Int, IntKind.u64.wrap x = x % 18446744073709551616 := fun x => by simp [IntKind.wrap, IntKind.bits, IntKind.signed]
  rw [hw, hw, hw]
  unfold foldS
  split
  · rename_i h
    have e1 : n % 18446744073709551616 * 2 % 18446744073709551616 = ((2 * n).toNat : Int) := by omega
    have e2 : n / 9223372036854775808 % 18446744073709551616 = 0 := by omega
    rw [e1, e2, xor_u64_zero _ (by omega)]
    omega
  · rename_i h
    have e1 : n % 18446744073709551616 * 2 % 18446744073709551616 = ((2 * n + 18446744073709551616).toNat : Int) := by omega
    have e2 : n / 9223372036854775808 % 18446744073709551616 = 18446744073709551615 := by omega
    rw [e1, e2, xor_u64_ones _ (by omega)]
    omega
theorem and_u64_one (a : Nat) (ha : a < 18446744073709551616) : bits .and .u64 (a : Int) 1 = ((a % 2 : Nat) : Int) := by
  have h := bits_and_u64_nat a 1 ha (by omega)
  rw [show ((1 : Nat) : Int) = 1 from rfl] at h
  rw [h, show a &&& 1 = a % 2 from Nat.and_one_is_mod a]
theorem xor_i64_zero (a : Nat) (ha : a < 9223372036854775808) : bits .xor .i64 (a : Int) 0 = (a : Int) := by
  show IntKind.i64.wrap ((BitVec.ofInt 64 (a : Int) ^^^ BitVec.ofInt 64 0).toNat : Int) = _
  rw [show BitVec.ofInt 64 0 = 0#64 from rfl, BitVec.xor_zero, BitVec.ofInt_natCast, BitVec.toNat_ofNat, Nat.mod_eq_of_lt (by omega), IntKind.wrap_i64]
  omega
theorem xor_i64_ones (a : Nat) (ha : a < 9223372036854775808) : bits .xor .i64 (a : Int) (-1) = -1 - (a : Int) := by
  show IntKind.i64.wrap ((BitVec.ofInt 64 (a : Int) ^^^ BitVec.ofInt 64 (-1)).toNat : Int) = _
  rw [show BitVec.ofInt 64 (-1) = BitVec.allOnes 64 from rfl, BitVec.xor_allOnes, BitVec.toNat_not, BitVec.ofInt_natCast, BitVec.toNat_ofNat, Nat.mod_eq_of_lt (by omega), IntKind.wrap_i64]
  omega
theorem openbits {u : Int} (h0 : 0 ≤ u) (h1 : u ≤ 18446744073709551615) :
    bits .xor .i64 (u / 2) (wrap64 (-wrap64 (bits .and .u64 u 1))) = openS u := by
  obtain ⟨a, rfl⟩ := Int.eq_ofNat_of_zero_le h0
  rw [and_u64_one a (by omega)]
  have e : ((a : Int) / 2) = ((a / 2 : Nat) : Int) := by omega
  rw [e]
  unfold openS wrap64
  split
  · rename_i h
    rw [show (a % 2 : Nat) = 0 by omega]
    rw [show -(((((0 : Nat) : Int) + 9223372036854775808) % 18446744073709551616 - 9223372036854775808)) = (0 : Int) by decide, show (((0 : Int) + 9223372036854775808) % 18446744073709551616 - 9223372036854775808) = 0 by decide, xor_i64_zero _ (by omega)]
    omega
  · rename_i h
    rw [show (a % 2 : Nat) = 1 by omega]
    rw [show -(((((1 : Nat) : Int) + 9223372036854775808) % 18446744073709551616 - 9223372036854775808)) = (-1 : Int) by decide, show (((-1 : Int) + 9223372036854775808) % 18446744073709551616 - 9223372036854775808) = -1 by decide, xor_i64_ones _ (by omega)]
    omega
end Go.Proofs.Ytgohhojoahlfiaa

/- Plain laws of varints: what is written is read as it was; what is read is what was written; a greater number's has no fewer bytes; none begins another one's. -/
namespace Go.Proofs.Ytgohhojoahlfiaa

theorem vget_vput : ∀ (m i acc : Nat) (rest : List UInt8), m * 128 ^ i < 18446744073709551616 → i ≤ 9 → (i = 0 ∨ 0 < m) →
    vget i acc (vput m ++ rest) = (acc + m * 128 ^ i, i + (vput m).length, 0) := by
  intro m
  induction m using Nat.strongRecOn with
  | ind m ih =>
    intro i acc rest hm hi h0
    have h9 : i = 9 → m ≤ 1 := fun h => by
      subst h
      rcases Nat.lt_or_ge 1 m with h | h
      · have : 2 * 128 ^ 9 ≤ m * 128 ^ 9 := Nat.mul_le_mul_right _ h
        simp only [Nat.reducePow] at this hm
        omega
      · exact h
    rcases Nat.lt_or_ge m 128 with h | h
    · rw [vput_lo h, List.cons_append, vget, toNat_u8 (by omega), if_neg (by omega), if_pos h, if_neg (by omega)]
      rfl
    · have hs : m / 128 * 128 ^ (i + 1) ≤ m * 128 ^ i := by
        rw [Nat.pow_succ, Nat.mul_comm (128 ^ i), ← Nat.mul_assoc]
        exact Nat.mul_le_mul_right _ (Nat.div_mul_le_self m 128)
      rw [vput_hi h, List.cons_append, vget, toNat_u8 (by omega), if_neg (by omega), if_neg (by omega), ih (m / 128) (by omega) (i + 1) _ rest (by omega) (by omega) (by omega)]
      have e : acc + (m % 128 + 128 - 128) * 128 ^ i + m / 128 * 128 ^ (i + 1) = acc + m * 128 ^ i := by
        rw [Nat.add_sub_cancel, Nat.pow_succ, Nat.mul_comm (128 ^ i) 128, ← Nat.mul_assoc, Nat.add_assoc, ← Nat.add_mul]
        congr 2
        omega
      rw [e, List.length_cons, Nat.add_assoc, Nat.add_comm 1]
theorem vget_back (m : Nat) (hm : m < 18446744073709551616) (rest : List UInt8) : vgetS (vput m ++ rest) = (m, (vput m).length, 0) := by
  unfold vgetS
  rw [vget_vput m 0 0 rest (by simpa using hm) (by omega) (.inl rfl)]
  simp

theorem vget_cut : ∀ (m i acc j : Nat), m * 128 ^ i < 18446744073709551616 → i ≤ 9 → j < (vput m).length → vget i acc ((vput m).take j) = (0, 0, 2) := by
  intro m
  induction m using Nat.strongRecOn with
  | ind m ih =>
    intro i acc j hm hi hj
    rcases Nat.lt_or_ge m 128 with h | h
    · rw [vput_lo h] at hj ⊢
      simp only [List.length_singleton] at hj
      obtain rfl : j = 0 := by omega
      rfl
    · have h9 : i ≠ 9 := fun e => by
        subst e
        have : 128 * 128 ^ 9 ≤ m * 128 ^ 9 := Nat.mul_le_mul_right _ h
        simp only [Nat.reducePow] at this hm
        omega
      have hs : m / 128 * 128 ^ (i + 1) ≤ m * 128 ^ i := by
        rw [Nat.pow_succ, Nat.mul_comm (128 ^ i), ← Nat.mul_assoc]
        exact Nat.mul_le_mul_right _ (Nat.div_mul_le_self m 128)
      rw [vput_hi h] at hj ⊢
      rcases j with _ | j
      · rfl
      · rw [List.length_cons] at hj
        rw [List.take_succ_cons, vget, toNat_u8 (by omega), if_neg (by omega), if_neg (by omega)]
        exact ih (m / 128) (by omega) (i + 1) _ j (by omega) (by omega) (by omega)

theorem vget_err : ∀ (l : List UInt8) (i acc : Nat), (vget i acc l).2.2 ≠ 0 → (vget i acc l).1 = 0 ∧ (vget i acc l).2.1 = 0 ∧ ((vget i acc l).2.2 = 2 ∨ (vget i acc l).2.2 = 3)
  | [], i, acc, _ => ⟨rfl, rfl, .inl rfl⟩
  | c :: l, i, acc, h => by
    rw [vget] at h ⊢
    split
    · exact ⟨rfl, rfl, .inr rfl⟩
    · rename_i h1
      rw [if_neg h1] at h
      split
      · rename_i h2
        rw [if_pos h2] at h
        split
        · exact ⟨rfl, rfl, .inr rfl⟩
        · rename_i h3
          rw [if_neg h3] at h
          exact absurd rfl h
      · rename_i h2
        rw [if_neg h2] at h
        exact vget_err l _ _ h

theorem vget_sound : ∀ (l : List UInt8) (i acc : Nat), acc < 128 ^ i → i ≤ 9 → (vget i acc l).2.2 = 0 →
    ∃ m, (vget i acc l).1 = acc + m * 128 ^ i ∧ (vget i acc l).2.1 = i + (vput m).length ∧ (vput m).length ≤ l.length ∧ vput m = l.take (vput m).length ∧ (i = 0 ∨ 0 < m) ∧ acc + m * 128 ^ i < 18446744073709551616
  | [], i, acc, _, _, h => by simp [vget] at h
  | c :: l, i, acc, ha, hi, h => by
    have hc := u8_lt c
    rw [vget] at h ⊢
    split
    · rename_i h1
      rw [if_pos h1] at h
      simp at h
    · rename_i h1
      rw [if_neg h1] at h
      split
      · rename_i h2
        rw [if_pos h2] at h
        split
        · rename_i h3
          rw [if_pos h3] at h
          simp at h
        · rename_i h3
          have hu : UInt8.ofNat c.toNat = c := by simp
          have ht := top_le (k := i) hc hi (by omega)
          rw [Nat.mod_eq_of_lt h2] at ht
          refine ⟨c.toNat, rfl, ?_, ?_, ?_, by omega, by omega⟩
          · rw [vput_lo h2]; rfl
          · rw [vput_lo h2]; simp
          · rw [vput_lo h2, hu]; simp
      · rename_i h2
        rw [if_neg h2] at h
        have h9 : i ≠ 9 := by omega
        have hlt : acc + (c.toNat - 128) * 128 ^ i < 128 ^ (i + 1) := by
          rw [Nat.pow_succ]
          have : (c.toNat - 128) * 128 ^ i ≤ 127 * 128 ^ i := Nat.mul_le_mul_right _ (by omega)
          omega
        obtain ⟨m, e1, e2, e3, e4, e5, e6⟩ := vget_sound l (i + 1) _ hlt (by omega) h
        have hm : 128 ≤ c.toNat - 128 + m * 128 := by omega
        have hd : (c.toNat - 128 + m * 128) / 128 = m := by omega
        have hr : (c.toNat - 128 + m * 128) % 128 = c.toNat - 128 := by omega
        have hv : vput (c.toNat - 128 + m * 128) = c :: vput m := by
          rw [vput_hi hm, hd, hr, Nat.sub_add_cancel (by omega)]
          simp
        have he : acc + (c.toNat - 128) * 128 ^ i + m * 128 ^ (i + 1) = acc + (c.toNat - 128 + m * 128) * 128 ^ i := by
          rw [Nat.pow_succ, Nat.mul_comm (128 ^ i) 128, ← Nat.mul_assoc, Nat.add_assoc, ← Nat.add_mul]
        refine ⟨c.toNat - 128 + m * 128, by rw [e1, he], ?_, ?_, ?_, .inr (by omega), by omega⟩
        · rw [e2, hv, List.length_cons]; omega
        · rw [hv, List.length_cons, List.length_cons]; omega
        · rw [hv, List.length_cons, List.take_succ_cons, ← e4]

/-- What is read has just the bytes with which it is written. -/
theorem vget_only {l : List UInt8} {n k : Nat} (h : vgetS l = (n, k, 0)) : n < 18446744073709551616 ∧ 1 ≤ k ∧ k ≤ l.length ∧ k = (vput n).length ∧ vput n = l.take k := by
  have h0 : (vget 0 0 l).2.2 = 0 := by
    have := congrArg (fun x => x.2.2) h
    simpa [vgetS] using this
  obtain ⟨m, e1, e2, e3, e4, _, e6⟩ := vget_sound l 0 0 (by simp) (by omega) h0
  have hn : n = m := by
    have := congrArg (fun x => x.1) h
    simp only [vgetS] at this
    rw [e1] at this
    simp at this
    omega
  have hk : k = (vput m).length := by
    have := congrArg (fun x => x.2.1) h
    simp only [vgetS] at this
    rw [e2] at this
    simp at this
    omega
  subst hn hk
  exact ⟨by simpa using e6, vput_pos n, e3, rfl, e4⟩
theorem vget_bad {l : List UInt8} {n k e : Nat} (h : vgetS l = (n, k, e)) (he : e ≠ 0) : n = 0 ∧ k = 0 ∧ (e = 2 ∨ e = 3) := by
  unfold vgetS at h
  have := vget_err l 0 0 (by rw [h]; exact he)
  rw [h] at this
  exact this

theorem vput_mono : ∀ (b a : Nat), a ≤ b → (vput a).length ≤ (vput b).length := by
  intro b
  induction b using Nat.strongRecOn with
  | ind b ih =>
    intro a h
    rcases Nat.lt_or_ge a 128 with ha | ha
    · rw [vput_lo ha]
      exact vput_pos b
    · rw [vput_hi ha, vput_hi (by omega : 128 ≤ b), List.length_cons, List.length_cons]
      have := ih (b / 128) (by omega) (a / 128) (by omega)
      omega
/-- None begins another one's. -/
theorem vput_prefix {a b : Nat} (ha : a < 18446744073709551616) (hb : b < 18446744073709551616) (h : vput a = (vput b).take (vput a).length) : a = b := by
  have h1 : vput b = vput a ++ (vput b).drop (vput a).length := by
    conv => lhs; rw [← List.take_append_drop (vput a).length (vput b), ← h]
  have h2 := vget_back b hb []
  rw [List.append_nil, h1, vget_back a ha] at h2
  have := congrArg (fun x => x.1) h2
  exact this
theorem vput_inj {a b : Nat} (ha : a < 18446744073709551616) (hb : b < 18446744073709551616) (h : vput a = vput b) : a = b :=
  vput_prefix ha hb (by rw [h]; simp)
theorem vput_beq {a b : Nat} (ha : a < 18446744073709551616) (hb : b < 18446744073709551616) : (vput a == vput b) = (a == b) := by
  rcases Nat.decEq a b with h | h
  · rw [beq_eq_false_iff_ne.2 h, beq_eq_false_iff_ne.2 (fun e => h (vput_inj ha hb e))]
  · subst h; simp

theorem open_fold {n : Int} : openS (foldS n) = n := by unfold openS foldS; split <;> split <;> omega
theorem fold_open {u : Int} (h0 : 0 ≤ u) : foldS (openS u) = u := by unfold openS foldS; split <;> split <;> omega
end Go.Proofs.Ytgohhojoahlfiaa

/- A row of one's own: its base may be told lower; a row of one byte. -/
namespace Go.Proofs.Ytgohhojoahlfiaa
open Go.RowKit
set_option linter.unusedVariables false

theorem own_base' {w : World} {base base' : Nat} {e : TypeId} {size n : Nat} {v : Value} {xs : List Value} (h : w.ownsRow base e size v n xs) (hb : base' ≤ base) : w.ownsRow base' e size v n xs := by
  refine ⟨h.1, ?_⟩
  rcases h.2 with h2 | ⟨g, cap, cur, h1, h2, h3⟩
  · exact .inl h2
  · exact .inr ⟨g, cap, cur, h1, Nat.le_trans hb h2, h3⟩
theorem own_one (w : World) (base : Nat) (e : TypeId) (x : UInt8) (z : Int) (hz : z = (x.toNat : Int)) (hb : base ≤ w.heap.size) : (w.alloc (.cells #[.int .u8 z] e)).ownsRow base e 1 (.slice (some ⟨w.heap.size, 0, none⟩) 1 1) 1 (bcells [x]) := by
  subst hz
  exact World.ownsRow_lit w #[.int .u8 (x.toNat : Int)] 1 hb (by unfold maxLen; omega) (by simp)
end Go.Proofs.Ytgohhojoahlfiaa
