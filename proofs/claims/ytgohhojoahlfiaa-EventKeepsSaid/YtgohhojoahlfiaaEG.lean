/- Generic pieces that the chapters on structs share: addresses, whole loads, comparisons and stores of structs, boxes. -/
import Derived.Test.YtgohhojoahlfiaaK2
import Derived.Test.YtgohhojoahlfiaaKE
import Derived.Test.YtgohhojoahlfiaaKV
import Derived.Test.YtgohhojoahlfiaaTurn
import Derived.Deep.LoopGhost
import Derived.Deep.Cut
import Derived.Deep.CutRange
import Derived.Deep.MidRow
import Derived.Stop.BytesEq
import Derived.ChangeKeysEq
import Derived.Laws.ResultCell
import Derived.Laws.CopyOwn
namespace Go.Proofs.Ytgohhojoahlfiaa
open Go.RowKit
set_option linter.unusedVariables false
set_option linter.unusedSimpArgs false


/-- An address: is it of the sixth version, its sixteen bytes. -/
abbrev AddrP : Type := Bool × List UInt8
def addrCs (a : AddrP) : List Value := .bool a.1 :: bcells a.2
def addrV (a : AddrP) : Value := .agg (addrCs a).toArray
def addrOk (a : AddrP) : Prop := a.2.length = 16
theorem addrCs_length {a : AddrP} (h : addrOk a) : (addrCs a).length = 17 := by
  have : a.2.length = 16 := h
  simp [addrCs, bcells_length, this]

/-- Has an address nothing behind what its family has? -/
def tailB (b : List UInt8) : Bool := (b.drop 4).all (· == 0)
def shortB (a : AddrP) : Bool := a.1 || tailB a.2
theorem blk_range {w : World} {g : Nat} {t : TypeId} {cs : List Value} (h : Blk w g t cs.toArray) : w.rangeAt g 0 cs := fun j v hj => by
  rw [h.cell, Nat.zero_add, List.getElem?_toArray]
  exact hj
theorem addr_size : (Try.prog.info? 25).map (·.size) = some 17 := by kernel_rfl
section
variable {P : Program}
/-- A load of a row or a struct, whole, guarded or not. -/
theorem wpList_load_g {ops : Array Oper} {rest : List Oper} {op : Oper} {a : Act} {w : World} {Q : Exit → Act → World → Prop} (hw : Region.wanted op (yielded ops a.tmps) = true) (ty : TypeId) (x : Operand) (ho : op.op = .load ty x)
    (b o : Nat) (hx : a.eval x = .pointer (some ⟨b, o, none⟩)) (cs : List Value) (d : TypeDesc) (hc : w.rangeAt b o cs)
    (hu : P.underlying ty = some d) (hd : d.isRow = true) (hi : (P.info? ty).map (·.size) = some cs.length)
    (h : wpList P ops Q rest (a.put op.dst (.agg cs.toArray)) w) : wpList P ops Q (op :: rest) a w :=
  wpList_step fun K hK => by
    rw [if_pos hw]
    exact wp_load_mid ty x ho b o hx cs d hc hu hd hi (hK _ _ h)
end
theorem addr_sz {a : AddrP} (ha : addrOk a) : (Try.prog.info? 25).map (·.size) = some (addrCs a).length := by rw [addrCs_length ha]; exact addr_size
theorem addr_c0 {w : World} {g : Nat} {t : TypeId} {a : AddrP} (h : Blk w g t (addrCs a).toArray) : w.cell? ⟨g, 0, none⟩ = some (.bool a.1) := h.cell 0
theorem addr_bs {w : World} {g : Nat} {t : TypeId} {a : AddrP} (h : Blk w g t (addrCs a).toArray) (k : Nat) (B : Nat) (hB : g < B) : BS w B (some ⟨g, 1 + k, none⟩) (a.2.drop k) := fun hp => by
  refine ⟨_, rfl, hB, fun j c hj => ?_⟩
  rw [List.getElem?_drop] at hj
  have e : ((⟨g, 1 + k, none⟩ : Addr).add j) = ⟨g, 1 + k + j, none⟩ := by unfold Addr.add; split <;> simp_all
  rw [e, h.cell]
  simp only [addrCs, List.getElem?_toArray]
  rw [show 1 + k + j = (k + j) + 1 by omega, List.getElem?_cons_succ, bcells, List.getElem?_map, hj]
  rfl
theorem addr_bs0 {w : World} {g : Nat} {t : TypeId} {a : AddrP} (h : Blk w g t (addrCs a).toArray) (B : Nat) (hB : g < B) : BS w B (some ⟨g, 1, none⟩) a.2 := by
  have := addr_bs h 0 B hB
  simpa using this
theorem addr_cell {w : World} {g : Nat} {t : TypeId} {a : AddrP} (h : Blk w g t (addrCs a).toArray) {k : Nat} (hk : k < a.2.length) : w.cell? ⟨g, 1 + k, none⟩ = some (.int .u8 ((a.2[k]).toNat : Int)) := by
  rw [h.cell]
  simp only [addrCs, List.getElem?_toArray]
  rw [show 1 + k = k + 1 by omega, List.getElem?_cons_succ, bcells, List.getElem?_map, List.getElem?_eq_getElem hk]
  rfl
theorem addr_part1 (a : AddrP) (ha : addrOk a) : (addrCs a).toArray.extract 1 17 = (bcells a.2).toArray := by
  have h : a.2.length = 16 := ha
  apply Array.ext'
  simp only [Array.toList_extract, addrCs, List.extract_eq_take_drop, List.drop_succ_cons, List.drop_zero]
  exact List.take_of_length_le (by simp [bcells, h])
theorem addr_under : Try.prog.underlying 25 = some (.struct (Try.prog.fieldsOf 25)) := by kernel_rfl
theorem addr_held : Try.prog.stoodInHeld 25 = false := by kernel_rfl

theorem arr16_size (w : World) : (sizeOf 23).run Try.prog w = .ok 16 w := by
  obtain ⟨i, hi⟩ := info_of_underlying Try.underlying23
  rw [run_sizeOf w hi, show Try.prog.cellsOf 23 = 16 by kernel_rfl]
theorem u8_size1 (w : World) : (sizeOf 5).run Try.prog w = .ok 1 w := by
  obtain ⟨i, hi⟩ := info_of_underlying Try.underlying5
  rw [run_sizeOf w hi, show Try.prog.cellsOf 5 = 1 by kernel_rfl]
theorem addr_p0 (x : AddrP) (w : World) : (part 4 (addrCs x).toArray 0).run Try.prog w = .ok (.bool x.1) w := by
  simp [part, isAgg, run_underlying Try.underlying4, addrCs]
theorem addr_p1 (x : AddrP) (hx : addrOk x) (w : World) : (part 23 (addrCs x).toArray 1).run Try.prog w = .ok (.agg (x.2.map Extern.Stop.cell).toArray) w := by
  have h : bcells x.2 = x.2.map Extern.Stop.cell := rfl
  simp only [part, isAgg, Sem.run_bind, run_underlying Try.underlying23, Result.andThen_ok, Sem.run_pure, arr16_size, if_true, Nat.reduceAdd, addr_part1 x hx, h]

theorem addr_eqIn (d : Nat) (a b : AddrP) (ha : addrOk a) (hb : addrOk b) (w : World) :
    (Op.equalIn (d + 3) 25 (.agg (addrCs a).toArray) (.agg (addrCs b).toArray)).run Try.prog w = .ok (a == b) w := by
  have hab : (a == b) = (a.1 == b.1 && a.2 == b.2) := rfl
  rw [run_equalIn_struct w (d + 2) _ _ _ addr_under addr_held, hab]
  simp only [Program.fieldsOf, Try.underlying25, Op.eqFields]
  have h0 := run_equalIn_bool w (d + 1) 4 a.1 b.1 Try.underlying4
  have h1 := run_equalIn_bytes w d 23 5 16 Try.underlying23 Try.underlying5 u8_size1 a.2 b.2 ha hb
  rw [if_pos (by decide)]
  simp only [Sem.run_bind, addr_p0, Result.andThen_ok, h0]
  cases hc : (a.1 == b.1)
  · simp
  · simp only [Bool.not_true, Bool.false_eq_true, if_false]
    rw [if_pos (by decide)]
    simp only [Sem.run_bind, addr_p1 a ha, addr_p1 b hb, Result.andThen_ok, h1]
    cases hd : (a.2 == b.2) <;> simp
theorem addr_guard : Try.prog.eqGuardType Try.prog.depth 25 = false := by kernel_rfl
section
variable {P : Program}
/-- Two structs compared, guarded or not. -/
theorem wpList_eqs_g {ops : Array Oper} {rest : List Oper} {op : Oper} {a : Act} {w : World} {Q : Exit → Act → World → Prop} (hw : Region.wanted op (yielded ops a.tmps) = true) (ty tz : TypeId) (x y : Operand) (ho : op.op = .binOp .eql ty x y tz)
    (xs ys : Array Value) (hx : a.eval x = .agg xs) (hy : a.eval y = .agg ys) (hm : P.eqGuardType P.depth ty = false) (r : Bool) (he : (Op.equalIn 10000 ty (.agg xs) (.agg ys)).run P w = .ok r w)
    (h : wpList P ops Q rest (a.put op.dst (.bool r)) w) : wpList P ops Q (op :: rest) a w :=
  wpList_step fun K hK => by
    rw [if_pos hw]
    unfold Oper.wp execOp
    simp only [ho, hx, hy, Sem.run_bind, run_eqGuard_agg w _ _ _ _ _ _ hm, Result.andThen_ok, run_eql_struct, he, Sem.run_pure]
    exact hK _ _ h
end

theorem results_row_tmp {P : Program} {fn : Func} {p u : Tmp} {ty : TypeId} (h : fn.results = #[.cell p ty, .tmp u]) (tmps : Array Value) (w : World) (g : Nat) (t : TypeId) (cs : Array Value) (fr : Nat × Nat) (d : TypeDesc)
    (hp : tmps.getD p undef = .pointer (some ⟨g, 0, none⟩)) (hg : w.heap[g]? = some (.cells cs t fr))
    (hu : P.underlying ty = some d) (hd : (match d with | .struct _ | .array _ _ => true | _ => false) = true) (hi : (P.info? ty).map (·.size) = some cs.size) :
    (results fn tmps).run P w = .ok (.tuple #[.agg cs, tmps.getD u undef]) w := by
  rw [results_cell_tmp h, hp]
  simp [asAddr, run_loadVar_row w g t ty cs fr d hg hu hd hi]
def addr0 : AddrP := (false, List.replicate 16 0)
theorem addr0_ok : addrOk addr0 := rfl
theorem len16 {l : List UInt8} (h : l.length = 16) : ∃ y0 y1 y2 y3 y4 y5 y6 y7 y8 y9 ya yb yc yd ye yf, l = [y0, y1, y2, y3, y4, y5, y6, y7, y8, y9, ya, yb, yc, yd, ye, yf] := by
  match l, h with
  | [y0, y1, y2, y3, y4, y5, y6, y7, y8, y9, ya, yb, yc, yd, ye, yf], _ => exact ⟨_, _, _, _, _, _, _, _, _, _, _, _, _, _, _, _, rfl⟩
theorem boxed (w W1 W2 : World) (t : TypeId) (z cs : List Value) (hl : cs.length = z.length) (h1 : W1 = w.alloc (.cells z.toArray t)) (h2 : W2 = W1.setCells w.heap.size 0 cs) :
    W1.there w.heap.size 0 cs.toArray.size ∧ Blk W2 w.heap.size t cs.toArray ∧ Below w.heap.size w W2 := by
  subst h1 h2
  have hb : Blk (w.alloc (.cells z.toArray t)) w.heap.size t z.toArray := Blk.new w _ _ _ rfl
  refine ⟨hb.there (by simp [hl]), ?_, below_setCells (Nat.le_refl _) _ _ ((Below.refl _ _).alloc (Nat.le_refl _) _)⟩
  have := Blk.setCells cs 0 hb
  rw [setL_whole (vs := cs) (cs := z) hl] at this
  exact this
theorem addr0_lit : (addrCs addr0).toArray = (#[.bool false, .int .u8 0, .int .u8 0, .int .u8 0, .int .u8 0, .int .u8 0, .int .u8 0, .int .u8 0, .int .u8 0, .int .u8 0, .int .u8 0, .int .u8 0, .int .u8 0, .int .u8 0, .int .u8 0, .int .u8 0, .int .u8 0] : Array Value) := rfl
theorem addr_one (a : AddrP) : (addrCs a).toArray.all (·.oneCell') = true := all_oneCell_toArray (by
  intro u hu
  have := all_one_addr a.2 a.1 [] (by simp) u (by rw [List.append_nil]; exact hu)
  exact this)
theorem grownRow (w : World) (g : Nat) (cs : Array Value) : w.grownBy (w.setRow g cs) (some g) :=
  ⟨rfl, rfl, rfl, by simp [World.setRow], fun k hk hne => setRow_other w g k cs (fun e => hne (by rw [e]))⟩
theorem grownCells (w : World) (g o : Nat) : ∀ (vs : List Value) {w' : World} (o : Nat), w.grownBy w' (some g) → w.grownBy (w'.setCells g o vs) (some g)
  | [], _, _, h => h
  | v :: r, _, o, h => grownCells w g o r (o + 1) (grownTrans h (grownSet _ ⟨g, o, none⟩ v))
theorem own_types_ne {w : World} {b b' : Nat} {e e' : TypeId} {s s' n n' : Nat} {v v' : Value} {xs xs' : List Value} (h : w.ownsRow b e s v n xs) (h' : w.ownsRow b' e' s' v' n' xs') (hne : e ≠ e') : v.ownBlock = none ∨ v.ownBlock ≠ v'.ownBlock := by
  rcases h.2 with ⟨rfl, _⟩ | ⟨g, cap, cur, rfl, _, hh, _⟩
  · exact .inl rfl
  · right
    rcases h'.2 with ⟨rfl, _⟩ | ⟨g', cap', cur', rfl, _, hh', _⟩
    · simp [Value.ownBlock]
    · intro e1
      have : g = g' := by simpa [Value.ownBlock] using e1
      subst this
      rw [hh] at hh'
      injection hh' with hh'
      injection hh' with _ ht
      exact hne ht
theorem own_ne_row {w : World} {base : Nat} {e : TypeId} {size n : Nat} {v : Value} {xs : List Value} {row : Option Nat} (h : w.ownsRow base e size v n xs) (hr : ∀ k, row = some k → k < base) : v.ownBlock = none ∨ v.ownBlock ≠ row := by
  rcases hv : v.ownBlock with _ | k
  · exact .inl rfl
  · right
    intro h2
    have h3 := hr k h2.symm
    have h4 := (h.lt k hv).1
    omega
theorem own_put8 {w : World} {base : Nat} {A : Option Addr} {c : Nat} {l : List UInt8} (h : w.ownsRow base 5 1 (.slice A l.length c) l.length (bcells l)) {k : Nat} (hk : k < l.length) (x : UInt8) :
    ∃ g, A = some ⟨g, 0, none⟩ ∧ base ≤ g ∧ g < w.heap.size ∧ w.cell? ⟨g, k, none⟩ = some (.int .u8 (l[k].toNat : Int)) ∧ w.frozen? ⟨g, k, none⟩ = false ∧ (w.setCell ⟨g, k, none⟩ (.int .u8 (x.toNat : Int))).ownsRow base 5 1 (.slice A (l.set k x).length c) (l.set k x).length (bcells (l.set k x)) := by
  obtain ⟨g, cap, hv, h2, h3⟩ := h.form (by omega)
  injection hv with hA hn hc
  subst hA hc
  have hcell := h.cellAt (g := g) k (by omega)
  refine ⟨g, rfl, h2, h3, ?_, h.frozenAt k, ?_⟩
  · rw [hcell, bcells, List.getElem?_map, List.getElem?_eq_getElem hk]; rfl
  · have := (h.stored k (.int .u8 (x.toNat : Int))).1
    rw [List.length_set, bcells_set]
    exact this
end Go.Proofs.Ytgohhojoahlfiaa
