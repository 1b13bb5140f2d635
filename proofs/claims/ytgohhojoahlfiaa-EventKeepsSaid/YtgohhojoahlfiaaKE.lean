/- Laid into one text: Mid Idx Eqs. -/
import Derived.Test.YtgohhojoahlfiaaKA
import Derived.Laws.IdiomCopy
import Derived.Deep.MidRow
import Derived.Laws.PanicsMore
import Derived.Laws.StructEq
import Derived.OrdersHeld

/- Many cells of a block stored at once: what the block is then. No program in sight. -/
namespace Go.Proofs.Ytgohhojoahlfiaa
open Go.RowKit
set_option linter.unusedVariables false

/-- Cells set from a place on. -/
def setL (cs : Array Value) (o : Nat) : List Value → Array Value
  | [] => cs
  | v :: r => setL (cs.setIfInBounds o v) (o + 1) r
theorem setL_list : ∀ (vs : List Value) (cs : List Value) (o : Nat), o + vs.length ≤ cs.length → setL cs.toArray o vs = (cs.take o ++ (vs ++ cs.drop (o + vs.length))).toArray
  | [], cs, o, _ => by simp [setL]
  | v :: r, cs, o, h => by
    have hl : o < cs.length := by simp at h; omega
    rw [setL, List.setIfInBounds_toArray, setL_list r (cs.set o v) (o + 1) (by simp at h ⊢; omega)]
    congr 1
    have e1 : (cs.set o v).take (o + 1) = cs.take o ++ [v] := by
      rw [List.take_add_one, List.getElem?_set_self hl, List.take_set_of_le (by omega)]
      rfl
    have e2 : (cs.set o v).drop (o + 1 + r.length) = cs.drop (o + (v :: r).length) := by
      rw [List.drop_set_of_lt (by omega)]
      simp only [List.length_cons]
      congr 1
      omega
    rw [e1, e2]
    simp
theorem setL_whole {vs cs : List Value} (h : vs.length = cs.length) : setL cs.toArray 0 vs = vs.toArray := by
  rw [setL_list vs cs 0 (by omega)]
  congr 1
  simp [h]
section
variable {w : World} {g k : Nat} {t : TypeId} {cs : Array Value}
theorem Blk.setCells : ∀ (vs : List Value) {w : World} {cs : Array Value} (o : Nat), Blk w g t cs → Blk (w.setCells g o vs) g t (setL cs o vs)
  | [], _, _, _, h => h
  | v :: r, _, _, o, h => Blk.setCells r (o + 1) (Blk.set_ h o v)
theorem Blk.setCellsFar (hk : g ≠ k) : ∀ (vs : List Value) {w : World} (o : Nat), Blk w g t cs → Blk (w.setCells k o vs) g t cs
  | [], _, _, h => h
  | v :: r, _, o, h => Blk.setCellsFar hk r (o + 1) (Blk.far h hk v)
theorem Blk.there {o n : Nat} (h : Blk w g t cs) (hn : o + n ≤ cs.size) : w.there g o n := fun j hj => by
  refine ⟨?_, Blk.frozen h _⟩
  rw [h.cell, Array.getElem?_eq_getElem (by omega)]
  rfl
end
theorem below_setCells {B : Nat} {a : World} {g : Nat} (hg : B ≤ g) : ∀ (vs : List Value) (o : Nat) {w : World}, Below B a w → Below B a (w.setCells g o vs)
  | [], _, _, h => h
  | v :: r, o, _, h => below_setCells hg r (o + 1) (h.setCell hg v)
theorem all_one_addr (l : List UInt8) (b : Bool) (zs : List Value) (h : ∀ v ∈ zs, v.oneCell' = true) : ∀ v ∈ Value.bool b :: (bcells l ++ zs), v.oneCell' = true := by
  intro v hv
  simp only [List.mem_cons, List.mem_append] at hv
  rcases hv with rfl | hv | hv
  · rfl
  · exact bcells_one l v hv
  · exact h v hv
end Go.Proofs.Ytgohhojoahlfiaa

/- 'a[i]' of an array by value whose elements are one cell each. No program in sight. -/
namespace Go.Proofs.Ytgohhojoahlfiaa
open Go.RowKit
set_option linter.unusedVariables false

section
variable {P : Program}
theorem run_index_int (w : World) (t e : TypeId) (n : Nat) (cs : Array Value) (k : Nat) (v : Value) (kd : IntKind) (h : P.underlying t = some (.array n e)) (he : P.underlying e = some (.int kd)) (h1 : (sizeOf e).run P w = .ok 1 w) (hk : k < n) (hv : cs[k]? = some v) :
    (Instr.index t (.agg cs) (.int .i64 (k : Int))).run P w = .ok v w := by
  have hn : 0 ≤ (k : Int) ∧ (k : Int) < (n : Int) := by omega
  simp [Instr.index, run_underlying h, asIntOf, hn, part, isAgg, run_underlying he, h1, hv, go_sem]
  exact fun h => absurd hk (by omega)
theorem wpList_index_g {ops : Array Oper} {rest : List Oper} {op : Oper} {a : Act} {w : World} {Q : Exit → Act → World → Prop} (hw : Region.wanted op (yielded ops a.tmps) = true) (t e : TypeId) (n : Nat) (kd : IntKind) (x y : Operand) (ho : op.op = .index t x y)
    (cs : Array Value) (k : Nat) (v : Value) (hx : a.eval x = .agg cs) (hy : a.eval y = .int .i64 (k : Int)) (h : P.underlying t = some (.array n e)) (he : P.underlying e = some (.int kd)) (h1 : (sizeOf e).run P w = .ok 1 w) (hk : k < n) (hv : cs[k]? = some v)
    (hr : wpList P ops Q rest (a.put op.dst v) w) : wpList P ops Q (op :: rest) a w :=
  wpList_step fun K hK => by
    rw [if_pos hw]
    unfold Oper.wp execOp
    simp only [ho, hx, hy, Sem.run_bind, run_index_int w t e n cs k v kd h he h1 hk hv, Result.andThen_ok, Sem.run_pure]
    exact hK _ _ hr
end
end Go.Proofs.Ytgohhojoahlfiaa

/- Two structs compared, in a region that draws its order. No program in sight. -/
namespace Go.Proofs.Ytgohhojoahlfiaa
open Go.RowKit
set_option linter.unusedVariables false

section
variable {P : Program}
/-! Gates ahead of an arm (arms are tried at every operation; one that does not fit may be dear): by 'with_reducible refine gateL T ?_'. -/
theorem gateL (ty : TypeId) {x : Operand} {d : Option Tmp} {t : TypeId} {p : String} {af : Array Edge} {gd : Option (Nat × Bool)} {ops : Array Oper} {rest : List Oper} {a : Act} {w : World} {Q : Exit → Act → World → Prop} (k : wpList P ops Q (⟨d, .load ty x, t, p, af, gd⟩ :: rest) a w) : wpList P ops Q (⟨d, .load ty x, t, p, af, gd⟩ :: rest) a w := k
theorem gateB (b : Builtin) {xs : Array Operand} {ats : Array TypeId} {d : Option Tmp} {t : TypeId} {p : String} {af : Array Edge} {gd : Option (Nat × Bool)} {ops : Array Oper} {rest : List Oper} {a : Act} {w : World} {Q : Exit → Act → World → Prop} (k : wpList P ops Q (⟨d, .call { callee := .builtin b, args := xs, argTypes := ats }, t, p, af, gd⟩ :: rest) a w) : wpList P ops Q (⟨d, .call { callee := .builtin b, args := xs, argTypes := ats }, t, p, af, gd⟩ :: rest) a w := k
theorem gateS (ty : TypeId) {x y : Operand} {d : Option Tmp} {t : TypeId} {p : String} {af : Array Edge} {gd : Option (Nat × Bool)} {ops : Array Oper} {rest : List Oper} {a : Act} {w : World} {Q : Exit → Act → World → Prop} (k : wpList P ops Q (⟨d, .store ty x y, t, p, af, gd⟩ :: rest) a w) : wpList P ops Q (⟨d, .store ty x y, t, p, af, gd⟩ :: rest) a w := k
theorem gateE (ty : TypeId) {b : BinOp} {x y : Operand} {tz : TypeId} {d : Option Tmp} {t : TypeId} {p : String} {af : Array Edge} {gd : Option (Nat × Bool)} {ops : Array Oper} {rest : List Oper} {a : Act} {w : World} {Q : Exit → Act → World → Prop} (k : wpList P ops Q (⟨d, .binOp b ty x y tz, t, p, af, gd⟩ :: rest) a w) : wpList P ops Q (⟨d, .binOp b ty x y tz, t, p, af, gd⟩ :: rest) a w := k
theorem yieldsIf_eqs {ops : Array Oper} {S : World → Prop} {op : Oper} {a : Act} (hw : Region.wanted op (yielded ops a.tmps) = true) (ty tz : TypeId) (x y : Operand) (ho : op.op = .binOp .eql ty x y tz)
    (xs ys : Array Value) (hx : a.eval x = .agg xs) (hy : a.eval y = .agg ys) (hm : P.eqGuardType P.depth ty = false) (r : Bool) (he : ∀ w, (Op.equalIn 10000 ty (.agg xs) (.agg ys)).run P w = .ok r w) : YieldsIf P ops S op (.bool r) a :=
  .inl ⟨hw, fun w _ => by
    unfold execOp
    simp only [ho, hx, hy, Sem.run_bind, run_eqGuard_agg w _ _ _ _ _ _ hm, Result.andThen_ok, run_eql_struct, he, Sem.run_pure]⟩
theorem yieldsIf_neqs {ops : Array Oper} {S : World → Prop} {op : Oper} {a : Act} (hw : Region.wanted op (yielded ops a.tmps) = true) (ty tz : TypeId) (x y : Operand) (ho : op.op = .binOp .neq ty x y tz)
    (xs ys : Array Value) (hx : a.eval x = .agg xs) (hy : a.eval y = .agg ys) (hm : P.eqGuardType P.depth ty = false) (r : Bool) (he : ∀ w, (Op.equalIn 10000 ty (.agg xs) (.agg ys)).run P w = .ok r w) : YieldsIf P ops S op (.bool (!r)) a :=
  .inl ⟨hw, fun w _ => by
    unfold execOp
    simp only [ho, hx, hy, Sem.run_bind, run_eqGuard_agg w _ _ _ _ _ _ hm, Result.andThen_ok, run_neq_struct, he, Sem.run_pure]⟩
theorem wpList_neqs_g {ops : Array Oper} {rest : List Oper} {op : Oper} {a : Act} {w : World} {Q : Exit → Act → World → Prop} (hw : Region.wanted op (yielded ops a.tmps) = true) (ty tz : TypeId) (x y : Operand) (ho : op.op = .binOp .neq ty x y tz)
    (xs ys : Array Value) (hx : a.eval x = .agg xs) (hy : a.eval y = .agg ys) (hm : P.eqGuardType P.depth ty = false) (r : Bool) (he : (Op.equalIn 10000 ty (.agg xs) (.agg ys)).run P w = .ok r w)
    (h : wpList P ops Q rest (a.put op.dst (.bool (!r))) w) : wpList P ops Q (op :: rest) a w :=
  wpList_step fun K hK => by
    rw [if_pos hw]
    unfold Oper.wp execOp
    simp only [ho, hx, hy, Sem.run_bind, run_eqGuard_agg w _ _ _ _ _ _ hm, Result.andThen_ok, run_neq_struct, he, Sem.run_pure]
    exact hK _ _ h
end
end Go.Proofs.Ytgohhojoahlfiaa
