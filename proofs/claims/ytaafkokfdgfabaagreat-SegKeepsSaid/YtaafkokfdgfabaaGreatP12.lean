import Derived.Test.YtaafkokfdgfabaaGreatProg
import Derived.Test.YtaafkokfdgfabaaGreatP9
import Derived.Test.YtaafkokfdgfabaaGreatP11
set_option maxHeartbeats 8000000
set_option maxRecDepth 100000
set_option linter.unusedVariables false
set_option linter.unusedSimpArgs false
namespace Go.Proofs.YtaafkokfdgfabaaGreat
open Go.RowKit
open Op renaming equalIn→IC
open Region renaming wanted→Iz
open Result renaming andThen_ok→Iy
open Sem renaming run_bind→IA,run_pure→IB
open Tryz renaming prog→qq
theorem BS.on{w w':World}{A:Option Addr}{l:List UInt8}(h:BS w w.heap.size A l)(hb:Below w.heap.size w w'):BS w' w'.heap.size A l:=(h.below hb).more hb.size
theorem mf(w:World)(t u:TypeId)(cs ds:Array Value):∃W1 W,Hid (W1=w.alloc (.cells cs t))∧Hid (W=W1.alloc (.cells ds u))∧Hid (W1.heap.size=w.heap.size+1)∧Hid (aj W w.heap.size t cs)∧Hid (aj W (w.heap.size+1) u ds)∧Hid (Below w.heap.size w W):=by
 refine⟨_,_,rfl,rfl,?_,aj.alloc (aj.new w _ _ _ rfl) _,aj.new _ _ _ _ (by simp),((Below.refl _ _).alloc (Nat.le_refl _) _).alloc (by simp) _⟩;show _=_
 simp
section
variable {ops:Array Oper} {Q:Exit→Act→World→Prop} {W:World} {k:Nat} {a:Act} {o:Oper} {d:Tmp} {c u:Bool}
theorem ig{o:Oper}{a:Act}{x:Operand}{A:Option Addr}{n c B:Nat}{l:List UInt8}{w:World}(ho:o.op=.convert 43 9 x)(hx:a.eval x=.slice A n c)(hb:BS w B A l)(hn:n=l.length):(execOp a.eval o).run qq w=.ok (.value (.string ⟨l.toArray⟩)) w:=by
 unfold execOp;simp only[ho,hx,IA,bJ (P:=qq) 43 9 5 Tryz.underlying43 Tryz.underlying5 Tryz.underlying9 w B A l hb n c hn,Iy,IB]
theorem Ij{A:Option Addr}{n cp:Nat}{l:List UInt8}{x:Operand}(hb:BS W W.heap.size A l)(hn:n=l.length)(h:Sd qq ops Q W (k+1) { a with tmps:=a.tmps.setIfInBounds d (gv c u (.string ⟨l.toArray⟩)) })(hi:ops[k]?=some o:=by rfl)(hd:o.dst=some d:=by rfl)(ho:o.op=.convert 43 9 x:=by rfl)
  (hwt:Iz o (yielded ops a.tmps)=(c==u):=by first|exact jh rfl rfl|exact jg rfl rfl rfl) (hx:(c==u)=true→a.eval x=.slice A n cp:=by (intro hb;(try simp only[mK hb]);rfl)):Sd qq ops Q W k a :=
 Sd.guard hi hd hwt (fun hc w hS=>by rw[ig ho (hx hc) (hb.below hS) hn];exact⟨rfl,hS⟩) h
theorem en{t tz:TypeId}{x y:Operand}{xs ys:Array Value}{r:Bool}(he:∀w,(IC 10000 t (.agg xs) (.agg ys)).run qq w=.ok r w)(hm:qq.eqGuardType qq.depth t=false)(h:Sd qq ops Q W (k+1) { a with tmps:=a.tmps.setIfInBounds d (.bool (!r)) })(hi:ops[k]?=some o:=by rfl)(hd:o.dst=some d:=by rfl)(ho:o.op=.binOp .neq t x y tz:=by rfl)
  (hw:Iz o (yielded ops a.tmps)=true:=by rfl) (hx:a.eval x=.agg xs:=by rfl) (hy:a.eval y=.agg ys:=by rfl):Sd qq ops Q W k a :=
 Sd.step (.inl ⟨hw,fun w hS=>by
  have e:(execOp a.eval o).run qq w=.ok (.value (.bool (!r))) w:=by
   unfold execOp;simp only[ho,hx,hy,IA,run_eqGuard_agg w _ _ _ _ _ _ hm,Iy,run_neq_struct,he,IB]
  rw[e];exact⟨rfl,hS⟩⟩) (by rw[hd];exact h) hi
theorem ge{t tz:TypeId}{x y:Operand}{xs ys:Array Value}{r:Bool}(he:∀w,(IC 10000 t (.agg xs) (.agg ys)).run qq w=.ok r w)(hm:qq.eqGuardType qq.depth t=false)(h:Sd qq ops Q W (k+1) { a with tmps:=a.tmps.setIfInBounds d (gv c u (.bool r)) })(hi:ops[k]?=some o:=by rfl)(hd:o.dst=some d:=by rfl)(ho:o.op=.binOp .eql t x y tz:=by rfl)
  (hwt:Iz o (yielded ops a.tmps)=(c==u):=by first|exact jh rfl rfl|exact jg rfl rfl rfl) (hx:(c==u)=true→a.eval x=.agg xs:=by (intro hb;(try simp only[mK hb]);rfl)) (hy:(c==u)=true→a.eval y=.agg ys:=by (intro hb;(try simp only[mK hb]);rfl)):Sd qq ops Q W k a :=
 Sd.guard hi hd hwt (fun hc w hS=>by
  have e:(execOp a.eval o).run qq w=.ok (.value (.bool r)) w:=by
   unfold execOp;simp only[ho,hx hc,hy hc,IA,run_eqGuard_agg w _ _ _ _ _ _ hm,Iy,run_eql_struct,he,IB]
  rw[e];exact⟨rfl,hS⟩) h
end
