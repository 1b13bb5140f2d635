import Derived.Test.YtaafkokfdgfabaaGreatProg
import Derived.Test.YtaafkokfdgfabaaGreatP9
import Derived.Test.YtaafkokfdgfabaaGreatP11
set_option maxHeartbeats 8000000
namespace Go.Proofs.YtaafkokfdgfabaaGreat
open Go.RowKit
set_option linter.unusedVariables false
set_option linter.unusedSimpArgs false
theorem BS.on {w w':World} {A:Option Addr} {l:List UInt8} (h:BS w w.heap.size A l) (hb:Below w.heap.size w w'):BS w' w'.heap.size A l:=(h.below hb).more hb.size
theorem k7 (w:World) (t u:TypeId) (cs ds:Array Value):∃ W1 W,Hid (W1=w.alloc (.cells cs t))∧Hid (W=W1.alloc (.cells ds u))∧Hid (W1.heap.size=w.heap.size + 1)∧Hid (ah W w.heap.size t cs)∧Hid (ah W (w.heap.size + 1) u ds)∧Hid (Below w.heap.size w W):=by
 refine ⟨_,_,rfl,rfl,?_,ah.alloc (ah.new w _ _ _ rfl) _,ah.new _ _ _ _ (by simp),((Below.refl _ _).alloc (Nat.le_refl _) _).alloc (by simp) _⟩;show _=_
 simp
section
variable {ops:Array Oper} {Q:Exit→Act→World→Prop} {W:World} {k:Nat} {a:Act} {o:Oper} {d:Tmp} {c u:Bool}
theorem ut {o:Oper} {a:Act} {x:Operand} {A:Option Addr} {n c B:Nat} {l:List UInt8} {w:World} (ho:o.op=.convert 43 9 x) (hx:a.eval x=.slice A n c) (hb:BS w B A l) (hn:n=l.length):(execOp a.eval o).run Tryz.prog w=.ok (.value (.string ⟨l.toArray⟩)) w:=by
 unfold execOp;simp only [ho,hx,Sem.run_bind,bu (P:=Tryz.prog) 43 9 5 Tryz.underlying43 Tryz.underlying5 Tryz.underlying9 w B A l hb n c hn,Result.andThen_ok,Sem.run_pure]
theorem Gu {A:Option Addr} {n cp:Nat} {l:List UInt8} {x:Operand} (hb:BS W W.heap.size A l) (hn:n=l.length) (h:Sd Tryz.prog ops Q W (k + 1) { a with tmps:=a.tmps.setIfInBounds d (gv c u (.string ⟨l.toArray⟩)) }) (hi:ops[k]?=some o:=by rfl) (hd:o.dst=some d:=by rfl) (ho:o.op=.convert 43 9 x:=by rfl)
  (hwt:Region.wanted o (yielded ops a.tmps)=(c == u):=by first | exact iz rfl rfl | exact iy rfl rfl rfl) (hx:(c == u)=true→a.eval x=.slice A n cp:=by (intro hb;(try simp only [lU hb]);rfl)):Sd Tryz.prog ops Q W k a :=
 Sd.guard hi hd hwt (fun hc w hS=>by rw [ut ho (hx hc) (hb.below hS) hn];exact ⟨rfl,hS⟩) h
theorem en {t tz:TypeId} {x y:Operand} {xs ys:Array Value} {r:Bool} (he:∀ w,(Op.equalIn 10000 t (.agg xs) (.agg ys)).run Tryz.prog w=.ok r w) (hm:Tryz.prog.eqGuardType Tryz.prog.depth t=false) (h:Sd Tryz.prog ops Q W (k + 1) { a with tmps:=a.tmps.setIfInBounds d (.bool (!r)) }) (hi:ops[k]?=some o:=by rfl) (hd:o.dst=some d:=by rfl) (ho:o.op=.binOp .neq t x y tz:=by rfl)
  (hw:Region.wanted o (yielded ops a.tmps)=true:=by rfl) (hx:a.eval x=.agg xs:=by rfl) (hy:a.eval y=.agg ys:=by rfl):Sd Tryz.prog ops Q W k a :=
 Sd.step (.inl ⟨hw,fun w hS=>by
  have e:(execOp a.eval o).run Tryz.prog w=.ok (.value (.bool (!r))) w:=by
   unfold execOp;simp only [ho,hx,hy,Sem.run_bind,run_eqGuard_agg w _ _ _ _ _ _ hm,Result.andThen_ok,run_neq_struct,he,Sem.run_pure]
  rw [e];exact ⟨rfl,hS⟩⟩) (by rw [hd];exact h) hi
theorem ge {t tz:TypeId} {x y:Operand} {xs ys:Array Value} {r:Bool} (he:∀ w,(Op.equalIn 10000 t (.agg xs) (.agg ys)).run Tryz.prog w=.ok r w) (hm:Tryz.prog.eqGuardType Tryz.prog.depth t=false) (h:Sd Tryz.prog ops Q W (k + 1) { a with tmps:=a.tmps.setIfInBounds d (gv c u (.bool r)) }) (hi:ops[k]?=some o:=by rfl) (hd:o.dst=some d:=by rfl) (ho:o.op=.binOp .eql t x y tz:=by rfl)
  (hwt:Region.wanted o (yielded ops a.tmps)=(c == u):=by first | exact iz rfl rfl | exact iy rfl rfl rfl) (hx:(c == u)=true→a.eval x=.agg xs:=by (intro hb;(try simp only [lU hb]);rfl)) (hy:(c == u)=true→a.eval y=.agg ys:=by (intro hb;(try simp only [lU hb]);rfl)):Sd Tryz.prog ops Q W k a :=
 Sd.guard hi hd hwt (fun hc w hS=>by
  have e:(execOp a.eval o).run Tryz.prog w=.ok (.value (.bool r)) w:=by
   unfold execOp;simp only [ho,hx hc,hy hc,Sem.run_bind,run_eqGuard_agg w _ _ _ _ _ _ hm,Result.andThen_ok,run_eql_struct,he,Sem.run_pure]
  rw [e];exact ⟨rfl,hS⟩) h
end
end Go.Proofs.YtaafkokfdgfabaaGreat
