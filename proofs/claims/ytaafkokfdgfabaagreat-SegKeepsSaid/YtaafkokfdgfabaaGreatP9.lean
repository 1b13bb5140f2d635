import Derived.Test.YtaafkokfdgfabaaGreatP1
import Derived.Laws.IdiomCopy
import Derived.Deep.MidRow
import Derived.Laws.PanicsMore
import Derived.Laws.StructEq
import Derived.OrdersHeld
set_option maxHeartbeats 8000000
set_option maxRecDepth 100000
set_option linter.unusedVariables false
set_option linter.unusedSimpArgs false
namespace Go.Proofs.YtaafkokfdgfabaaGreat
open Go.RowKit
def nI(cs:Array Value)(o:Nat):List Value→Array Value
 |[]=>cs
 |v::r=>nI (cs.setIfInBounds o v) (o+1) r
theorem iC:∀(vs:List Value) (cs:List Value) (o:Nat),o+vs.length≤cs.length→nI cs.toArray o vs=(cs.take o++(vs++cs.drop (o+vs.length))).toArray
 |[],cs,o,_=>by simp[nI]
 |v::r,cs,o,h=>by
  have hl:o<cs.length:=by simp at h;omega
  rw[nI,List.setIfInBounds_toArray,iC r (cs.set o v) (o+1) (by simp at h ⊢;omega)];congr 1
  have e1:(cs.set o v).take (o+1)=cs.take o++[v]:=by
   rw[List.take_add_one,List.getElem?_set_self hl,List.take_set_of_le (by omega)];rfl
  have e2:(cs.set o v).drop (o+1+r.length)=cs.drop (o+(v::r).length):=by
   rw[List.drop_set_of_lt (by omega)];simp only[List.length_cons];congr 1
   omega
  rw[e1,e2];simp
theorem bn{vs cs:List Value}(h:vs.length=cs.length):nI cs.toArray 0 vs=vs.toArray:=by
 rw[iC vs cs 0 (by omega)];congr 1
 simp[h]
section
variable {w:World} {g k:Nat} {t:TypeId} {cs:Array Value}
theorem aj.setCells:∀(vs:List Value) {w:World} {cs:Array Value} (o:Nat),aj w g t cs→aj (w.setCells g o vs) g t (nI cs o vs)
 |[],_,_,_,h=>h
 |v::r,_,_,o,h=>aj.setCells r (o+1) (aj.set_ h o v)
theorem aj.there{o n:Nat}(h:aj w g t cs)(hn:o+n≤cs.size):w.there g o n:=fun j hj=>by
 refine⟨?_,aj.frozen h _⟩;rw[h.cell,Array.getElem?_eq_getElem (by omega)];rfl
end
theorem bq{B:Nat}{a:World}{g:Nat}(hg:B≤g):∀(vs:List Value) (o:Nat) {w:World},Below B a w→Below B a (w.setCells g o vs)
 |[],_,_,h=>h
 |v::r,o,_,h=>bq hg r (o+1) (h.setCell hg v)
theorem oQ(l:List UInt8)(b:Bool)(zs:List Value)(h:∀v∈zs,v.oneCell'=true):∀v∈Value.bool b::(ab l++zs),v.oneCell'=true:=by
 intro v hv;simp only[List.mem_cons,List.mem_append] at hv;rcases hv with rfl|hv|hv
 ·rfl
 ·exact eP l v hv
 ·exact h v hv
section
variable {P:Program}
theorem sI(w:World)(t e:TypeId)(n:Nat)(cs:Array Value)(k:Nat)(v:Value)(kd:IntKind)(h:P.underlying t=some (.array n e))(he:P.underlying e=some (.int kd))(h1:(sizeOf e).run P w=.ok 1 w)(hk:k<n)(hv:cs[k]?=some v) :
  (Instr.index t (.agg cs) (.int .i64 (k:Int))).run P w=.ok v w:=by
 have hn:0≤(k:Int)∧(k:Int)<(n:Int):=by omega
 simp[Instr.index,run_underlying h,asIntOf,hn,part,isAgg,run_underlying he,h1,hv,go_sem];exact fun h=>absurd hk (by omega)
theorem fH{ops:Array Oper}{rest:List Oper}{op:Oper}{a:Act}{w:World}{Q:Exit→Act→World→Prop}(hw:Region.wanted op (yielded ops a.tmps)=true)(t e:TypeId)(n:Nat)(kd:IntKind)(x y:Operand)(ho:op.op=.index t x y)
  (cs:Array Value) (k:Nat) (v:Value) (hx:a.eval x=.agg cs) (hy:a.eval y=.int .i64 (k:Int)) (h:P.underlying t=some (.array n e)) (he:P.underlying e=some (.int kd)) (h1:(sizeOf e).run P w=.ok 1 w) (hk:k<n) (hv:cs[k]?=some v)
  (hr:wpList P ops Q rest (a.put op.dst v) w):wpList P ops Q (op::rest) a w :=
 wpList_step fun K hK=>by
  rw[if_pos hw];unfold Oper.wp execOp;simp only[ho,hx,hy,Sem.run_bind,sI w t e n cs k v kd h he h1 hk hv,Result.andThen_ok,Sem.run_pure];exact hK _ _ hr
end
section
variable {P:Program}
theorem aB(ty:TypeId){x:Operand}{d:Option Tmp}{t:TypeId}{p:String}{af:Array Edge}{gd:Option (Nat×Bool)}{ops:Array Oper}{rest:List Oper}{a:Act}{w:World}{Q:Exit→Act→World→Prop}(k:wpList P ops Q (⟨d,.load ty x,t,p,af,gd⟩::rest) a w):wpList P ops Q (⟨d,.load ty x,t,p,af,gd⟩::rest) a w:=k
theorem rt(b:Builtin){xs:Array Operand}{ats:Array TypeId}{d:Option Tmp}{t:TypeId}{p:String}{af:Array Edge}{gd:Option (Nat×Bool)}{ops:Array Oper}{rest:List Oper}{a:Act}{w:World}{Q:Exit→Act→World→Prop}(k:wpList P ops Q (⟨d,.call { callee:=.builtin b,args:=xs,argTypes:=ats },t,p,af,gd⟩::rest) a w):wpList P ops Q (⟨d,.call { callee:=.builtin b,args:=xs,argTypes:=ats },t,p,af,gd⟩::rest) a w:=k
theorem aR(ty:TypeId){x y:Operand}{d:Option Tmp}{t:TypeId}{p:String}{af:Array Edge}{gd:Option (Nat×Bool)}{ops:Array Oper}{rest:List Oper}{a:Act}{w:World}{Q:Exit→Act→World→Prop}(k:wpList P ops Q (⟨d,.store ty x y,t,p,af,gd⟩::rest) a w):wpList P ops Q (⟨d,.store ty x y,t,p,af,gd⟩::rest) a w:=k
theorem vp(ty:TypeId){b:BinOp}{x y:Operand}{tz:TypeId}{d:Option Tmp}{t:TypeId}{p:String}{af:Array Edge}{gd:Option (Nat×Bool)}{ops:Array Oper}{rest:List Oper}{a:Act}{w:World}{Q:Exit→Act→World→Prop}(k:wpList P ops Q (⟨d,.binOp b ty x y tz,t,p,af,gd⟩::rest) a w):wpList P ops Q (⟨d,.binOp b ty x y tz,t,p,af,gd⟩::rest) a w:=k
end
