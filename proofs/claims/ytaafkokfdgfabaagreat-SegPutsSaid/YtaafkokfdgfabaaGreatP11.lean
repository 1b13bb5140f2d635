import Derived.Test.YtaafkokfdgfabaaGreatP1
import Derived.Deep.RegionHeld
import Derived.Deep.MidRow
set_option maxHeartbeats 8000000
set_option maxRecDepth 100000
set_option linter.unusedVariables false
set_option linter.unusedSimpArgs false
open Array renaming getElem?_eq_some_iff→IB
open List renaming range→ID
namespace Go.Proofs.YtaafkokfdgfabaaGreat
open Go.RowKit
open Code renaming region→Iz
open Oper renaming wp→IC
open Region renaming wanted→qq,ready→Iy,noSelect→IA
def Lv(P:Program)(S:World→Prop)(v:Value):Result Next→Prop
 | .ok (.value u) w'=>u=v∧S w'
 | .ok .skip w'=>undef=v∧S w'
 | .ok (.enter f args) w'=>Calls P f args w' fun e w''=>e=.returned v∧S w''
 |_=>False
def YS(P:Program)(ops:Array Oper)(S:World→Prop)(o:Oper)(v:Value)(a:Act):Prop :=
 (qq o (yielded ops a.tmps)=true∧∀w,S w→Lv P S v ((execOp a.eval o).run P w))∨(qq o (yielded ops a.tmps)=false∧v=undef)
def EJ(P:Program)(ops:Array Oper)(Q:Exit→Act→World→Prop)(S:World→Prop):Nat→Array Bool→Act→Prop
 |0,listed,a=>Iy .any ops listed=[]∧∀w,S w→Q .normal a w
 |f+1,listed,a=>(Iy .any ops listed=[]→∀w,S w→Q .normal a w) ∧
   ∀i∈Iy .any ops listed,∃o v,ops[i]?=some o∧YS P ops S o v a∧EJ P ops Q S f (listed.setIfInBounds i true) (a.put o.dst v)
section
variable {P:Program} {ops:Array Oper} {Q:Exit→Act→World→Prop} {S:World→Prop} {W:World} {a:Act} {o:Oper} {v:Value} {k:Nat}
theorem YS.wpOp{i:Nat}{o:Oper}{v:Value}{a:Act}(hi:ops[i]?=some o)(hy:YS P ops S o v a){K:Act→World→Prop}{w:World}(hS:S w)(h:∀w',S w'→K (a.put o.dst v) w'):wpOp P ops Q i K a w:=by
 unfold Go.wpOp;simp only[hi];rcases hy with ⟨hw,hv⟩|⟨hw,rfl⟩
 ·simp only[hw,if_true,IC]
  refine .inl ?_;have hl:=hv w hS;generalize (execOp a.eval o).run P w=r at hl ⊢
  cases r with
  |ok n w' =>
   cases n<;>simp only[Lv,Oper.upon] at hl ⊢
   case value u=>obtain⟨rfl,h2⟩:=hl;exact h _ h2
   case skip=>obtain⟨rfl,h2⟩:=hl;exact h _ h2
   case enter f args =>
    refine Calls.mono hl fun e w'' he=>?_
    obtain⟨rfl,h2⟩:=he;exact h _ h2
  |halt x w'=>cases x<;>simp only[Lv] at hl
 ·simp only[hw,Bool.false_eq_true,if_false];exact h _ hS
theorem YS.of_same{o:Oper}{v:Value}{a a':Act}(hy:YS P ops S o v a)(he:execOp a'.eval o=execOp a.eval o)(hw:qq o (yielded ops a'.tmps)=qq o (yielded ops a.tmps)):YS P ops S o v a':=by
 unfold YS at *;rw[he,hw];exact hy
theorem EJ.any:∀(f:Nat) (listed:Array Bool) (a:Act),EJ P ops Q S f listed a→∀w,S w→wpAny P .any ops Q f listed a w
 |0,_,_,h,w,hS=>⟨h.1,h.2 w hS⟩
 |f+1,_,_,h,w,hS=>⟨fun e=>h.1 e w hS,fun i hi=>by
  obtain⟨o,v,ho,hy,h2⟩:=h.2 i hi;exact hy.wpOp ho hS fun w' hS'=>EJ.any f _ _ h2 w' hS'⟩
theorem EJ.first{i:Nat}{oi:Oper}{v:Value}(hi:ops[i]?=some oi)(hsel:∀(j:Nat) (o:Oper) cs b,ops[j]?=some o→o.op≠.select cs b) :
  ∀(f:Nat) (listed:Array Bool) (a:Act),(∀j oj,ops[j]?=some oj→j≠i→listed.getD j true=false→(∀e∈oj.after,Region.binds .any e=true→e.on≠i)→oi.apart ops oj=true) →
   i∈Iy .any ops listed→YS P ops S oi v a→EJ P ops Q S f (listed.setIfInBounds i true) (a.put oi.dst v)→EJ P ops Q S (f+1) listed a:=by
 intro f;induction f with
 |zero =>
  intro listed a _ hr hy H;refine⟨fun h=>(by rw[h] at hr;cases hr),fun j hj=>?_⟩;by_cases hji:j=i
  ·subst hji;exact⟨oi,v,hi,hy,H⟩
  ·have:=ready_mono hj hji
   rw[H.1] at this;cases this
 |succ f ih =>
  intro listed a hfree hr hy H;refine⟨fun h=>(by rw[h] at hr;cases hr),fun j hj=>?_⟩;by_cases hji:j=i
  ·subst hji;exact⟨oi,v,hi,hy,H⟩
  ·obtain⟨oj,u,hoj,hyj,h2⟩:=H.2 j (ready_mono hj hji)
   obtain⟨hjun,oj',hoj',hall⟩:=mem_ready.1 hj;obtain rfl:oj=oj':=by rw[hoj] at hoj';exact Option.some.inj hoj'
   have hnot:∀e∈oj.after,Region.binds .any e=true→e.on≠i:=fun e he hb heq=>by
    have h1:=hall e he hb;have h0:=(mem_ready.1 hr).1;rw[heq] at h1;rcases Nat.lt_or_ge i listed.size with h'|h'
    ·simp[h'] at h0 h1;rw[h0] at h1;cases h1
    ·simp[Array.getElem?_eq_none h'] at h1
   obtain⟨p1,p2,p3⟩:=Oper.apart_spec (hfree j oj hoj hji hjun hnot);have hfree':∀k ok,ops[k]?=some ok→k≠i→(listed.setIfInBounds j true).getD k true=false →
     (∀e∈ok.after,Region.binds .any e=true→e.on≠i)→oi.apart ops ok=true:=fun k ok hk hki hun hno=>by
    refine hfree k ok hk hki ?_ hno;by_cases hjk:j=k
    ·subst hjk;exact hjun
    ·rw[getD_set_ne true hjk] at hun;exact hun
   refine⟨oj,u,hoj,hyj.of_same (execOp_put oj (fun cs b=>hsel j oj cs b hoj) a oi.dst v p1).symm (wanted_put oj a oi.dst v p1).symm,ih _ _ hfree' (ready_mono hr (Ne.symm hji)) (hy.of_same (execOp_put oi (fun cs b=>hsel i oi cs b hi) a oj.dst u p3) (wanted_put oi a oj.dst u p3)) ?_⟩;rw[Array.setIfInBounds_comm _ _ hji,←Act.put_comm a v u p2];exact h2
def qA(n k:Nat):Array Bool:=((ID n).map fun i=>decide (i<k)).toArray
theorem AZ(n:Nat):Array.replicate n false=qA n 0:=by
 apply Array.ext
 ·simp[qA]
 ·intro i h1 h2;simp[qA]
theorem Dj(n k:Nat)(h:k<n):(qA n k).setIfInBounds k true=qA n (k+1):=by
 apply Array.ext
 ·simp[qA]
 ·intro i h1 h2
  rw[Array.getElem_setIfInBounds (by simpa using h1)];simp only[qA,List.getElem_toArray,List.getElem_map,List.getElem_range];split
  ·subst_vars;simp
  ·simp only[decide_eq_decide];omega
theorem ym(k:Nat)(h:ops.size≤k):Iy .any ops (qA ops.size k)=[]:=by
 rw[List.eq_nil_iff_forall_not_mem];intro i hi;have:=(mem_ready.1 hi).1;obtain⟨_,o,ho,_⟩:=mem_ready.1 hi;have hlt:i<ops.size:=(IB.1 ho).1;simp[qA,hlt] at this;omega
def Ii(ops:Array Oper):Bool:=IA ops&&(ID ops.size).all fun k=>Region.free .any ops (qA ops.size k) k&&(Iy .any ops (qA ops.size k)).contains k
def EK(P:Program)(ops:Array Oper)(Q:Exit→Act→World→Prop)(S:World→Prop):Nat→Nat→Act→Prop
 |0,_,a=>∀w,S w→Q .normal a w
 |f+1,k,a=>∃o v,ops[k]?=some o∧YS P ops S o v a∧EK P ops Q S f (k+1) (a.put o.dst v)
theorem EK.det(hk:Ii ops=true):∀(f k:Nat) (a:Act),f+k=ops.size→EK P ops Q S f k a→EJ P ops Q S f (qA ops.size k) a
 |0,k,a,e,h=>⟨ym k (by omega),h⟩
 |f+1,k,a,e,h=>by
  obtain⟨o,v,hi,hy,h⟩:=h;have hlt:k<ops.size:=by omega
  have h2:=hk;simp only[Ii,Bool.and_eq_true,List.all_eq_true,List.mem_range] at h2;have h3:=h2.2 k hlt;refine EJ.first hi (Region.noSelect_spec h2.1) _ _ _ (Region.free_spec hi h3.1) (by simpa using h3.2) hy ?_;rw[Dj _ _ hlt];exact EK.det hk f (k+1) _ (by omega) h
theorem EK.plain:∀(f k:Nat) (a:Act),EK P ops Q S f k a→∀w,S w→wpOps P ops Q (List.range' k f) a w
 |0,k,a,h,w,hS=>h w hS
 |f+1,k,a,h,w,hS=>by
  obtain⟨o,v,hi,hy,h⟩:=h;rw[List.range'_succ,wpOps_cons];exact hy.wpOp hi hS fun w' hS'=>EK.plain f (k+1) _ h w' hS'
def Sd(P:Program)(ops:Array Oper)(Q:Exit→Act→World→Prop)(W:World)(k:Nat)(a:Act):Prop:=EK P ops Q (fun w=>Below W.heap.size W w) (ops.size-k) k a
theorem Sd.start'{id:Nat}{w:World}(hS:Below W.heap.size W w)(h:Sd P ops Q W 0 a)(hm:P.follows .mixedOrders=true:=by kernel_rfl)(hk:Ii ops=true:=by kernel_rfl):(Iz id ops true).wp P Q a w:=by
 refine wp_region_any hm ?_;rw[AZ];exact EJ.any _ _ _ (EK.det hk _ _ _ (by omega) h) _ hS.drew
theorem Sd.plain'{id:Nat}{w:World}(hS:Below W.heap.size W w)(h:Sd P ops Q W 0 a):(Iz id ops false).wp P Q a w:=by
 refine wp_region ?_;rw[List.range_eq_range'];exact EK.plain _ _ _ h _ hS
theorem Sd.start{id:Nat}{w:World}(h:Sd P ops Q w 0 a)(hm:P.follows .mixedOrders=true:=by kernel_rfl)(hk:Ii ops=true:=by kernel_rfl):(Iz id ops true).wp P Q a w:=Sd.start' (Below.refl _ _) h hm hk
theorem Sd.plain{id:Nat}{w:World}(h:Sd P ops Q w 0 a):(Iz id ops false).wp P Q a w:=Sd.plain' (Below.refl _ _) h
theorem Sd.step(hy:YS P ops (fun w=>Below W.heap.size W w) o v a)(h:Sd P ops Q W (k+1) (a.put o.dst v))(hi:ops[k]?=some o):Sd P ops Q W k a:=by
 have hlt:k<ops.size:=(IB.1 hi).1;unfold Sd;rw[show ops.size-k=(ops.size-(k+1))+1 by omega];exact⟨o,v,hi,hy,h⟩
theorem Sd.done(h:∀w,Below W.heap.size W w→Q .normal a w)(h0:ops[k]?=none:=by rfl):Sd P ops Q W k a:=by
 have hk:=Array.getElem?_eq_none_iff.1 h0;unfold Sd;rw[show ops.size-k=0 by omega];exact h
theorem bg{w:World}(h:Below W.heap.size W w):∀b o,b<W.heap.size→w.cell? ⟨b,o,none⟩=W.cell? ⟨b,o,none⟩:=fun b o hb=>h.cell (p:=⟨b,o,none⟩) hb
def gv(c want:Bool)(v:Value):Value:=if (c==want)=true then v else undef
theorem mK{c want:Bool}{v:Value}(h:(c==want)=true):gv c want v=v:=by rw[gv,if_pos h]
theorem jg{g:Nat}{want c u:Bool}{d':Tmp}(hg:o.guard=some (g,want))(hd:(ops[g]?).bind (·.dst)=some d')(hv:a.tmps[d']?=some (gv c u (.bool want))):qq o (yielded ops a.tmps)=(c==u):=by
 unfold qq;rw[hg];simp only[yielded,hd,Option.bind_some,hv];cases c<;>cases u<;>cases want<;>rfl
theorem Be{g:Nat}{want want' c u:Bool}{d':Tmp}(hg:o.guard=some (g,want'))(hd:(ops[g]?).bind (·.dst)=some d')(hv:a.tmps[d']?=some (gv c u (.bool want)))(hne:(want==want')=false):qq o (yielded ops a.tmps)=false:=by
 unfold qq;rw[hg];simp only[yielded,hd,Option.bind_some,hv];cases c<;>cases u<;>cases want<;>cases want'<;>first|rfl|cases hne
theorem sk{d:Tmp}(h:Sd P ops Q W (k+1) { a with tmps:=a.tmps.setIfInBounds d undef })(hi:ops[k]?=some o:=by rfl)(hd:o.dst=some d:=by rfl)(hw:qq o (yielded ops a.tmps)=false:=by first|rfl|exact Be rfl rfl rfl rfl):Sd P ops Q W k a:=Sd.step (.inr ⟨hw,rfl⟩) (by rw[hd];exact h) hi
theorem pt{d:Tmp}(h:Sd P ops Q W (k+1) { a with tmps:=a.tmps.setIfInBounds d v })(hi:ops[k]?=some o:=by rfl)(hd:o.dst=some d:=by rfl)(hw:qq o (yielded ops a.tmps)=true:=by rfl)
  (hy:∀w,(∀b o,b<W.heap.size→w.cell? ⟨b,o,none⟩=W.cell? ⟨b,o,none⟩)→(execOp a.eval o).run P w=.ok (.value v) w:=by (intro w hc;go_simp;first|done|with_reducible rfl)):Sd P ops Q W k a :=
 Sd.step (.inl ⟨hw,fun w hS=>by rw[hy w (bg hS)];exact⟨rfl,hS⟩⟩) (by rw[hd];exact h) hi
theorem yl{d:Tmp}(hy:YieldsIf P ops (fun w=>Below W.heap.size W w) o v a)(h:Sd P ops Q W (k+1) { a with tmps:=a.tmps.setIfInBounds d v })(hi:ops[k]?=some o:=by rfl)(hd:o.dst=some d:=by rfl):Sd P ops Q W k a :=
 Sd.step (by rcases hy with ⟨hw,hv⟩|h0;exact .inl ⟨hw,fun w hS=>by rw[hv w hS];exact⟨rfl,hS⟩⟩;exact .inr h0) (by rw[hd];exact h) hi
theorem sl{d:Tmp}{b off:Nat}{cs:List Value}{t:TypeId}{x:Operand}{td:TypeDesc}(hR:W.rangeAt b off cs)(hb:b<W.heap.size)(hu:P.underlying t=some td)(hz:(P.info? t).map (·.size)=some cs.length)
  (h:Sd P ops Q W (k+1) { a with tmps:=a.tmps.setIfInBounds d (.agg cs.toArray) }) (hi:ops[k]?=some o:=by rfl) (hd:o.dst=some d:=by rfl) (ho:o.op=.load t x:=by rfl) (hx:a.eval x=.pointer (some ⟨b,off,none⟩):=by rfl) (hw:qq o (yielded ops a.tmps)=true:=by rfl) (hd2:td.isRow=true:=by rfl):Sd P ops Q W k a :=
 yl (yieldsIf_load_mid hw t x ho b off hx cs td (fun w hS i c hc=>(bg hS b _ hb).trans (hR i c hc)) hu hd2 hz) h hi hd
def pW(P:Program)(F:FuncId):Bool:=match P.funcs[F]? with|some f=>!(f.name == "runtime.NumGoroutine")&&!f.body.isNone|none=>false
theorem ul{F:FuncId}(h:pW P F=true)(xs:Array Value)(w:World):(callFunc F xs).run P w=.ok (.enter F xs) w:=by
 unfold pW at h;unfold callFunc;split at h
 ·rename_i f hf
  obtain⟨h1,h2⟩:¬f.name= "runtime.NumGoroutine"∧¬f.body=none:=by
   have h2:¬f.name= "runtime.NumGoroutine"∧f.body.isSome=true:=by simpa using h
   exact⟨h2.1,fun e=>by rw[e] at h2;cases h2.2⟩
  simp[go_sem,hf,h1,h2]
 ·cases h
theorem rB{F:FuncId}{xs:Array Value}{ys:Array Operand}{ts:Array TypeId}(ho:o.op=.call { callee:=.value (.func F),args:=ys,argTypes:=ts })(hx:ys.toList.map a.eval=xs.toList)(hF:pW P F=true)(w:World):(execOp a.eval o).run P w=.ok (.enter F xs) w:=by
 obtain⟨dst,op,ty,pos,af,gd⟩:=o;simp only at ho;subst ho;rw[execOp_call_go,show #[]++ys.map a.eval++#[]=xs by apply Array.ext';simpa using hx,ul hF]
theorem cl{d:Tmp}{F:FuncId}{xs:Array Value}{ys:Array Operand}{ts:Array TypeId}(hc:∀w,Below W.heap.size W w→Calls P F xs w fun e w'=>e=.returned v∧Below w.heap.size w w')(h:Sd P ops Q W (k+1) { a with tmps:=a.tmps.setIfInBounds d v })(hi:ops[k]?=some o:=by rfl)(hd:o.dst=some d:=by rfl)
  (ho:o.op=.call { callee:=.value (.func F),args:=ys,argTypes:=ts }:=by rfl) (hw:qq o (yielded ops a.tmps)=true:=by rfl) (hx:ys.toList.map a.eval=xs.toList:=by rfl) (hF:pW P F=true:=by kernel_rfl):Sd P ops Q W k a :=
 Sd.step (.inl ⟨hw,fun w hS=>by
  rw[rB ho hx hF w];exact (hc w hS).mono fun e w' h=>⟨h.1,hS.trans (h.2.mono hS.size)⟩⟩) (by rw[hd];exact h) hi
theorem cq{d:Tmp}{F:FuncId}{xs:Array Value}{ys:Array Operand}{ts:Array TypeId}(hc:∀w,Below W.heap.size W w→Calls P F xs w fun e w'=>e=.returned v∧w=w')(h:Sd P ops Q W (k+1) { a with tmps:=a.tmps.setIfInBounds d v })(hi:ops[k]?=some o:=by rfl)(hd:o.dst=some d:=by rfl)
  (ho:o.op=.call { callee:=.value (.func F),args:=ys,argTypes:=ts }:=by rfl) (hw:qq o (yielded ops a.tmps)=true:=by rfl) (hx:ys.toList.map a.eval=xs.toList:=by rfl) (hF:pW P F=true:=by kernel_rfl):Sd P ops Q W k a :=
 cl (fun w hS=>(hc w hS).mono fun e w' h=>⟨h.1,by rw[←h.2];exact Below.refl _ _⟩) h hi hd ho hw hx hF
theorem jh{g:Nat}{want c:Bool}(hg:o.guard=some (g,want))(hy:yielded ops a.tmps g=some c):qq o (yielded ops a.tmps)=(c==want):=by
 unfold qq;rw[hg];simp only[hy];cases c<;>cases want<;>rfl
theorem Sd.guard{d:Tmp}{c u:Bool}(hi:ops[k]?=some o)(hd:o.dst=some d)(hw:qq o (yielded ops a.tmps)=(c==u))
  (hv:(c==u)=true→∀w,Below W.heap.size W w→Lv P (fun w=>Below W.heap.size W w) v ((execOp a.eval o).run P w)) (h:Sd P ops Q W (k+1) { a with tmps:=a.tmps.setIfInBounds d (gv c u v) }):Sd P ops Q W k a:=by
 refine Sd.step (v:=gv c u v) ?_ (by rw[hd];exact h) hi;rcases hb:(c==u) with _|_
 ·exact .inr ⟨by rw[hw,hb],by rw[gv,hb];rfl⟩
 ·exact .inl ⟨by rw[hw,hb],fun w hS=>by rw[mK hb];exact hv hb w hS⟩
theorem gp{d:Tmp}{c u:Bool}(h:Sd P ops Q W (k+1) { a with tmps:=a.tmps.setIfInBounds d (gv c u v) })(hi:ops[k]?=some o:=by rfl)(hd:o.dst=some d:=by rfl)(hwt:qq o (yielded ops a.tmps)=(c==u):=by first|exact jh rfl rfl|exact jg rfl rfl rfl)
  (hv:(c==u)=true→∀w,(∀b o,b<W.heap.size→w.cell? ⟨b,o,none⟩=W.cell? ⟨b,o,none⟩)→(execOp a.eval o).run P w=.ok (.value v) w:=by (intro hb w hc;(try simp only[mK hb]);go_simp;first|done|with_reducible rfl)):Sd P ops Q W k a :=
 Sd.guard hi hd hwt (fun hb w hS=>by rw[hv hb w (bg hS)];exact⟨rfl,hS⟩) h
theorem gs{d:Tmp}{c u:Bool}{bl off:Nat}{cs:List Value}{t:TypeId}{x:Operand}{td:TypeDesc}(hR:W.rangeAt bl off cs)(hb:bl<W.heap.size)(hu:P.underlying t=some td)(hz:(P.info? t).map (·.size)=some cs.length)
  (h:Sd P ops Q W (k+1) { a with tmps:=a.tmps.setIfInBounds d (gv c u (.agg cs.toArray)) }) (hi:ops[k]?=some o:=by rfl) (hd:o.dst=some d:=by rfl) (ho:o.op=.load t x:=by rfl)
  (hwt:qq o (yielded ops a.tmps)=(c==u):=by first|exact jh rfl rfl|exact jg rfl rfl rfl) (hx:(c==u)=true→a.eval x=.pointer (some ⟨bl,off,none⟩):=by (intro hb;(try simp only[mK hb]);rfl)) (hd2:td.isRow=true:=by rfl):Sd P ops Q W k a :=
 Sd.guard hi hd hwt (fun hc w hS=>by
  rcases yieldsIf_load_mid (ops:=ops) (S:=fun w=>Below W.heap.size W w) (op:={ o with guard:=none }) (a:=a) rfl t x ho bl off (hx hc) cs td (fun w hS i c hc=>(bg hS bl _ hb).trans (hR i c hc)) hu hd2 hz with ⟨_,h2⟩|⟨h1,_⟩
  ·have h3:(execOp a.eval o).run P w=.ok (.value (.agg cs.toArray)) w:=h2 w hS
   rw[h3];exact⟨rfl,hS⟩
  ·cases h1) h
theorem gc{d:Tmp}{c u:Bool}{F:FuncId}{xs:Array Value}{ys:Array Operand}{ts:Array TypeId}(hc:∀w,Below W.heap.size W w→Calls P F xs w fun e w'=>e=.returned v∧Below w.heap.size w w')
  (h:Sd P ops Q W (k+1) { a with tmps:=a.tmps.setIfInBounds d (gv c u v) }) (hi:ops[k]?=some o:=by rfl) (hd:o.dst=some d:=by rfl) (ho:o.op=.call { callee:=.value (.func F),args:=ys,argTypes:=ts }:=by rfl)
  (hwt:qq o (yielded ops a.tmps)=(c==u):=by first|exact jh rfl rfl|exact jg rfl rfl rfl) (hx:(c==u)=true→ys.toList.map a.eval=xs.toList:=by (intro hb;(try simp only[mK hb]);rfl)) (hF:pW P F=true:=by kernel_rfl):Sd P ops Q W k a :=
 Sd.guard hi hd hwt (fun hb w hS=>by
  rw[rB ho (hx hb) hF w];exact (hc w hS).mono fun e w' h=>⟨h.1,hS.trans (h.2.mono hS.size)⟩) h
theorem gq{d:Tmp}{c u:Bool}{F:FuncId}{xs:Array Value}{ys:Array Operand}{ts:Array TypeId}(hc:∀w,Below W.heap.size W w→Calls P F xs w fun e w'=>e=.returned v∧w=w')
  (h:Sd P ops Q W (k+1) { a with tmps:=a.tmps.setIfInBounds d (gv c u v) }) (hi:ops[k]?=some o:=by rfl) (hd:o.dst=some d:=by rfl) (ho:o.op=.call { callee:=.value (.func F),args:=ys,argTypes:=ts }:=by rfl)
  (hwt:qq o (yielded ops a.tmps)=(c==u):=by first|exact jh rfl rfl|exact jg rfl rfl rfl) (hx:(c==u)=true→ys.toList.map a.eval=xs.toList:=by (intro hb;(try simp only[mK hb]);rfl)) (hF:pW P F=true:=by kernel_rfl):Sd P ops Q W k a :=
 gc (fun w hS=>(hc w hS).mono fun e w' h=>⟨h.1,by rw[←h.2];exact Below.refl _ _⟩) h hi hd ho hwt hx hF
theorem gk{d:Tmp}{c u:Bool}{t:TypeId}{x y:Operand}{m key:Value}(hl:∀w,Below W.heap.size W w→(Instr.lookup t m key false).run P w=.ok v w)
  (h:Sd P ops Q W (k+1) { a with tmps:=a.tmps.setIfInBounds d (gv c u v) }) (hi:ops[k]?=some o:=by rfl) (hd:o.dst=some d:=by rfl) (ho:o.op=.lookup t x y false:=by rfl)
  (hwt:qq o (yielded ops a.tmps)=(c==u):=by first|exact jh rfl rfl|exact jg rfl rfl rfl) (hx:(c==u)=true→a.eval x=m∧a.eval y=key:=by (intro hb;(try simp only[mK hb]);exact⟨rfl,rfl⟩)):Sd P ops Q W k a :=
 Sd.guard hi hd hwt (fun hb w hS=>by
  have e:(execOp a.eval o).run P w=.ok (.value v) w:=by
   unfold execOp;rw[ho];simp only[(hx hb).1,(hx hb).2,Sem.run_bind,hl w hS,Result.andThen_ok,Sem.run_pure]
  rw[e];exact⟨rfl,hS⟩) h
theorem pa{d:Tmp}{x y:Operand}{c u:Bool}(h:Sd P ops Q W (k+1) { a with tmps:=a.tmps.setIfInBounds d (.bool (c&&u)) })(hi:ops[k]?=some o:=by rfl)(hd:o.dst=some d:=by rfl)(ho:o.op=.pick x y (.const (.bool false)):=by rfl)
  (hw:qq o (yielded ops a.tmps)=true:=by rfl) (hx:a.eval x=.bool c:=by rfl) (hy:a.eval y=gv c true (.bool u):=by rfl):Sd P ops Q W k a :=
 Sd.step (v:=.bool (c&&u)) (.inl ⟨hw,fun w hS=>by
  have e:(execOp a.eval o).run P w=.ok (.value (.bool (c&&u))) w:=by
   unfold execOp;rw[ho];simp only[hx,hy];cases c<;>rfl
  rw[e];exact⟨rfl,hS⟩⟩) (by rw[hd];exact h) hi
theorem po{d:Tmp}{x y:Operand}{c u:Bool}(h:Sd P ops Q W (k+1) { a with tmps:=a.tmps.setIfInBounds d (.bool (c||u)) })(hi:ops[k]?=some o:=by rfl)(hd:o.dst=some d:=by rfl)(ho:o.op=.pick x (.const (.bool true)) y:=by rfl)
  (hw:qq o (yielded ops a.tmps)=true:=by rfl) (hx:a.eval x=.bool c:=by rfl) (hy:a.eval y=gv c false (.bool u):=by rfl):Sd P ops Q W k a :=
 Sd.step (v:=.bool (c||u)) (.inl ⟨hw,fun w hS=>by
  have e:(execOp a.eval o).run P w=.ok (.value (.bool (c||u))) w:=by
   unfold execOp;rw[ho];simp only[hx,hy];cases c<;>rfl
  rw[e];exact⟨rfl,hS⟩⟩) (by rw[hd];exact h) hi
end
section
variable {P:Program} {ops:Array Oper} {Q:Exit→Act→World→Prop} {S:World→Prop} {W w:World} {a:Act} {o:Oper} {v:Value} {fuel:Nat} {listed:Array Bool}
def Wz(P:Program)(ops:Array Oper)(Q:Exit→Act→World→Prop)(S:World→Prop)(fuel:Nat)(listed:Array Bool)(a:Act)(w:World):Prop:=wpAnyH P .any ops Q S fuel listed a w
theorem Wz.start{id:Nat}(hS:S w.drew)(h:S w.drew→Wz P ops Q S ops.size (Array.replicate ops.size false) a w.drew)(hm:P.follows .mixedOrders=true:=by kernel_rfl):(Iz id ops true).wp P Q a w :=
 wp_region_held_drew hm hS h
def SB(W w:World):Prop:=Below W.heap.size W w
theorem SB.out(h:SB W w):Below W.heap.size W w:=h
theorem Wh.start{id:Nat}(h:SB W W.drew→Wz P ops Q (SB W) ops.size (Array.replicate ops.size false) a W.drew)(hm:P.follows .mixedOrders=true:=by kernel_rfl):(Iz id ops true).wp P Q a W :=
 Wz.start (S:=SB W) (Below.refl _ _).drew h hm
theorem Wh.start'{id:Nat}(hS:Below W.heap.size W w)(h:SB W w.drew→Wz P ops Q (SB W) ops.size (Array.replicate ops.size false) a w.drew)(hm:P.follows .mixedOrders=true:=by kernel_rfl):(Iz id ops true).wp P Q a w :=
 Wz.start (S:=SB W) hS.drew h hm
theorem Wh.done(h:Q .normal a w)(hr:Iy .any ops listed=[]:=by kernel_rfl):Wz P ops Q S fuel listed a w:=wpAnyH_done hr h _
theorem zt{d:Tmp}{K:World→Prop}(i:Nat)(hK:∀w,S w→K w)(hS:S w)(h:Wz P ops Q S fuel (listed.setIfInBounds i true) { a with tmps:=a.tmps.setIfInBounds d v } w)(hi:ops[i]?=some o:=by rfl)(hd:o.dst=some d:=by rfl)(hw:qq o (yielded ops a.tmps)=true:=by rfl)
  (hr:(Iy .any ops listed).contains i=true:=by kernel_rfl) (hf:Region.free .any ops listed i=true:=by kernel_rfl) (hs:IA ops=true:=by kernel_rfl) (hQ:∀c a w,Q (.panic c) (a.put o.dst v) w→Q (.panic c) a w:=by exact fun _ _ _ h=>h)
  (hy:∀w,K w→(execOp a.eval o).run P w=.ok (.value v) w:=by (intro w hc;go_simp;first|done|with_reducible rfl)):Wz P ops Q S (fuel+1) listed a w :=
 wpAnyH_take hi hs hf hr hQ (.inl ⟨hw,fun w hS=>hy w (hK w hS)⟩) hS (by rw[hd];exact h)
theorem tw{d:Tmp}(i:Nat)(hS:SB W w)(h:Wz P ops Q (SB W) fuel (listed.setIfInBounds i true) { a with tmps:=a.tmps.setIfInBounds d v } w)(hi:ops[i]?=some o:=by rfl)(hd:o.dst=some d:=by rfl)(hw:qq o (yielded ops a.tmps)=true:=by rfl)
  (hr:(Iy .any ops listed).contains i=true:=by kernel_rfl) (hf:Region.free .any ops listed i=true:=by kernel_rfl) (hs:IA ops=true:=by kernel_rfl) (hQ:∀c a w,Q (.panic c) (a.put o.dst v) w→Q (.panic c) a w:=by exact fun _ _ _ h=>h)
  (hy:∀w,(∀b o,b<W.heap.size→w.cell? ⟨b,o,none⟩=W.cell? ⟨b,o,none⟩)→(execOp a.eval o).run P w=.ok (.value v) w:=by (intro w hc;go_simp;first|done|with_reducible rfl)):Wz P ops Q (SB W) (fuel+1) listed a w :=
 zt i (fun w h=>bg h.out) hS h hi hd hw hr hf hs hQ hy
theorem lw{d:Tmp}(i:Nat)(hS:S w)(hy:YieldsIf P ops S o v a)(h:Wz P ops Q S fuel (listed.setIfInBounds i true) { a with tmps:=a.tmps.setIfInBounds d v } w)(hi:ops[i]?=some o:=by rfl)(hd:o.dst=some d:=by rfl)
  (hr:(Iy .any ops listed).contains i=true:=by kernel_rfl) (hf:Region.free .any ops listed i=true:=by kernel_rfl) (hs:IA ops=true:=by kernel_rfl) (hQ:∀c a w,Q (.panic c) (a.put o.dst v) w→Q (.panic c) a w:=by exact fun _ _ _ h=>h):Wz P ops Q S (fuel+1) listed a w :=
 wpAnyH_take hi hs hf hr hQ hy hS (by rw[hd];exact h)
def On(P:Program)(ops:Array Oper)(Q:Exit→Act→World→Prop)(S:World→Prop)(fuel:Nat)(listed:Array Bool)(a:Act)(w:World)(i:Nat):Prop :=
 wpOp P ops Q i (fun a' w'=>S w'∧Wz P ops Q S fuel (listed.setIfInBounds i true) a' w') a w
theorem one(i:Nat)(h:On P ops Q S fuel listed a w i)(hr:Iy .any ops listed=[i]:=by kernel_rfl):Wz P ops Q S (fuel+1) listed a w :=
 wpAnyH_all hr (by simp) fun j hj=>by
  obtain rfl:j=i:=by simpa using hj
  exact h
theorem In(i k:Nat)(h:On P ops Q S fuel listed a w i)(h2:On P ops Q S fuel listed a w k)(hr:Iy .any ops listed=[i,k]:=by kernel_rfl):Wz P ops Q S (fuel+1) listed a w :=
 wpAnyH_all hr (by simp) fun j hj=>by
  rcases List.mem_cons.1 hj with rfl|hj
  ·exact h
  ·obtain rfl:j=k:=by simpa using hj
   exact h2
theorem On.op{i:Nat}{d:Tmp}(h:∀K:Act→World→Prop,Shut (∀v w',S w'→(S w'→Wz P ops Q S fuel (listed.setIfInBounds i true) { a with tmps:=a.tmps.setIfInBounds d v } w')→K (a.put o.dst v) w')→IC P o a w K Q)
  (hi:ops[i]?=some o:=by rfl) (hd:o.dst=some d:=by rfl) (hw:qq o (yielded ops a.tmps)=true:=by rfl):On P ops Q S fuel listed a w i :=
 wpOp_step hi fun K hK=>by
  rw[if_pos hw];exact h K fun v w hS hW=>hK _ w ⟨hS,by rw[hd];exact hW hS⟩
theorem On.val{i:Nat}{d:Tmp}{w':World}(hS:∀u,u=w'→S u)(h:S w'→Wz P ops Q S fuel (listed.setIfInBounds i true) { a with tmps:=a.tmps.setIfInBounds d v } w')(hi:ops[i]?=some o:=by rfl)(hd:o.dst=some d:=by rfl)(hw:qq o (yielded ops a.tmps)=true:=by rfl)
  (hrun:(execOp a.eval o).run P w=.ok (.value v) w':=by (go_simp;exact⟨rfl,rfl⟩)):On P ops Q S fuel listed a w i :=
 wpOp_step hi fun K hK=>by
  rw[if_pos hw];unfold IC;rw[hrun];exact hK _ _ ⟨hS _ rfl,by rw[hd];exact h (hS _ rfl)⟩
theorem On.call{i:Nat}{d:Tmp}{F:FuncId}{xs:Array Value}{ys:Array Operand}{ts:Array TypeId}{R:Ending→World→Prop}(hc:Calls P F xs w R)(h:∀e w',R e w'→∃v,e=.returned v∧S w'∧Wz P ops Q S fuel (listed.setIfInBounds i true) { a with tmps:=a.tmps.setIfInBounds d v } w')
  (hi:ops[i]?=some o:=by rfl) (hd:o.dst=some d:=by rfl) (hw:qq o (yielded ops a.tmps)=true:=by rfl) (ho:o.op=.call { callee:=.value (.func F),args:=ys,argTypes:=ts }:=by rfl) (hx:ys.toList.map a.eval=xs.toList:=by rfl) (hF:pW P F=true:=by kernel_rfl):On P ops Q S fuel listed a w i :=
 wpOp_step hi fun K hK=>by
  rw[if_pos hw];unfold IC;rw[rB ho hx hF w];refine Calls.mono hc fun e w' he=>?_
  obtain⟨v,rfl,hS,h2⟩:=h e w' he;exact hK _ _ ⟨hS,by rw[hd];exact h2⟩
end
theorem ld{α:Type}(l:List α)(i:Nat)(a:α):l.toArray.setIfInBounds i a=(l.set i a).toArray:=List.setIfInBounds_toArray l i a
theorem lg{α:Type}(x:α)(xs:List α)(a:α):(x::xs).set 0 a=a::xs:=rfl
theorem lf{α:Type}(x:α)(xs:List α)(n:Nat)(a:α):(x::xs).set (n+1) a=x::xs.set n a:=rfl
