import Derived.Test.YtaafkokfdgfabaaGreatP13
set_option maxHeartbeats 8000000
set_option maxRecDepth 100000
set_option linter.unusedVariables false
set_option linter.unusedSimpArgs false
open Bool renaming and_false→IA,false_and→IB,true_and→II,and_true→IM
open List renaming size_toArray→qq,setIfInBounds_toArray→Iy,getElem_cons_succ→IC,getElem_cons_zero→ID,set_cons_succ→IF,getElem_toArray→IG,set_cons_zero→IH,drop_succ_cons→IL,drop_left'→IN
open Nat renaming le_refl→IJ
open Or renaming inl→IP
namespace Go.Proofs.YtaafkokfdgfabaaGreat
open Go.RowKit
open Lib (hid)
open Act renaming put→IK
open AllReadyH renaming cons→IQ,nil→IR
open BS renaming nil→IS
open Tryz renaming underlying60→Iz,prog→IE
theorem bQ:IE.underlying 60=some (.struct (IE.fieldsOf 60)):=by kernel_rfl
theorem Fb:(IE.info? 58).map (·.size)=some 30:=by kernel_rfl
def sL(k:Int)(b:aU)(n:List UInt8)(u:Nat):List Value:=zv k::(ah b++[sv n,.float .f64 u])
theorem yp{k:Int}{b:aU}{n:List UInt8}{u:Nat}(h:au b):(sL k b n u).length=30:=by
 have:=bu h;simp[sL,this]
theorem Gr(k:Int)(b:aU)(n:List UInt8)(u:Nat):(sL k b n u).toArray.all (·.oneCell')=true:=all_oneCell_toArray (by
 intro v hv;simp only[sL,List.mem_cons,List.mem_append,List.not_mem_nil,or_false] at hv;rcases hv with rfl|hv|rfl|rfl
 ·rfl
 ·exact Array.all_eq_true_iff_forall_mem.1 (eS b) v (by simpa using hv)
 ·rfl
 ·rfl)
theorem cN{P:Program}{fn:Func}{p:Tmp}{ty:TypeId}(h:fn.results=#[.cell p ty])(tmps:Array Value)(w:World)(g:Nat)(t:TypeId)(cs:Array Value)(d:TypeDesc)
  (hp:tmps.getD p undef=.pointer (some ⟨g,0,none⟩)) (hg:aj w g t cs)
  (hu:P.underlying ty=some d) (hd:(match d with | .struct _ | .array _ _=>true|_=>false)=true) (hi:(P.info? ty).map (·.size)=some cs.size) :
  (results fn tmps).run P w=.ok (.agg cs) w:=by
 exact results_cell_row h tmps w g t cs (0,0) d hp hg hu hd hi
section
variable {A:Option Addr} {n c:Nat} {a:ca}
theorem oe(A':Option Addr)(n' c':Nat)(fr:List UInt8):(ak A n c a).toArray.setIfInBounds 1 (.slice A' n' c')=(ak A' n' c' { a with frame:=fr }).toArray:=by
 rw[Iy];rfl
theorem qK(h:aA a)(i:Nat)(v:Value):(ak A n c a).toArray.setIfInBounds (30+i) v=(zv a.kind :: .slice A n c::zv a.op::(ah a.back++[sv a.oname,.float .f64 a.owt,sv a.name,.bool a.well].set i v)).toArray:=by
 have h1:=bu h.back;rw[Iy,show 30+i=(27+i+2)+1 by omega];simp only[ak,IF];rw[List.set_append_right _ _ (by omega),h1,Nat.add_sub_cancel_left]
theorem mg(h:aA a)(x:List UInt8):(ak A n c a).toArray.setIfInBounds 30 (.string ⟨x.toArray⟩)=(ak A n c { a with oname:=x }).toArray:=qK h 0 _
theorem rD(h:aA a)(x:Nat):(ak A n c a).toArray.setIfInBounds 31 (.float .f64 x)=(ak A n c { a with owt:=x }).toArray:=qK h 1 _
theorem pX(h:aA a)(x:List UInt8):(ak A n c a).toArray.setIfInBounds 32 (.string ⟨x.toArray⟩)=(ak A n c { a with name:=x }).toArray:=qK h 2 _
theorem pY(h:aA a)(x:Bool):(ak A n c a).toArray.setIfInBounds 33 (.bool x)=(ak A n c { a with well:=x }).toArray:=qK h 3 _
theorem Fc(h:aA a)(k:Int)(b:aU)(hb:au b)(x:List UInt8)(u:Nat):nI (ak A n c a).toArray 2 (sL k b x u)=(ak A n c { a with op:=k,back:=b,oname:=x,owt:=u }).toArray:=by
 have h1:=bu h.back;have h2:=yp (k:=k) (n:=x) (u:=u) hb;rw[iC _ _ _ (by rw[aX h,h2];decide)];congr 1
 have hd:(ak A n c a).drop (2+(sL k b x u).length)=[sv a.name,.bool a.well]:=by
  rw[h2,ak,show 2+30=29+3 from rfl];simp only[IL];rw[show 29=27+2 from rfl,←List.drop_drop,IN h1];rfl
 rw[hd];simp[ak,sL]
theorem pZ(h:aA a)(b:aU)(hb:au b):nI (ak A n c a).toArray 3 (ah b)=(ak A n c { a with back:=b }).toArray:=by
 have h1:=bu h.back;have h2:=bu hb;rw[iC _ _ _ (by rw[aX h,h2];decide)];congr 1
 have hd:(ak A n c a).drop (3+(ah b).length)=[sv a.oname,.float .f64 a.owt,sv a.name,.bool a.well]:=by
  rw[h2,ak,show 3+27=27+3 from rfl];simp only[IL];rw[IN h1]
 rw[hd];simp[ak]
end
def Dm(A:Option Addr)(a:ca):Option Addr:=bif a.kind==1 then A else none
def Fd(c:Nat)(a:ca):Nat:=bif a.kind==1 then c else 0
theorem G5{A:Option Addr}{a:ca}{w:World}{B:Nat}(h:BS w B A a.frame):BS w B (Dm A a) (bX a).frame:=by
 unfold Dm bX;by_cases hk:a.kind=1
 ·simpa[hk] using h
 ·have e:(a.kind==1)=false:=by simpa using hk
  rw[e,if_neg hk];split
  ·split
   ·exact IS _ _ _
   ·split<;>exact IS _ _ _
  ·split<;>exact IS _ _ _
def Dn(w:World)(A:Option Addr)(c:Nat)(a:ca)(e:Ending)(w':World):Prop :=
 e=.returned (.agg (ak (Dm A a) (bX a).frame.length (Fd c a) (bX a)).toArray)∧Below w.heap.size w w'
structure rE(w wr:World)(A:Option Addr)(c:Nat)(a:ca)(A':Option Addr)(c':Nat)(b:ca):Prop where
 src:aj wr w.heap.size 60 (ak A a.frame.length c a).toArray
 res:aj wr (w.heap.size+1) 60 (ak none 0 0 cL).toArray
 box:aj wr (w.heap.size+2) 60 (ak A' b.frame.length c' b).toArray
 bel:Below w.heap.size w wr
 shape:aA b
section
variable {w wr w':World} {A A' A2:Option Addr} {c c' c2:Nat} {a b b':ca}
theorem rE.boxed(h:rE w wr A c a A' c' b)(hb:aj w' (w.heap.size+2) 60 (ak A2 b'.frame.length c2 b').toArray)(hg:wr.grownBy w' (some (w.heap.size+2)))(hs:aA b'):rE w w' A c a A2 c2 b' :=
 ⟨aj.grown h.src hg (fun e=>by injection e with e;omega),aj.grown h.res hg (fun e=>by injection e with e;omega),hb,h.bel.grown hg h.bel.size (fun k hk=>by injection hk with hk;omega),hs⟩
theorem rE.set_(h:rE w wr A c a A' c' b)(k:Nat)(u:Value)(e:(ak A' b.frame.length c' b).toArray.setIfInBounds k u=(ak A2 b'.frame.length c2 b').toArray)(hs:aA b'):rE w (wr.setCell ⟨w.heap.size+2,k,none⟩ u) A c a A2 c2 b':=by
 refine h.boxed ?_ (a8 _ ⟨w.heap.size+2,k,none⟩ u) hs;have:=aj.set_ h.box k u;rw[e] at this;exact this
theorem rE.sets(h:rE w wr A c a A' c' b)(k:Nat)(vs:List Value)(e:nI (ak A' b.frame.length c' b).toArray k vs=(ak A2 b'.frame.length c2 b').toArray)(hs:aA b'):rE w (wr.setCells (w.heap.size+2) k vs) A c a A2 c2 b':=by
 refine h.boxed ?_ (aY _ (w.heap.size+2) k vs k (World.grownBy.refl _ _)) hs;have:=aj.setCells vs k h.box;rw[e] at this;exact this
theorem rE.goodBlk(h:rE w wr A c a A' c' b):aj (wr.setCells (w.heap.size+1) 0 (ak A' b.frame.length c' b)) (w.heap.size+1) 60 (ak A' b.frame.length c' b).toArray:=by
 have:=aj.setCells (ak A' b.frame.length c' b) 0 h.res;rw[bn (by rw[aX h.shape,aX bZ])] at this;exact this
theorem rE.good(h:rE w wr A c a A' c' b)(hb:b=bX a)(hA:A'=Dm A a)(hc:c'=Fd c a):Dn w A c a (.returned (.agg (ak A' b.frame.length c' b).toArray)) (wr.setCells (w.heap.size+1) 0 (ak A' b.frame.length c' b)):=by
 subst hb hA hc;exact⟨rfl,bq (by omega) _ _ h.bel⟩
end
theorem Do(A:Option Addr)(c:Nat)(a:ca)(ha0:aA a)(w:World) :
  Calls IE 134 #[.agg (ak A a.frame.length c a).toArray] w (Dn w A c a):=by
 have ha:=hid ha0;clear ha0;obtain⟨W0,hW0⟩:∃W,W=w.alloc (.cells (ak A a.frame.length c a).toArray 60):=⟨_,rfl⟩;obtain⟨W1,hW1⟩:∃W,W=W0.alloc (.cells (ak none 0 0 cL).toArray 60):=⟨_,rfl⟩;obtain⟨W2,hW2⟩:∃W,W=W1.alloc (.cells (ak none 0 0 cL).toArray 60):=⟨_,rfl⟩;obtain⟨a1,ha1⟩:∃b:ca,b={ cL with kind:=a.kind }:=⟨_,rfl⟩;obtain⟨W3,hW3⟩:∃W,W=W2.setCells W1.heap.size 0 (ak none 0 0 a1):=⟨_,rfl⟩;have hs0:W0.heap.size=w.heap.size+1:=by rw[hW0];simp
 have hs1:W1.heap.size=w.heap.size+2:=by rw[hW1];simp[hs0]
 have hS1:aA a1:=by rw[ha1];exact⟨aE,by show (0:Nat)<_;decide⟩
 have hX0:aj W0 w.heap.size 60 (ak A a.frame.length c a).toArray:=by rw[hW0];exact aj.new w _ _ _ rfl
 have hX1:aj W1 w.heap.size 60 (ak A a.frame.length c a).toArray:=by rw[hW1];exact aj.alloc hX0 _
 have hR1:aj W1 (w.heap.size+1) 60 (ak none 0 0 cL).toArray:=by rw[hW1,←hs0];exact aj.new W0 _ _ _ rfl
 have hB1:Below w.heap.size w W1:=by rw[hW1,hW0];exact ((Below.refl _ _).alloc (IJ _) _).alloc (by simp) _
 obtain⟨hth,hbx,hbe⟩:=jE W1 W2 W3 60 (ak none 0 0 cL) (ak none 0 0 a1) (by rw[aX hS1,aX bZ]) hW2 hW3;have h3:rE w W3 A c a none 0 a1:=⟨aj.below hX1 hbe hX1.lt,aj.below hR1 hbe hR1.lt,by rw[←hs1,show a1.frame.length=0 by rw[ha1];rfl];exact hbx,hB1.trans (hbe.mono hB1.size),hS1⟩;have d0:=fG hX1;have H3:=hid h3;have Ha1:=hid ha1;have HW0:=hid hW0;rw[lp] at hW1 hW2;have HW1:=hid hW1;have HW2:=hid hW2;have HW3:=hid hW3;have Hs1:=hid hs1;have Hth:=hid hth;have Hlit:Hid ((ak none 0 0 a1).toArray=#[.int .i64 a.kind,.slice none 0 0,.int .i64 0,.string ⟨#[]⟩,.bool false,.int .u8 0,.int .u8 0,.int .u8 0,.int .u8 0,.int .u8 0,.int .u8 0,.int .u8 0,.int .u8 0,.int .u8 0,.int .u8 0,.int .u8 0,.int .u8 0,.int .u8 0,.int .u8 0,.int .u8 0,.int .u8 0,.int .i64 0,.int .u8 0,.int .u8 0,.int .u8 0,.int .u8 0,.int .u8 0,.int .u8 0,.float .f64 0,.bool false,.string ⟨#[]⟩,.float .f64 0,.string ⟨#[]⟩,.bool false]):=by show _=_;rw[ha1];rfl
 have Hsz:Hid ((IE.info? 60).map (·.size)=some (ak none 0 0 a1).toArray.size):=bv hS1;clear hW0 hW1 hW2 hW3 ha1 hs0 hs1 hS1 hX0 hX1 hR1 hB1 hth hbx hbe h3;go_enter Tryz.func134,Tryz.ntmps134
 go_upto_region 1 with fail
 rw[←HW0.out];rw[←HW1.out];go_upto_region 2 with (first
  |(rw[←HW2.out];(with_reducible refine aR 60 ?_);rw[←Hlit.out];refine wpList_store_mid rfl 60 (.tmp 3) (.tmp 6) rfl W1.heap.size 0 (ak none 0 0 a1).toArray rfl rfl Hth.out Hsz.out (eW _ _ _ _) ?_))
 rw[←HW3.out];rw[Hs1.out];clear HW0 HW1 HW2 HW3 Hth Hlit Hsz Hs1 d0;have d0:=fG H3.out.src;rcases k1:(a.kind==1) with _|_
 rotate_left
 ·have hk:a.kind=1:=by simpa using k1
  have Hk1:=hid k1;obtain⟨b,hb⟩:∃b:ca,b={ cL with kind:=a.kind,frame:=a.frame }:=⟨_,rfl⟩;have hbo:b=bX a:=by rw[hb];unfold bX;rw[if_pos hk]
  have hbf:b.frame=a.frame:=by rw[hb]
  have hS:aA b:=by rw[hb];exact⟨aE,by show (0:Nat)<_;decide⟩
  have d1:=fu H3.out.src;have dx:=fu H3.out.box;have df:=H3.out.box.frozen 1;have h4:rE w (W3.setCell ⟨w.heap.size+2,1,none⟩ (.slice A a.frame.length c)) A c a A c b:=H3.out.set_ 1 (.slice A a.frame.length c) (by rw[hbf,oe A a.frame.length c a.frame,Ha1.out,hb]) hS;obtain⟨W4,hW4⟩:∃W,W=W3.setCell ⟨w.heap.size+2,1,none⟩ (.slice A a.frame.length c):=⟨_,rfl⟩;rw[←hW4] at h4;have H4:=hid h4;have HW4:=hid hW4;have Hbo:=hid hbo;have Hbf:=hid hbf;clear hk hb hbo hbf hS h4 hW4;go_upto_region 15 with fail
  rw[←HW4.out];clear HW4 d0 d1 dx df;have RF:=hid (ag H4.out.box);have Hthr:Hid (W4.there (w.heap.size+1) 0 (ak A b.frame.length c b).toArray.size):=H4.out.res.there (by rw[qq,qq,aX H4.out.shape,aX bZ];decide);have Hszr:Hid ((IE.info? 60).map (·.size)=some (ak A b.frame.length c b).toArray.size):=bv H4.out.shape;have HG:=hid H4.out.goodBlk;have Hpost:=hid (H4.out.good Hbo.out (by rw[Dm,Hk1.out];rfl) (by rw[Fd,Hk1.out];rfl))
  go_wp2_with (first
   |((with_reducible refine aB 60 ?_);refine aa (by rfl) 60 (.tmp 3) rfl (w.heap.size+2) 0 rfl (ak A b.frame.length c b) _ RF.out Iz rfl (bv H4.out.shape) ?_)
   |((with_reducible refine aR 60 ?_);refine wpList_store_mid rfl 60 (.tmp 2) (.tmp 51) rfl (w.heap.size+1) 0 (ak A b.frame.length c b).toArray rfl rfl Hthr.out Hszr.out (eW _ _ _ _) ?_))
  refine bodyPost_ret (v:=.agg (ak A b.frame.length c b).toArray) (cN (P:=IE) (p:=2) rfl _ _ (w.heap.size+1) _ _ _ rfl HG.out bQ rfl Hszr.out) rfl Hpost.out
 have Hk1:=hid k1;rcases k2:(a.kind==2) with _|_
 rotate_left
 ·have hk:a.kind=2:=by simpa using k2
  have Hk:=hid hk;clear hk;have d2:=iF H3.out.src;obtain⟨b,hb⟩:∃b:ca,b={ cL with kind:=a.kind,op:=a.op }:=⟨_,rfl⟩;have hS:aA b:=by rw[hb];exact⟨aE,by show (0:Nat)<_;decide⟩
  obtain⟨W4,hW4⟩:∃W,W=W3.setCells (w.heap.size+2) 2 (sL a.op dU [] 0):=⟨_,rfl⟩;have hth:W3.there (w.heap.size+2) 2 (sL a.op dU [] 0).toArray.size:=H3.out.box.there (by rw[qq,qq,yp aE,aX H3.out.shape];decide);have h4:rE w W4 A c a none 0 b:=by
   rw[hW4];refine H3.out.sets 2 _ ?_ hS;rw[Fc H3.out.shape a.op dU aE [] 0,Ha1.out,hb];rfl
  have H4:=hid h4;have HW4:=hid hW4;have Hb:=hid hb;have Hth:=hid hth;clear hS h4 hW4 hth hb;go_upto_region 7 with (first
   |((with_reducible refine aR 58 ?_);refine wpList_store_mid rfl 58 (.tmp 20) (.tmp 19) rfl (w.heap.size+2) 2 (sL a.op dU [] 0).toArray rfl rfl Hth.out (Fb.trans (by rw[qq,yp aE])) (Gr _ _ _ _) ?_))
  rw[←HW4.out];clear HW4 Hth d0 d2;have d2:=iF H4.out.src;rcases k3:(a.op==1) with _|_
  rotate_left
  ·obtain⟨b2,hb2⟩:∃b:ca,b={ cL with kind:=a.kind,op:=a.op,back:=a.back }:=⟨_,rfl⟩
   have hS2:aA b2:=by rw[hb2];exact⟨ha.out.back,by show (0:Nat)<_;decide⟩
   have hbo:b2=bX a:=by
    rw[hb2];unfold bX;rw[if_neg (by have:=Hk.out;omega),if_pos Hk.out,if_pos (by simpa using k3)]
   obtain⟨W5,hW5⟩:∃W,W=W4.setCells (w.heap.size+2) 3 (ah a.back):=⟨_,rfl⟩;have hth:W4.there (w.heap.size+2) 3 (ah a.back).toArray.size:=H4.out.box.there (by rw[qq,qq,bu ha.out.back,aX H4.out.shape];decide);have h5:rE w W5 A c a none 0 b2:=by
    rw[hW5];refine H4.out.sets 3 _ ?_ hS2;rw[pZ H4.out.shape a.back ha.out.back,Hb.out,hb2]
   have hbf:b2.frame=[]:=by rw[hb2];rfl
   have H5:=hid h5;have HW5:=hid hW5;have Hth:=hid hth;have Hbo:=hid hbo;have Hbf:=hid hbf;have RB:=hid (iV H4.out.src ha.out);clear hS2 h5 hW5 hth hb2 hbo hbf;go_upto_region 15 with (first
    |((with_reducible refine aB 56 ?_);refine aa (by rfl) 56 (.tmp 29) rfl w.heap.size 3 rfl (ah a.back) _ RB.out Tryz.underlying56 rfl (cM ha.out.back) ?_)
    |((with_reducible refine aR 56 ?_);refine wpList_store_mid rfl 56 (.tmp 32) (.tmp 30) rfl (w.heap.size+2) 3 (ah a.back).toArray rfl rfl Hth.out (cM ha.out.back) (eS _) ?_))
   rw[←HW5.out];clear HW5 Hth RB d2;have RF:=hid (ag H5.out.box);have Hthr:Hid (W5.there (w.heap.size+1) 0 (ak none b2.frame.length 0 b2).toArray.size):=H5.out.res.there (by rw[qq,qq,aX H5.out.shape,aX bZ];decide);have Hszr:Hid ((IE.info? 60).map (·.size)=some (ak none b2.frame.length 0 b2).toArray.size):=bv H5.out.shape;have HG:=hid H5.out.goodBlk;have Hpost:=hid (H5.out.good Hbo.out (by rw[Dm,Hk1.out];rfl) (by rw[Fd,Hk1.out];rfl))
   go_wp2_with (first
    |((with_reducible refine aB 60 ?_);refine aa (by rfl) 60 (.tmp 3) rfl (w.heap.size+2) 0 rfl (ak none b2.frame.length 0 b2) _ RF.out Iz rfl (bv H5.out.shape) ?_)
    |((with_reducible refine aR 60 ?_);refine wpList_store_mid rfl 60 (.tmp 2) (.tmp 51) rfl (w.heap.size+1) 0 (ak none b2.frame.length 0 b2).toArray rfl rfl Hthr.out Hszr.out (eW _ _ _ _) ?_))
   refine bodyPost_ret (v:=.agg (ak none b2.frame.length 0 b2).toArray) (cN (P:=IE) (p:=2) rfl _ _ (w.heap.size+1) _ _ _ rfl HG.out bQ rfl Hszr.out) rfl Hpost.out
  rcases k4:(a.op==3) with _|_
  rotate_left
  ·obtain⟨b2,hb2⟩:∃b:ca,b={ cL with kind:=a.kind,op:=a.op,owt:=a.owt }:=⟨_,rfl⟩
   have hSb2:aA b2:=by rw[hb2];exact⟨aE,ha.out.owt⟩
   have s31:=kt H4.out.src ha.out;have dx:=kt H4.out.box H4.out.shape;have df:=H4.out.box.frozen 31;obtain⟨W5,hW5⟩:∃W,W=W4.setCell ⟨w.heap.size+2,31,none⟩ (.float .f64 a.owt):=⟨_,rfl⟩;have H50:rE w W5 A c a none 0 b2:=by
    rw[hW5];refine H4.out.set_ 31 (.float .f64 a.owt) ?_ hSb2;rw[rD H4.out.shape a.owt,Hb.out,hb2]
   have H5:=hid H50;have QW5:=hid hW5;have Pb2:=hid hb2;have hsf:=fun (a:Addr) (m:Mode) (n:Nat) (w:World)=>ic a n m w
   clear H50 hW5 hb2 hSb2;go_upto_region 12 with fail
   rw[←QW5.out];clear QW5 s31 dx df;obtain⟨b3,hb3⟩:∃b:ca,b={ cL with kind:=a.kind,op:=a.op,oname:=a.oname,owt:=a.owt }:=⟨_,rfl⟩;have hSb3:aA b3:=by rw[hb3];exact⟨aE,ha.out.owt⟩
   have s30:=ed H5.out.src ha.out;have dx:=ed H5.out.box H5.out.shape;have df:=H5.out.box.frozen 30;obtain⟨W6,hW6⟩:∃W,W=W5.setCell ⟨w.heap.size+2,30,none⟩ (.string ⟨a.oname.toArray⟩):=⟨_,rfl⟩;have H60:rE w W6 A c a none 0 b3:=by
    rw[hW6];refine H5.out.set_ 30 (.string ⟨a.oname.toArray⟩) ?_ hSb3;rw[mg H5.out.shape a.oname,Pb2.out,hb3]
   have H6:=hid H60;have QW6:=hid hW6;have Pb3:=hid hb3;clear H60 hW6 hb3 hSb3;go_upto_region 15 with fail
   rw[←QW6.out];clear QW6 s30 dx df;have Hbo:Hid (b3=bX a):=by
    show _=_
    rw[Pb3.out];unfold bX;rw[if_neg (by have:=Hk.out;omega),if_pos Hk.out,if_neg (by simpa using k3),if_pos (by simpa using k4)]
   have Hbf:Hid (b3.frame=[]):=by show _=_;rw[Pb3.out];rfl
   have RF:=hid (ag H6.out.box);have Hthr:Hid (W6.there (w.heap.size+1) 0 (ak none b3.frame.length 0 b3).toArray.size):=H6.out.res.there (by rw[qq,qq,aX H6.out.shape,aX bZ];decide);have Hszr:Hid ((IE.info? 60).map (·.size)=some (ak none b3.frame.length 0 b3).toArray.size):=bv H6.out.shape;have HG:=hid H6.out.goodBlk;have Hpost:=hid (H6.out.good Hbo.out (by rw[Dm,Hk1.out];rfl) (by rw[Fd,Hk1.out];rfl))
   go_wp2_with (first
    |((with_reducible refine aB 60 ?_);refine aa (by rfl) 60 (.tmp 3) rfl (w.heap.size+2) 0 rfl (ak none b3.frame.length 0 b3) _ RF.out Iz rfl (bv H6.out.shape) ?_)
    |((with_reducible refine aR 60 ?_);refine wpList_store_mid rfl 60 (.tmp 2) (.tmp 51) rfl (w.heap.size+1) 0 (ak none b3.frame.length 0 b3).toArray rfl rfl Hthr.out Hszr.out (eW _ _ _ _) ?_))
   refine bodyPost_ret (v:=.agg (ak none b3.frame.length 0 b3).toArray) (cN (P:=IE) (p:=2) rfl _ _ (w.heap.size+1) _ _ _ rfl HG.out bQ rfl Hszr.out) rfl Hpost.out
  ·obtain⟨b3,hb3⟩:∃b:ca,b={ cL with kind:=a.kind,op:=a.op,oname:=a.oname }:=⟨_,rfl⟩
   have hSb3:aA b3:=by rw[hb3];exact⟨aE,by show (0:Nat)<_;decide⟩
   have s30:=ed H4.out.src ha.out;have dx:=ed H4.out.box H4.out.shape;have df:=H4.out.box.frozen 30;obtain⟨W6,hW6⟩:∃W,W=W4.setCell ⟨w.heap.size+2,30,none⟩ (.string ⟨a.oname.toArray⟩):=⟨_,rfl⟩;have H60:rE w W6 A c a none 0 b3:=by
    rw[hW6];refine H4.out.set_ 30 (.string ⟨a.oname.toArray⟩) ?_ hSb3;rw[mg H4.out.shape a.oname,Hb.out,hb3]
   have H6:=hid H60;have QW6:=hid hW6;have Pb3:=hid hb3;clear H60 hW6 hb3 hSb3;go_upto_region 15 with fail
   rw[←QW6.out];clear QW6 s30 dx df;have Hbo:Hid (b3=bX a):=by
    show _=_
    rw[Pb3.out];unfold bX;rw[if_neg (by have:=Hk.out;omega),if_pos Hk.out,if_neg (by simpa using k3),if_neg (by simpa using k4)]
   have Hbf:Hid (b3.frame=[]):=by show _=_;rw[Pb3.out];rfl
   have RF:=hid (ag H6.out.box);have Hthr:Hid (W6.there (w.heap.size+1) 0 (ak none b3.frame.length 0 b3).toArray.size):=H6.out.res.there (by rw[qq,qq,aX H6.out.shape,aX bZ];decide);have Hszr:Hid ((IE.info? 60).map (·.size)=some (ak none b3.frame.length 0 b3).toArray.size):=bv H6.out.shape;have HG:=hid H6.out.goodBlk;have Hpost:=hid (H6.out.good Hbo.out (by rw[Dm,Hk1.out];rfl) (by rw[Fd,Hk1.out];rfl))
   go_wp2_with (first
    |((with_reducible refine aB 60 ?_);refine aa (by rfl) 60 (.tmp 3) rfl (w.heap.size+2) 0 rfl (ak none b3.frame.length 0 b3) _ RF.out Iz rfl (bv H6.out.shape) ?_)
    |((with_reducible refine aR 60 ?_);refine wpList_store_mid rfl 60 (.tmp 2) (.tmp 51) rfl (w.heap.size+1) 0 (ak none b3.frame.length 0 b3).toArray rfl rfl Hthr.out Hszr.out (eW _ _ _ _) ?_))
   refine bodyPost_ret (v:=.agg (ak none b3.frame.length 0 b3).toArray) (cN (P:=IE) (p:=2) rfl _ _ (w.heap.size+1) _ _ _ rfl HG.out bQ rfl Hszr.out) rfl Hpost.out
 rcases k5:(a.kind==3) with _|_
 rotate_left
 ·have Hk:Hid (a.kind=3):=by show _=_;simpa using k5
  go_upto_region 14 with fail
  clear d0;have s32:=fY H3.out.src ha.out;have s33:=iq H3.out.src ha.out;obtain⟨b2,hb2⟩:∃b:ca,b={ cL with kind:=a.kind,name:=a.name }:=⟨_,rfl⟩;obtain⟨b3,hb3⟩:∃b:ca,b={ cL with kind:=a.kind,name:=a.name,well:=a.well }:=⟨_,rfl⟩;have hS2:aA b2:=by rw[hb2];exact⟨aE,by show (0:Nat)<_;decide⟩
  have hS3:aA b3:=by rw[hb3];exact⟨aE,by show (0:Nat)<_;decide⟩
  refine wp_region_noPanic ?_;refine wp_region_held_drew (S:=fun w'=>aj w' w.heap.size 60 (ak A a.frame.length c a).toArray) (by kernel_rfl) (aj.drew H3.out.src) (fun hHeld=>?_);refine wpAnyH_take (i:=0) (v:=?_) rfl (by kernel_rfl) (by kernel_rfl) (by kernel_rfl) (fun _ _ _ h=>h) (IP ⟨by rfl,?_⟩) hHeld ?_;rotate_left
  ·intro w' hSw
   skip
   go_simp
   try with_reducible rfl
  try (simp only[IK,IG,IC,ID,Iy,IH,IF])
  refine wpAnyH_take (i:=1) (v:=?_) rfl (by kernel_rfl) (by kernel_rfl) (by kernel_rfl) (fun _ _ _ h=>h) (IP ⟨by rfl,?_⟩) hHeld ?_;rotate_left
  ·intro w' hSw
   have e1:=fY hSw ha.out;go_simp
   try with_reducible rfl
  try (simp only[IK,IG,IC,ID,Iy,IH,IF])
  refine wpAnyH_take (i:=2) (v:=?_) rfl (by kernel_rfl) (by kernel_rfl) (by kernel_rfl) (fun _ _ _ h=>h) (IP ⟨by rfl,?_⟩) hHeld ?_;rotate_left
  ·intro w' hSw
   skip
   go_simp
   try with_reducible rfl
  try (simp only[IK,IG,IC,ID,Iy,IH,IF])
  refine wpAnyH_take (i:=3) (v:=?_) rfl (by kernel_rfl) (by kernel_rfl) (by kernel_rfl) (fun _ _ _ h=>h) (IP ⟨by rfl,?_⟩) hHeld ?_;rotate_left
  ·intro w' hSw
   have e1:=iq hSw ha.out;go_simp
   try with_reducible rfl
  try (simp only[IK,IG,IC,ID,Iy,IH,IF])
  refine wpAnyH_take (i:=4) (v:=?_) rfl (by kernel_rfl) (by kernel_rfl) (by kernel_rfl) (fun _ _ _ h=>h) (IP ⟨by rfl,?_⟩) hHeld ?_;rotate_left
  ·intro w' hSw
   skip
   go_simp
   try with_reducible rfl
  try (simp only[IK,IG,IC,ID,Iy,IH,IF])
  generalize hWd:W3.drew=Wd at hHeld ⊢
  have hd3:rE w Wd A c a none 0 a1:=by rw[←hWd];exact⟨aj.drew H3.out.src,aj.drew H3.out.res,aj.drew H3.out.box,H3.out.bel.drew,H3.out.shape⟩
  clear hWd;refine wpAnyH_ready (rs:=[5]) (by kernel_rfl) (by simp) ?_;refine IQ (i:=5) rfl (fun K hK=>?_) IR;have dx:=fY hd3.box hd3.shape;have df:=hd3.box.frozen 32;obtain⟨W5,hW5⟩:∃W,W=Wd.setCell ⟨w.heap.size+2,32,none⟩ (.string ⟨a.name.toArray⟩):=⟨_,rfl⟩;have h5:rE w W5 A c a none 0 b2:=by
   rw[hW5];refine hd3.set_ 32 _ ?_ hS2;rw[pX hd3.shape a.name,Ha1.out,hb2]
  go_simp
  rw[←hW5];clear hW5;refine hK.out _ _ h5.src (fun hHeld=>?_);clear hK K dx df
  try (simp only[IK,IG,IC,ID,Iy,IH,IF])
  refine wpAnyH_take (i:=6) (v:=?_) rfl (by kernel_rfl) (by kernel_rfl) (by kernel_rfl) (fun _ _ _ h=>h) (IP ⟨by rfl,?_⟩) hHeld ?_;rotate_left
  ·intro w' hSw
   skip
   go_simp
   try with_reducible rfl
  try (simp only[IK,IG,IC,ID,Iy,IH,IF])
  refine wpAnyH_ready (rs:=[7]) (by kernel_rfl) (by simp) ?_;refine IQ (i:=7) rfl (fun K hK=>?_) IR;have dx:=iq h5.box h5.shape;have df:=h5.box.frozen 33;obtain⟨W6,hW6⟩:∃W,W=W5.setCell ⟨w.heap.size+2,33,none⟩ (.bool a.well):=⟨_,rfl⟩;have h6:rE w W6 A c a none 0 b3:=by
   rw[hW6];refine h5.set_ 33 _ ?_ hS3;rw[pY h5.shape a.well,hb2,hb3]
  go_simp
  rw[←hW6];clear hW6;refine hK.out _ _ h6.src (fun hHeld=>?_);clear hK K dx df
  try (simp only[IK,IG,IC,ID,Iy,IH,IF])
  refine wpAnyH_done (by kernel_rfl) ?_ _;refine NoPanic.normal ?_;have H6:=hid h6;have Hbo:Hid (b3=bX a):=by
   show _=_
   rw[hb3];unfold bX;rw[if_neg (by have:=Hk.out;omega),if_neg (by have:=Hk.out;omega),if_pos Hk.out]
  have Hbf:Hid (b3.frame=[]):=by show _=_;rw[hb3];rfl
  clear h5 h6 hd3 hb2 hb3 hS2 hS3 hHeld s32 s33;have RF:=hid (ag H6.out.box);have Hthr:Hid (W6.there (w.heap.size+1) 0 (ak none b3.frame.length 0 b3).toArray.size):=H6.out.res.there (by rw[qq,qq,aX H6.out.shape,aX bZ];decide);have Hszr:Hid ((IE.info? 60).map (·.size)=some (ak none b3.frame.length 0 b3).toArray.size):=bv H6.out.shape;have HG:=hid H6.out.goodBlk;have Hpost:=hid (H6.out.good Hbo.out (by rw[Dm,Hk1.out];rfl) (by rw[Fd,Hk1.out];rfl))
  go_wp2_with (first
   |((with_reducible refine aB 60 ?_);refine aa (by rfl) 60 (.tmp 3) rfl (w.heap.size+2) 0 rfl (ak none b3.frame.length 0 b3) _ RF.out Iz rfl (bv H6.out.shape) ?_)
   |((with_reducible refine aR 60 ?_);refine wpList_store_mid rfl 60 (.tmp 2) (.tmp 51) rfl (w.heap.size+1) 0 (ak none b3.frame.length 0 b3).toArray rfl rfl Hthr.out Hszr.out (eW _ _ _ _) ?_))
  refine bodyPost_ret (v:=.agg (ak none b3.frame.length 0 b3).toArray) (cN (P:=IE) (p:=2) rfl _ _ (w.heap.size+1) _ _ _ rfl HG.out bQ rfl Hszr.out) rfl Hpost.out
 have Hbo:Hid (a1=bX a):=by
  show _=_
  rw[Ha1.out];unfold bX;rw[if_neg (by simpa using k1),if_neg (by simpa using k2),if_neg (by simpa using k5)]
 have Hbf:Hid (a1.frame=[]):=by show _=_;rw[Ha1.out];rfl
 go_upto_region 15 with fail
 clear d0;have RF:=hid (ag H3.out.box);have Hthr:Hid (W3.there (w.heap.size+1) 0 (ak none a1.frame.length 0 a1).toArray.size):=H3.out.res.there (by rw[qq,qq,aX H3.out.shape,aX bZ];decide);have Hszr:Hid ((IE.info? 60).map (·.size)=some (ak none a1.frame.length 0 a1).toArray.size):=bv H3.out.shape;have HG:=hid H3.out.goodBlk;have Hpost:=hid (H3.out.good Hbo.out (by rw[Dm,Hk1.out];rfl) (by rw[Fd,Hk1.out];rfl))
 go_wp2_with (first
  |((with_reducible refine aB 60 ?_);refine aa (by rfl) 60 (.tmp 3) rfl (w.heap.size+2) 0 rfl (ak none a1.frame.length 0 a1) _ RF.out Iz rfl (bv H3.out.shape) ?_)
  |((with_reducible refine aR 60 ?_);refine wpList_store_mid rfl 60 (.tmp 2) (.tmp 51) rfl (w.heap.size+1) 0 (ak none a1.frame.length 0 a1).toArray rfl rfl Hthr.out Hszr.out (eW _ _ _ _) ?_))
 refine bodyPost_ret (v:=.agg (ak none a1.frame.length 0 a1).toArray) (cN (P:=IE) (p:=2) rfl _ _ (w.heap.size+1) _ _ _ rfl HG.out bQ rfl Hszr.out) rfl Hpost.out
theorem vD(b:aU)(hb:au b)(w:World) :
  Calls IE 135 #[.agg (ah b).toArray] w fun e w'=>e=.returned (.bool (dM b))∧Below w.heap.size w w':=by
 obtain⟨W,hW⟩:∃W,W=w.alloc (.cells (ah b).toArray 56):=⟨_,rfl⟩;have hX:aj W w.heap.size 56 (ah b).toArray:=by rw[hW];exact aj.new w _ _ _ rfl
 have HB:Hid (Below w.heap.size w W):=by rw[hW];exact (Below.refl _ _).alloc (IJ _) _
 have d0:=jx hX;have d1:=jy hX hb;have HW:=hid hW;clear hW hX;go_enter Tryz.func135,Tryz.ntmps135
 go_upto_region 1 with fail
 rw[←HW.out];clear HW;by_cases h:b.name.length≤255
 ·have hI:(b.name.length:Int)≤255:=by omega
  have Hr:Hid (dM b=dh b.port 0 65535):=by show _=_;unfold dM;rw[decide_eq_true h];rfl
  go_wp2_with fail
  refine (bO b.port 65535 W).mono ?_;rintro e w2 ⟨rfl,rfl⟩
  go_wp2
  go_ret
  exact⟨by rw[Hr.out];rfl,HB.out⟩
 ·have hI:¬(b.name.length:Int)≤255:=by omega
  have Hr:Hid (dM b=false):=by show _=_;unfold dM;rw[decide_eq_false h];rfl
  go_wp2
  go_ret
  exact⟨by rw[Hr.out];rfl,HB.out⟩
theorem iH(A:Option Addr)(c:Nat)(a:ca)(ha0:aA a)(w:World)(hf:BS w w.heap.size A a.frame) :
  Calls IE 67 #[.agg (ak A a.frame.length c a).toArray] w fun e w'=>e=.returned (.bool (bj a))∧Below w.heap.size w w':=by
 have ha:=hid ha0;clear ha0;obtain⟨W,hW⟩:∃W,W=w.alloc (.cells (ak A a.frame.length c a).toArray 60):=⟨_,rfl⟩;have HX:Hid (aj W w.heap.size 60 (ak A a.frame.length c a).toArray):=by rw[hW];exact aj.new w _ _ _ rfl
 have HB:Hid (Below w.heap.size w W):=by rw[hW];exact (Below.refl _ _).alloc (IJ _) _
 have HF:=hid ((hf.below HB.out).more HB.out.size);have d0:=fG HX.out;have d1:=iF HX.out;have HW:=hid hW;clear hW hf;go_enter Tryz.func67,Tryz.ntmps67
 go_upto_region 1 with fail
 rw[←HW.out];clear HW;by_cases k1:a.kind<1
 ·have Hr:Hid (bj a=false):=by show _=_;unfold bj;rw[show dh a.kind 1 4=false by unfold dh;rw[decide_eq_false (by omega)];rfl];rfl
  skip
  go_wp2
  go_ret
  exact⟨by rw[Hr.out];rfl,HB.out⟩
 by_cases k2:4<a.kind
 ·have Hr:Hid (bj a=false):=by show _=_;unfold bj;rw[show dh a.kind 1 4=false by unfold dh;rw[decide_eq_false (show ¬a.kind≤4 by omega),IA]];rfl
  skip
  go_wp2
  go_ret
  exact⟨by rw[Hr.out];rfl,HB.out⟩
 have Hz:Hid (dh a.kind 1 4=true):=bF.2 ⟨by omega,by omega⟩;by_cases k4:a.kind=2∧a.op<1
 ·have Hr:Hid (bj a=false):=by show _=_;unfold bj;rw[Hz.out,show (a.kind != 2)=false by simp[k4.1],show dh a.op 1 5=false by unfold dh;rw[decide_eq_false (by omega)];rfl];rfl
  obtain⟨kq,kr⟩:=k4
  go_wp2
  go_ret
  exact⟨by rw[Hr.out];rfl,HB.out⟩
 by_cases k5:a.kind=2∧5<a.op
 ·have Hr:Hid (bj a=false):=by show _=_;unfold bj;rw[Hz.out,show (a.kind != 2)=false by simp[k5.1],show dh a.op 1 5=false by unfold dh;rw[decide_eq_false (show ¬a.op≤5 by omega),IA]];rfl
  obtain⟨kq,kr⟩:=k5;have ks:¬a.op<1:=by omega
  clear k4
  go_wp2
  go_ret
  exact⟨by rw[Hr.out];rfl,HB.out⟩
 have Hp:Hid (bj a=(aV a (bX a)&&(decide (a.frame.length≤131072)&&(decide (a.oname.length≤255)&&(decide (a.name.length≤255)&&dM a.back))))):=by
  show _=_
  unfold bj;rw[Hz.out,show (a.kind != 2||dh a.op 1 5)=true by
   by_cases h:a.kind=2
   ·rw[show dh a.op 1 5=true from bF.2 ⟨by omega,by omega⟩,Bool.or_true]
   ·simp[h]]
  rfl
 go_cut [27] from 3 (fun v27 wc=>v27=.bool false∧wc=W)
 case first =>
  by_cases h:a.kind=2
  ·have kr:¬a.op<1:=by omega
   have ks:¬5<a.op:=by omega
   clear k4 k5
   go_wp2_with fail
   go_meet
   case rel=>exact⟨rfl,rfl⟩
  ·clear k4 k5
   go_wp2_with fail
   go_meet
   case rel=>exact⟨rfl,rfl⟩
 case rest =>
  obtain⟨rfl,hwc⟩:=hcut;rw[hwc];clear hwc;clear d0 d1 k1 k2 k4 k5;go_upto_region 3 with fail
  have l0:w.heap.size<W.heap.size:=HX.out.lt;have d1:=fu HX.out;have d2:=ed HX.out ha.out;have d3:=fY HX.out ha.out;obtain⟨T,hT⟩:∃T,T=(aV a (bX a)&&decide ((a.frame.length:Int)≤131072)&&decide ((a.oname.length:Int)≤255)&&decide ((a.name.length:Int)≤255)&&dM a.back):=⟨_,rfl⟩;have HT:Hid (bj a=T):=by show _=_;rw[hT,Hp.out,show decide ((a.frame.length:Int)≤131072)=decide (a.frame.length≤131072) from decide_eq_decide.2 (by omega),show decide ((a.oname.length:Int)≤255)=decide (a.oname.length≤255) from decide_eq_decide.2 (by omega),show decide ((a.name.length:Int)≤255)=decide (a.name.length≤255) from decide_eq_decide.2 (by omega)];simp only[Bool.and_assoc]
  refine Sd.start ?_
  repeat ((first|refine pa ?_|refine sl (ag HX.out) l0 Iz (bv ha.out) ?_|refine cl (fun u hu=>Do A c a ha.out u) ?_|refine cl (fun u hu=>vB A c a (Dm A a) (Fd c a) (bX a) ha.out (xX ha.out) u (HF.out.on hu) (G5 (HF.out.on hu))) ?_|refine gs (iV HX.out ha.out) l0 bL (cM ha.out.back) ?_|refine gc (fun u hu=>vD a.back ha.out.back u) ?_|refine gp ?_|refine pt ?_);simp only[ld,lg,lf,Nat.reduceAdd])
  rw[←hT];refine Sd.done fun w2 hb2=>?_
  have Hb2:=hid (HB.out.trans (hb2.mono HB.out.size));clear hb2 hT
  go_wp2
  go_ret
  exact⟨by rw[HT.out];rfl,Hb2.out⟩
theorem og(A:Option Addr)(c:Nat)(A2:Option Addr)(c2:Nat)(a:dI)(ha0:aP a)(w:World)(hf:BS w w.heap.size A a.act.frame) :
  Calls IE 34 #[.agg (bh A a.act.frame.length c A2 a.o.out.length c2 a).toArray] w fun e w'=>e=.returned (.bool (aG a))∧Below w.heap.size w w':=by
 have ha:=hid ha0;clear ha0;obtain⟨W,hW⟩:∃W,W=w.alloc (.cells (bh A a.act.frame.length c A2 a.o.out.length c2 a).toArray 65):=⟨_,rfl⟩;have HX:Hid (aj W w.heap.size 65 (bh A a.act.frame.length c A2 a.o.out.length c2 a).toArray):=by rw[hW];exact aj.new w _ _ _ rfl
 have HB:Hid (Below w.heap.size w W):=by rw[hW];exact (Below.refl _ _).alloc (IJ _) _
 have HF:=hid ((hf.below HB.out).more HB.out.size);have HW:=hid hW;clear hW hf;go_enter Tryz.func34,Tryz.ntmps34
 go_upto_region 1 with fail
 rw[←HW.out];clear HW;have RXo:=hid (pV HX.out ha.out);obtain⟨x1,hx1⟩:∃Z,Z=W.alloc (.cells (cD none 0 0 qz).toArray 62):=⟨_,rfl⟩;obtain⟨y1,hy1⟩:∃Z,Z=x1.setCells W.heap.size 0 (cD A2 a.o.out.length c2 a.o):=⟨_,rfl⟩;obtain⟨htx1,hbx1,hex1⟩:=jE W x1 y1 62 (cD none 0 0 qz) (cD A2 a.o.out.length c2 a.o) rfl hx1 hy1;rw[mJ] at hx1;have Qx1:=hid hx1;have Qy1:=hid hy1;have Tx1:=hid htx1;have Bx1:=hid hbx1;have Ex1:=hid hex1;clear hx1 hy1 htx1 hbx1 hex1;go_upto_region 2 with (first
   |((with_reducible refine aB 62 ?_);refine aa (by rfl) 62 (.tmp 4) rfl w.heap.size 34 rfl (cD A2 a.o.out.length c2 a.o) _ RXo.out Tryz.underlying62 rfl jN ?_)
   |(rw[←Qx1.out];(with_reducible refine aR 62 ?_);refine wpList_store_mid rfl 62 (.tmp 3) (.tmp 5) rfl W.heap.size 0 (cD A2 a.o.out.length c2 a.o).toArray rfl rfl Tx1.out jN (lP _ _ _ _) ?_))
 rw[←Qy1.out];clear Qx1 Qy1 Tx1;have HP:=Bx1;have HXn:=hid (aj.below HX.out Ex1.out HX.out.lt);have HB0:Hid (Below w.heap.size w y1):=HB.out.trans (Ex1.out.mono HB.out.size);have HF1:=hid ((HF.out.below Ex1.out).more Ex1.out.size);clear HX HF HB Ex1 Bx1 RXo;have HX:=HXn;clear HXn;have RXa:=hid (ob HX.out ha.out);rcases h0:(bj a.act) with _|_
 ·have Hr:Hid (aG a=false):=by show _=_;simp only[aG,h0,IB,IA]
  skip
  go_wp2_with (first
    |((with_reducible refine aB 60 ?_);refine aa (by rfl) 60 (.tmp 6) rfl w.heap.size 0 rfl (ak A a.act.frame.length c a.act) _ RXa.out Iz rfl (bv ha.out.act) ?_))
  refine (iH A c a.act ha.out.act y1 HF1.out).mono ?_;rintro e w5 ⟨rfl,hb5⟩;have HX5:=hid (aj.below HX.out hb5 HX.out.lt);have HP5:=hid (aj.below HP.out hb5 HP.out.lt);have HB:Hid (Below w.heap.size w w5):=HB0.out.trans (hb5.mono HB0.out.size);clear HX HP hb5;have HX:=HX5;have HP:=HP5;clear HX5 HP5;rw[h0];have d0:=jf HP.out;have d1:=eN HP.out;have d3:=dZ HP.out;have d4:=gW HP.out;have d5:=ku HP.out;have d6:=je HX.out ha.out
  go_wp2
  go_ret
  exact⟨by rw[Hr.out];rfl,HB.out⟩
 ·have K0:=hid h0
  clear h0;rcases h1:(dh a.o.err 0 9) with _|_
  ·have Hr:Hid (aG a=false):=by show _=_;simp only[aG,h1,IB,IA]
   skip
   go_wp2_with (first
     |((with_reducible refine aB 60 ?_);refine aa (by rfl) 60 (.tmp 6) rfl w.heap.size 0 rfl (ak A a.act.frame.length c a.act) _ RXa.out Iz rfl (bv ha.out.act) ?_))
   refine (iH A c a.act ha.out.act y1 HF1.out).mono ?_;rintro e w5 ⟨rfl,hb5⟩;have HX5:=hid (aj.below HX.out hb5 HX.out.lt);have HP5:=hid (aj.below HP.out hb5 HP.out.lt);have HB:Hid (Below w.heap.size w w5):=HB0.out.trans (hb5.mono HB0.out.size);clear HX HP hb5;have HX:=HX5;have HP:=HP5;clear HX5 HP5;rw[K0.out];have d0:=jf HP.out;have d1:=eN HP.out;have d3:=dZ HP.out;have d4:=gW HP.out;have d5:=ku HP.out;have d6:=je HX.out ha.out
   go_wp2_with fail
   refine (bO a.o.err 9 w5).mono ?_;rintro e w6 ⟨rfl,rfl⟩;rw[h1]
   go_wp2
   go_ret
   exact⟨by rw[Hr.out];rfl,HB.out⟩
  ·have K1:=hid h1
   clear h1;rcases h2:(dh a.o.reason 0 10) with _|_
   ·have Hr:Hid (aG a=false):=by show _=_;simp only[aG,h2,IB,IA]
    skip
    go_wp2_with (first
      |((with_reducible refine aB 60 ?_);refine aa (by rfl) 60 (.tmp 6) rfl w.heap.size 0 rfl (ak A a.act.frame.length c a.act) _ RXa.out Iz rfl (bv ha.out.act) ?_))
    refine (iH A c a.act ha.out.act y1 HF1.out).mono ?_;rintro e w5 ⟨rfl,hb5⟩;have HX5:=hid (aj.below HX.out hb5 HX.out.lt);have HP5:=hid (aj.below HP.out hb5 HP.out.lt);have HB:Hid (Below w.heap.size w w5):=HB0.out.trans (hb5.mono HB0.out.size);clear HX HP hb5;have HX:=HX5;have HP:=HP5;clear HX5 HP5;rw[K0.out];have d0:=jf HP.out;have d1:=eN HP.out;have d3:=dZ HP.out;have d4:=gW HP.out;have d5:=ku HP.out;have d6:=je HX.out ha.out
    go_wp2_with fail
    refine (bO a.o.err 9 w5).mono ?_;rintro e w6 ⟨rfl,rfl⟩;rw[K1.out]
    go_wp2_with fail
    refine (bO a.o.reason 10 w5).mono ?_;rintro e w6 ⟨rfl,rfl⟩;rw[h2]
    go_wp2
    go_ret
    exact⟨by rw[Hr.out];rfl,HB.out⟩
   ·have K2:=hid h2
    clear h2;rcases h3:(dh a.o.version 0 1099511627776) with _|_
    ·have Hr:Hid (aG a=false):=by show _=_;simp only[aG,h3,IB,IA]
     skip
     go_wp2_with (first
       |((with_reducible refine aB 60 ?_);refine aa (by rfl) 60 (.tmp 6) rfl w.heap.size 0 rfl (ak A a.act.frame.length c a.act) _ RXa.out Iz rfl (bv ha.out.act) ?_))
     refine (iH A c a.act ha.out.act y1 HF1.out).mono ?_;rintro e w5 ⟨rfl,hb5⟩;have HX5:=hid (aj.below HX.out hb5 HX.out.lt);have HP5:=hid (aj.below HP.out hb5 HP.out.lt);have HB:Hid (Below w.heap.size w w5):=HB0.out.trans (hb5.mono HB0.out.size);clear HX HP hb5;have HX:=HX5;have HP:=HP5;clear HX5 HP5;rw[K0.out];have d0:=jf HP.out;have d1:=eN HP.out;have d3:=dZ HP.out;have d4:=gW HP.out;have d5:=ku HP.out;have d6:=je HX.out ha.out
     go_wp2_with fail
     refine (bO a.o.err 9 w5).mono ?_;rintro e w6 ⟨rfl,rfl⟩;rw[K1.out]
     go_wp2_with fail
     refine (bO a.o.reason 10 w5).mono ?_;rintro e w6 ⟨rfl,rfl⟩;rw[K2.out]
     go_wp2_with fail
     refine (bO a.o.version 1099511627776 w5).mono ?_;rintro e w6 ⟨rfl,rfl⟩;rw[h3]
     go_wp2
     go_ret
     exact⟨by rw[Hr.out];rfl,HB.out⟩
    ·have K3:=hid h3
     clear h3;rcases h4:(decide (a.o.name.length≤255)) with _|_
     ·have Hr:Hid (aG a=false):=by show _=_;simp only[aG,h4,IB,IA]
      skip
      have q4:¬(a.o.name.length:Int)≤255:=by have:=h4;have:=of_decide_eq_false this;omega
      go_wp2_with (first
        |((with_reducible refine aB 60 ?_);refine aa (by rfl) 60 (.tmp 6) rfl w.heap.size 0 rfl (ak A a.act.frame.length c a.act) _ RXa.out Iz rfl (bv ha.out.act) ?_))
      refine (iH A c a.act ha.out.act y1 HF1.out).mono ?_;rintro e w5 ⟨rfl,hb5⟩;have HX5:=hid (aj.below HX.out hb5 HX.out.lt);have HP5:=hid (aj.below HP.out hb5 HP.out.lt);have HB:Hid (Below w.heap.size w w5):=HB0.out.trans (hb5.mono HB0.out.size);clear HX HP hb5;have HX:=HX5;have HP:=HP5;clear HX5 HP5;rw[K0.out];have d0:=jf HP.out;have d1:=eN HP.out;have d3:=dZ HP.out;have d4:=gW HP.out;have d5:=ku HP.out;have d6:=je HX.out ha.out
      go_wp2_with fail
      refine (bO a.o.err 9 w5).mono ?_;rintro e w6 ⟨rfl,rfl⟩;rw[K1.out]
      go_wp2_with fail
      refine (bO a.o.reason 10 w5).mono ?_;rintro e w6 ⟨rfl,rfl⟩;rw[K2.out]
      go_wp2_with fail
      refine (bO a.o.version 1099511627776 w5).mono ?_;rintro e w6 ⟨rfl,rfl⟩;rw[K3.out]
      go_wp2
      go_ret
      exact⟨by rw[Hr.out];rfl,HB.out⟩
     ·have K4:=hid h4
      clear h4;rcases h5:(decide (a.o.out.length=0)) with _|_
      ·have Hr:Hid (aG a=false):=by show _=_;simp only[aG,h5,IB,IA]
       skip
       have q4:(a.o.name.length:Int)≤255:=by have:=K4.out;have:=of_decide_eq_true this;omega
       have q5:¬(a.o.out.length:Int)=0:=by have:=h5;have:=of_decide_eq_false this;omega
       have qb5:((a.o.out.length:Int)==0)=false:=beq_eq_false_iff_ne.2 (by omega)
       go_wp2_with (first
         |((with_reducible refine aB 60 ?_);refine aa (by rfl) 60 (.tmp 6) rfl w.heap.size 0 rfl (ak A a.act.frame.length c a.act) _ RXa.out Iz rfl (bv ha.out.act) ?_))
       refine (iH A c a.act ha.out.act y1 HF1.out).mono ?_;rintro e w5 ⟨rfl,hb5⟩;have HX5:=hid (aj.below HX.out hb5 HX.out.lt);have HP5:=hid (aj.below HP.out hb5 HP.out.lt);have HB:Hid (Below w.heap.size w w5):=HB0.out.trans (hb5.mono HB0.out.size);clear HX HP hb5;have HX:=HX5;have HP:=HP5;clear HX5 HP5;rw[K0.out];have d0:=jf HP.out;have d1:=eN HP.out;have d3:=dZ HP.out;have d4:=gW HP.out;have d5:=ku HP.out;have d6:=je HX.out ha.out
       go_wp2_with fail
       refine (bO a.o.err 9 w5).mono ?_;rintro e w6 ⟨rfl,rfl⟩;rw[K1.out]
       go_wp2_with fail
       refine (bO a.o.reason 10 w5).mono ?_;rintro e w6 ⟨rfl,rfl⟩;rw[K2.out]
       go_wp2_with fail
       refine (bO a.o.version 1099511627776 w5).mono ?_;rintro e w6 ⟨rfl,rfl⟩;rw[K3.out]
       go_wp2
       go_ret
       exact⟨by rw[Hr.out];rfl,HB.out⟩
      ·have K5:=hid h5
       clear h5;rcases h6:(dh a.len 0 262144) with _|_
       ·have Hr:Hid (aG a=false):=by show _=_;simp only[aG,h6,IB,IA]
        skip
        have q4:(a.o.name.length:Int)≤255:=by have:=K4.out;have:=of_decide_eq_true this;omega
        have q5:(a.o.out.length:Int)=0:=by have:=K5.out;have:=of_decide_eq_true this;omega
        have qb5:((a.o.out.length:Int)==0)=true:=by rw[q5];rfl
        go_wp2_with (first
          |((with_reducible refine aB 60 ?_);refine aa (by rfl) 60 (.tmp 6) rfl w.heap.size 0 rfl (ak A a.act.frame.length c a.act) _ RXa.out Iz rfl (bv ha.out.act) ?_))
        refine (iH A c a.act ha.out.act y1 HF1.out).mono ?_;rintro e w5 ⟨rfl,hb5⟩;have HX5:=hid (aj.below HX.out hb5 HX.out.lt);have HP5:=hid (aj.below HP.out hb5 HP.out.lt);have HB:Hid (Below w.heap.size w w5):=HB0.out.trans (hb5.mono HB0.out.size);clear HX HP hb5;have HX:=HX5;have HP:=HP5;clear HX5 HP5;rw[K0.out];have d0:=jf HP.out;have d1:=eN HP.out;have d3:=dZ HP.out;have d4:=gW HP.out;have d5:=ku HP.out;have d6:=je HX.out ha.out
        go_wp2_with fail
        refine (bO a.o.err 9 w5).mono ?_;rintro e w6 ⟨rfl,rfl⟩;rw[K1.out]
        go_wp2_with fail
        refine (bO a.o.reason 10 w5).mono ?_;rintro e w6 ⟨rfl,rfl⟩;rw[K2.out]
        go_wp2_with fail
        refine (bO a.o.version 1099511627776 w5).mono ?_;rintro e w6 ⟨rfl,rfl⟩;rw[K3.out]
        go_wp2_with fail
        refine (bO a.len 262144 w5).mono ?_;rintro e w6 ⟨rfl,rfl⟩;rw[h6]
        go_wp2
        go_ret
        exact⟨by rw[Hr.out];rfl,HB.out⟩
       ·have K6:=hid h6
        clear h6;have Hr:Hid (aG a=true):=by show _=_;simp only[aG,K0.out,K1.out,K2.out,K3.out,K4.out,K5.out,K6.out,IM]
        skip
        have q4:(a.o.name.length:Int)≤255:=by have:=K4.out;have:=of_decide_eq_true this;omega
        have q5:(a.o.out.length:Int)=0:=by have:=K5.out;have:=of_decide_eq_true this;omega
        have qb5:((a.o.out.length:Int)==0)=true:=by rw[q5];rfl
        go_wp2_with (first
          |((with_reducible refine aB 60 ?_);refine aa (by rfl) 60 (.tmp 6) rfl w.heap.size 0 rfl (ak A a.act.frame.length c a.act) _ RXa.out Iz rfl (bv ha.out.act) ?_))
        refine (iH A c a.act ha.out.act y1 HF1.out).mono ?_;rintro e w5 ⟨rfl,hb5⟩;have HX5:=hid (aj.below HX.out hb5 HX.out.lt);have HP5:=hid (aj.below HP.out hb5 HP.out.lt);have HB:Hid (Below w.heap.size w w5):=HB0.out.trans (hb5.mono HB0.out.size);clear HX HP hb5;have HX:=HX5;have HP:=HP5;clear HX5 HP5;rw[K0.out];have d0:=jf HP.out;have d1:=eN HP.out;have d3:=dZ HP.out;have d4:=gW HP.out;have d5:=ku HP.out;have d6:=je HX.out ha.out
        go_wp2_with fail
        refine (bO a.o.err 9 w5).mono ?_;rintro e w6 ⟨rfl,rfl⟩;rw[K1.out]
        go_wp2_with fail
        refine (bO a.o.reason 10 w5).mono ?_;rintro e w6 ⟨rfl,rfl⟩;rw[K2.out]
        go_wp2_with fail
        refine (bO a.o.version 1099511627776 w5).mono ?_;rintro e w6 ⟨rfl,rfl⟩;rw[K3.out]
        go_wp2_with fail
        refine (bO a.len 262144 w5).mono ?_;rintro e w6 ⟨rfl,rfl⟩;rw[K6.out]
        go_wp2
        go_ret
        exact⟨by rw[Hr.out];rfl,HB.out⟩
theorem qU(b:aU):dM b=(decide (b.name.length≤255)&&(decide (0≤b.port)&&decide (b.port≤65535))):=rfl
theorem xp(b:aU)(hb:au b)(w:World) :
  Calls IE 136 #[.agg (ah b).toArray] w fun e w'=>e=.returned (.bool (dM b))∧Below w.heap.size w w':=by
 obtain⟨W,hW⟩:∃W,W=w.alloc (.cells (ah b).toArray 56):=⟨_,rfl⟩;have hX:aj W w.heap.size 56 (ah b).toArray:=by rw[hW];exact aj.new w _ _ _ rfl
 have HB:Hid (Below w.heap.size w W):=by rw[hW];exact (Below.refl _ _).alloc (IJ _) _
 have d0:=jx hX;have d1:=jy hX hb;have HW:=hid hW;clear hW hX;go_enter Tryz.func136,Tryz.ntmps136
 go_upto_region 1 with fail
 rw[←HW.out];clear HW;by_cases h0:b.name.length≤255
 rotate_left
 ·have q0:¬((b.name.length:Int)≤255):=by omega
  have Hr:Hid (dM b=false):=by show _=_;rw[qU];simp only[decide_eq_false h0,IB,IA,II]
  clear h0
  go_wp2
  go_ret
  exact⟨by rw[Hr.out];first|done|rfl|(rw[decide_eq_false (show ¬((b.name.length:Int)≤255) by omega)];rfl),HB.out⟩
 have q0:(b.name.length:Int)≤255:=by omega
 by_cases h1:0≤b.port
 rotate_left
 ·have q1:¬(0≤b.port):=by omega
  have Hr:Hid (dM b=false):=by show _=_;rw[qU];simp only[decide_eq_true h0,decide_eq_false h1,IB,IA,II]
  clear h0 h1
  go_wp2
  go_ret
  exact⟨by rw[Hr.out];first|done|rfl|(rw[decide_eq_false (show ¬(0≤b.port) by omega)];rfl),HB.out⟩
 have q1:0≤b.port:=by omega
 by_cases h2:b.port≤65535
 rotate_left
 ·have q2:¬(b.port≤65535):=by omega
  have Hr:Hid (dM b=false):=by show _=_;rw[qU];simp only[decide_eq_true h0,decide_eq_true h1,decide_eq_false h2,IB,IA,II]
  clear h0 h1 h2
  go_wp2
  go_ret
  exact⟨by rw[Hr.out];first|done|rfl|(rw[decide_eq_false (show ¬(b.port≤65535) by omega)];rfl),HB.out⟩
 have q2:b.port≤65535:=by omega
 have Hr:Hid (dM b=true):=by show _=_;rw[qU];simp only[decide_eq_true h0,decide_eq_true h1,decide_eq_true h2,IM]
 clear h0 h1 h2
 go_wp2
 go_ret
 exact⟨by rw[Hr.out];first|done|rfl|(rw[decide_eq_true (show b.port≤65535 by omega)];rfl),HB.out⟩
def gB(e:dI):Bool:=decide (e.act.frame.length≤140000)&&(decide (e.act.name.length≤400)&&(decide (e.act.oname.length≤400)&&(decide (e.act.back.name.length≤400)&&(decide (e.o.name.length≤400)&&decide (e.o.out.length≤3000)))))
theorem xq(A:Option Addr)(n c:Nat)(A2:Option Addr)(n2 c2:Nat)(e:dI)(hs0:aP e)(hn:n=e.act.frame.length)(hn2:n2=e.o.out.length)(w:World) :
  Calls IE 26 #[.agg (bh A n c A2 n2 c2 e).toArray] w fun x w'=>x=.returned (.bool (gB e))∧Below w.heap.size w w':=by
 subst hn hn2;have hs:=hid hs0;clear hs0;obtain⟨W0,hW⟩:∃W,W=w.alloc (.cells (bh A e.act.frame.length c A2 e.o.out.length c2 e).toArray 65):=⟨_,rfl⟩;have H1:Hid (aj W0 w.heap.size 65 (bh A e.act.frame.length c A2 e.o.out.length c2 e).toArray):=by rw[hW];exact aj.new w _ _ _ rfl
 have Bw:Hid (Below w.heap.size w W0):=by rw[hW];exact (Below.refl _ _).alloc (IJ _) _
 have HW:=hid hW;clear hW;go_enter Tryz.func26,Tryz.ntmps26
 go_upto_region 1 with fail
 rw[←HW.out];clear HW;have RA:=hid (ob H1.out hs.out);obtain⟨x1,hx1⟩:∃W,W=W0.alloc (.cells (ak none 0 0 cL).toArray 60):=⟨_,rfl⟩;obtain⟨y1,hy1⟩:∃W,W=x1.setCells W0.heap.size 0 (ak A e.act.frame.length c e.act):=⟨_,rfl⟩;obtain⟨hth1,hbx1,hbe1⟩:=jE W0 x1 y1 60 (ak none 0 0 cL) (ak A e.act.frame.length c e.act) (by rw[aX hs.out.act,aX bZ]) hx1 hy1;rw[lp] at hx1;have HX1:=hid hx1;have HY1:=hid hy1;have Hth1:=hid hth1;have Hbe1:=hid hbe1;have H3n:=hid hbx1;clear hx1 hy1 hth1 hbx1 hbe1;have R1:=hid (ag H1.out);go_upto_region 2 with (first
  |((with_reducible refine aB 65 ?_);refine aa (by rfl) 65 (.tmp 1) rfl w.heap.size 0 rfl (bh A e.act.frame.length c A2 e.o.out.length c2 e) _ R1.out eh rfl (ll hs.out) ?_)
  |(rw[←HX1.out];(with_reducible refine aR 60 ?_);refine wpList_store_mid rfl 60 (.tmp 3) (.tmp 5) rfl W0.heap.size 0 (ak A e.act.frame.length c e.act).toArray rfl rfl Hth1.out (bv hs.out.act) (eW _ _ _ _) ?_)
  |((with_reducible refine aB 60 ?_);refine aa (by rfl) 60 (.tmp 4) rfl w.heap.size 0 rfl (ak A e.act.frame.length c e.act) _ RA.out bQ rfl (bv hs.out.act) ?_))
 clear R1;rw[←HY1.out];clear HX1 HY1 Hth1;have H1':=hid (aj.below H1.out Hbe1.out H1.out.lt);clear H1;have H1:=H1';clear H1';have Bw':Hid (Below w.heap.size w y1):=Bw.out.trans (Hbe1.out.mono Bw.out.size);clear Bw;have Bw:=Bw';clear Bw';have H3:=H3n;clear H3n Hbe1;have d0:=fu H3.out;have d1:=fY H3.out hs.out.act;have d2:=ed H3.out hs.out.act;have d3:y1.cell? ⟨W0.heap.size,3,none⟩=some (.string ⟨e.act.back.name.toArray⟩):=iV H3.out hs.out.act 0 _ rfl;have d4:=mz H1.out hs.out 4;have d4':y1.cell? ⟨w.heap.size,38,none⟩=some (.string ⟨e.o.name.toArray⟩):=d4;have d5:y1.cell? ⟨w.heap.size,39,none⟩=some (.slice A2 e.o.out.length c2):=mz H1.out hs.out 5;have HB:=Bw;clear RA d4;by_cases h0:e.act.frame.length≤140000
 rotate_left
 ·have q0:¬((e.act.frame.length:Int)≤140000):=by omega
  have Hr:Hid (gB e=false):=by show _=_;unfold gB;simp only[decide_eq_false h0,IB,IA,II]
  clear h0
  go_wp2
  go_ret
  exact⟨by rw[Hr.out];first|done|rfl|(rw[decide_eq_false (show ¬((e.act.frame.length:Int)≤140000) by omega)];rfl),HB.out⟩
 have q0:(e.act.frame.length:Int)≤140000:=by omega
 by_cases h1:e.act.name.length≤400
 rotate_left
 ·have q1:¬((e.act.name.length:Int)≤400):=by omega
  have Hr:Hid (gB e=false):=by show _=_;unfold gB;simp only[decide_eq_true h0,decide_eq_false h1,IB,IA,II]
  clear h0 h1
  go_wp2
  go_ret
  exact⟨by rw[Hr.out];first|done|rfl|(rw[decide_eq_false (show ¬((e.act.name.length:Int)≤400) by omega)];rfl),HB.out⟩
 have q1:(e.act.name.length:Int)≤400:=by omega
 by_cases h2:e.act.oname.length≤400
 rotate_left
 ·have q2:¬((e.act.oname.length:Int)≤400):=by omega
  have Hr:Hid (gB e=false):=by show _=_;unfold gB;simp only[decide_eq_true h0,decide_eq_true h1,decide_eq_false h2,IB,IA,II]
  clear h0 h1 h2
  go_wp2
  go_ret
  exact⟨by rw[Hr.out];first|done|rfl|(rw[decide_eq_false (show ¬((e.act.oname.length:Int)≤400) by omega)];rfl),HB.out⟩
 have q2:(e.act.oname.length:Int)≤400:=by omega
 by_cases h3:e.act.back.name.length≤400
 rotate_left
 ·have q3:¬((e.act.back.name.length:Int)≤400):=by omega
  have Hr:Hid (gB e=false):=by show _=_;unfold gB;simp only[decide_eq_true h0,decide_eq_true h1,decide_eq_true h2,decide_eq_false h3,IB,IA,II]
  clear h0 h1 h2 h3
  go_wp2
  go_ret
  exact⟨by rw[Hr.out];first|done|rfl|(rw[decide_eq_false (show ¬((e.act.back.name.length:Int)≤400) by omega)];rfl),HB.out⟩
 have q3:(e.act.back.name.length:Int)≤400:=by omega
 by_cases h4:e.o.name.length≤400
 rotate_left
 ·have q4:¬((e.o.name.length:Int)≤400):=by omega
  have Hr:Hid (gB e=false):=by show _=_;unfold gB;simp only[decide_eq_true h0,decide_eq_true h1,decide_eq_true h2,decide_eq_true h3,decide_eq_false h4,IB,IA,II]
  clear h0 h1 h2 h3 h4
  go_wp2
  go_ret
  exact⟨by rw[Hr.out];first|done|rfl|(rw[decide_eq_false (show ¬((e.o.name.length:Int)≤400) by omega)];rfl),HB.out⟩
 have q4:(e.o.name.length:Int)≤400:=by omega
 by_cases h5:e.o.out.length≤3000
 rotate_left
 ·have q5:¬((e.o.out.length:Int)≤3000):=by omega
  have Hr:Hid (gB e=false):=by show _=_;unfold gB;simp only[decide_eq_true h0,decide_eq_true h1,decide_eq_true h2,decide_eq_true h3,decide_eq_true h4,decide_eq_false h5,IB,IA,II]
  clear h0 h1 h2 h3 h4 h5
  go_wp2
  go_ret
  exact⟨by rw[Hr.out];first|done|rfl|(rw[decide_eq_false (show ¬((e.o.out.length:Int)≤3000) by omega)];rfl),HB.out⟩
 have q5:(e.o.out.length:Int)≤3000:=by omega
 have Hr:Hid (gB e=true):=by show _=_;unfold gB;simp only[decide_eq_true h0,decide_eq_true h1,decide_eq_true h2,decide_eq_true h3,decide_eq_true h4,decide_eq_true h5,IM]
 clear h0 h1 h2 h3 h4 h5
 go_wp2
 go_ret
 exact⟨by rw[Hr.out];first|done|rfl|(rw[decide_eq_true (show (e.o.out.length:Int)≤3000 by omega)];rfl),HB.out⟩
