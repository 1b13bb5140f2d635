import Derived.Test.YtaafkokfdgfabaaGreatP10
import Derived.Test.YtaafkokfdgfabaaGreatP15
import Derived.Test.YtaafkokfdgfabaaGreatP24
import Derived.Test.YtaafkokfdgfabaaGreatP31
import Derived.Deep.Matrix
import Derived.Deep.SlicePairs
import Derived.OpenShut
set_option maxHeartbeats 8000000
set_option maxRecDepth 100000
set_option linter.unusedVariables false
set_option linter.unusedSimpArgs false
open Bool renaming and_false→IM,and_true→IN,and_eq_true→IQ,and_assoc→IR
open List renaming getElem?_eq_getElem→qq,take_of_length_le→Iz,mem_of_getElem?→IA,all_eq_true→IB,getElem_of_mem→IC,getElem?_take→ID,getElem_take→IE,all_eq_false→IF,length_take→IG,getElem?_map→II,drop_zero→IK,mem_map→IT
open Nat renaming lt_or_ge→IH,reduceAdd→IJ,le_refl→IL,lt_of_lt_of_le→IP,mul_one→IV
namespace Go.Proofs.YtaafkokfdgfabaaGreat
open Go.RowKit Go.Deep Go.ChangeShapes Go.WideShapes
open Lib (hid)
open Act renaming put→IW
open Sd renaming plain→IS,done→IU
open Tryz renaming prog→Iy
def Td(w:World)(t:TypeId)(cs:List Value):Prop:=∃(H:Type) (enc:TypeId×Value→H) (base:Nat) (held:Bool) (fuel:Nat) (x:DataW H×List MemPlace),DataW.trod enc Iy w base (fun _=>true) held fuel t cs=some x
section
variable {w:World} {t e:TypeId} {cs:List Value}
theorem Td.len{fs:Array Field}(hu:Iy.underlying t=some (.struct fs))(h:Td w t cs):cs.length=Iy.cellsOf t:=by
 obtain⟨H,enc,base,held,fuel,x,h⟩:=h;obtain⟨_,_,_,_,hl,_⟩:=DataW.trod_struct hu h;exact hl
theorem Td.fld{fs:Array Field}(hu:Iy.underlying t=some (.struct fs))(h:Td w t cs)(i:Nat){f:Field}(hi:fs[i]?=some f:=by rfl):Td w f.type ((cs.drop f.offset).take (Iy.cellsOf f.type)):=by
 obtain⟨H,enc,base,held,fuel,x,h⟩:=h;obtain⟨ys,n,_,_,_,hlen,hf⟩:=DataW.trod_struct hu h;have:=hf i f hi;rw[qq (by rw[hlen];exact (Array.getElem?_eq_some_iff.1 hi).1)] at this;exact⟨H,enc,base,held,_,_,this⟩
theorem Td.elm{n:Nat}(hu:Iy.underlying t=some (.array n e))(he:Iy.cellsOf e=1)(h:Td w t cs):cs.length=Iy.cellsOf t∧∀i,i<n→Td w e ((cs.drop i).take 1):=by
 obtain⟨H,enc,base,held,fuel,x,h⟩:=h;obtain⟨ys,n,_,_,hl,hlen,hf⟩:=DataW.trod_array hu h;refine⟨hl,fun i hi=>?_⟩;have:=hf i hi;rw[he,IV,qq (by omega)] at this;exact⟨H,enc,base,held,_,_,this⟩
theorem Td.bool(h:Td w t cs)(hu:Iy.underlying t=some .bool:=by kernel_rfl):∃b,cs=[.bool b]:=by
 obtain⟨H,enc,base,held,fuel,x,h⟩:=h;obtain⟨b,h,_⟩:=DataW.trod_bool hu h;exact⟨b,h⟩
theorem Td.int(h:Td w t cs)(hu:Iy.underlying t=some (.int .i64):=by kernel_rfl):∃z,cs=[.int .i64 z]:=by
 obtain⟨H,enc,base,held,fuel,x,h⟩:=h;obtain⟨b,h,_⟩:=DataW.trod_int hu h;exact⟨b,h⟩
theorem Td.u32(h:Td w t cs)(hu:Iy.underlying t=some (.int .u32):=by kernel_rfl):∃n:Nat,cs=[.int .u32 (n:Int)]∧n<4294967296:=by
 obtain⟨H,enc,base,held,fuel,x,h⟩:=h;obtain⟨z,hz,_,hw⟩:=DataW.trod_int hu h;have:=bounds_u32 hw;refine⟨z.toNat,?_,by omega⟩;rw[hz,show ((z.toNat:Nat):Int)=z by omega]
theorem Td.u8(h:Td w t cs)(hu:Iy.underlying t=some (.int .u8):=by kernel_rfl):∃b:UInt8,cs=[.int .u8 (b.toNat:Int)]:=by
 obtain⟨H,enc,base,held,fuel,x,h⟩:=h;obtain⟨z,hz,_,hw⟩:=DataW.trod_int hu h;simp[Lit.wf,IntKind.min,IntKind.max,IntKind.bits,IntKind.signed] at hw;refine⟨UInt8.ofNat z.toNat,?_⟩;rw[UInt8.toNat_ofNat',Nat.mod_eq_of_lt (by omega),hz,show ((z.toNat:Nat):Int)=z by omega]
theorem Td.f64(h:Td w t cs)(hu:Iy.underlying t=some (.float .f64):=by kernel_rfl):∃n:Nat,cs=[.float .f64 n]∧n<18446744073709551616:=by
 obtain⟨H,enc,base,held,fuel,x,h⟩:=h;have key:∃n:Nat,cs=[.float .f64 n]∧x=(.lit (.float .f64 n),[])∧(Lit.float .f64 n).wf=true:=by
  cases fuel with
  |zero=>simp[DataW.trod] at h
  |succ n =>
   unfold DataW.trod at h;rw[hu] at h;split at h<;>simp_all
 obtain⟨n,h1,_,h2⟩:=key;exact⟨n,h1,of_decide_eq_true h2⟩
theorem Td.str(h:Td w t cs)(hu:Iy.underlying t=some .string:=by kernel_rfl):∃l:List UInt8,cs=[sv l]∧l.length≤maxLen:=by
 obtain⟨H,enc,base,held,fuel,x,h⟩:=h;obtain⟨s,rfl,_,hm⟩:=DataW.trod_string hu h;refine⟨s.data.toList,rfl,?_⟩;have hl:s.data.toList.length=s.size:=Array.length_toList;rw[hl];exact hm
theorem Td.all{α:Type}{c:α→Value}:∀{cs:List Value},(∀i,i<cs.length→∃v,(cs.drop i).take 1=[c v])→∃l:List α,cs=l.map c
 |[],_=>⟨[],rfl⟩
 |x::cs,h=>by
  obtain⟨v,hv⟩:=h 0 (by simp);obtain⟨l,hl⟩:=Td.all (cs:=cs) fun i hi=>h (i+1) (by simpa using hi)
  simp only[IK,List.take_succ_cons,List.take_zero,List.cons.injEq,and_true] at hv;exact⟨v::l,by rw[List.map_cons,hv,←hl]⟩
theorem Td.u8s{n:Nat}(h:Td w t cs)(hu:Iy.underlying t=some (.array n 5):=by kernel_rfl)(hz:Iy.cellsOf t=n:=by kernel_rfl):∃l:List UInt8,cs=ab l∧l.length=n:=by
 obtain⟨h1,h2⟩:=h.elm hu (by kernel_rfl);obtain⟨l,hl⟩:=Td.all (c:=fun b:UInt8=>.int .u8 (b.toNat:Int)) fun i hi=>(h2 i (by omega)).u8
 subst hl;exact⟨l,rfl,by simpa[hz] using h1⟩
theorem Td.ints{n:Nat}(h:Td w t cs)(hu:Iy.underlying t=some (.array n 3):=by kernel_rfl)(hz:Iy.cellsOf t=n:=by kernel_rfl):∃l:List Int,cs=l.map (.int .i64)∧l.length=n:=by
 obtain⟨h1,h2⟩:=h.elm hu (by kernel_rfl);obtain⟨l,hl⟩:=Td.all (c:=fun z:Int=>.int .i64 z) fun i hi=>(h2 i (by omega)).int
 subst hl;exact⟨l,rfl,by simpa[hz] using h1⟩
theorem GO{w:World}{b o j:Nat}{v:Value}(h:w.cell? ((⟨b,o,none⟩:Addr).add j)=some v):b<w.heap.size:=by
 rw[Go.WideShapes.add_plain] at h;rcases IH b w.heap.size with h1|h1
 ·exact h1
 ·simp[World.cell?,Array.getElem?_eq_none h1] at h
theorem Td.rows{α:Type}{f:α→List Value}{P:α→Prop}{sz:Nat}(h:Td w t cs)(each:∀c,Td w e c→∃v,c=f v∧P v∧(f v).length=sz)(hp:0<sz)(hu:Iy.underlying t=some (.slice e):=by kernel_rfl)(hz:Iy.cellsOf e=sz:=by kernel_rfl) :
  ∃(A:Option Addr) (c:Nat) (l:List α),cs=[.slice A l.length c]∧(l.length≤c∧c≤maxLen)∧RW f sz w w.heap.size A l∧∀v∈l,P v:=by
 obtain⟨H,enc,base,held,fuel,x,h⟩:=h;rcases open_slice hu h with ⟨hcs,_⟩|⟨a,len,cap,m,n,D,Pl,hcs,_,hlc,hcm,hm,_,hi⟩
 ·exact⟨none,0,[],hcs,⟨IL _,by simp[maxLen]⟩,RW.nil _ _ _,by simp⟩
 ·rw[if_pos rfl] at hm
  have key:∀r,r<len→∃v:α,(∀i u,(f v)[i]?=some u→w.cell? (a.add (r*sz+i))=some u)∧P v∧(f v).length=sz:=by
   intro r hr;obtain⟨cs',hc,htr⟩:=hi r (by omega);rw[hz] at hc;obtain⟨v,rfl,hv,hl⟩:=each cs' ⟨H,enc,base,held,_,_,htr⟩;obtain⟨_,_,hat⟩:=World.cells?_some hc;refine⟨v,fun i u hu=>?_,hv,hl⟩;have:=hat i (by have:=(List.getElem?_eq_some_iff.1 hu).1;omega);rw[qZ] at this;rw[this,←hu]
   try rfl
  rcases Nat.eq_zero_or_pos len with h0|h0
  ·subst h0
   exact⟨some a,cap,[],by simpa using hcs,⟨by simp,hcm⟩,RW.nil _ _ _,by simp⟩
  have:Inhabited α:=⟨Classical.choose (key 0 h0)⟩;obtain⟨y,hy⟩:=choose_lt key;refine⟨some a,cap,(List.range len).map y,by simpa using hcs,⟨by simpa using hlc,hcm⟩,fun hp'=>?_,?_⟩
  ·have hp':0<len:=by simpa using hp'
   obtain⟨u0,hu0⟩:∃u,(f (y 0))[0]?=some u:=⟨_,qq (by rw[(hy 0 hp').2.2];exact hp)⟩;have h0:=(hy 0 hp').1 0 u0 hu0;have hsp:∃b o,a=⟨b,o,none⟩:=by
    obtain⟨b,o,spot⟩:=a;have hs:spot=none:=by
     have:=World.cell?_spot h0;unfold Addr.add at this;split at this<;>simp_all
    subst hs;exact⟨b,o,rfl⟩
   obtain⟨b,o,rfl⟩:=hsp;refine⟨b,o,rfl,GO h0,fun j v hj i u hu=>?_⟩;rw[II] at hj;by_cases hjl:j<len
   ·rw[List.getElem?_range hjl] at hj
    simp only[Option.map_some,Option.some.injEq] at hj;subst hj;have:=(hy j hjl).1 i u hu;rw[Go.WideShapes.add_plain] at this;rw[Nat.add_assoc];exact this
   ·rw[List.getElem?_eq_none (by simp;omega)] at hj
    simp at hj
  ·intro z hz
   simp only[IT,List.mem_range] at hz;obtain⟨j,hj,rfl⟩:=hz;exact (hy j hj).2.1
theorem Td.bs(h:Td w t cs)(hu:Iy.underlying t=some (.slice 5):=by kernel_rfl):∃(A:Option Addr) (c:Nat) (l:List UInt8),cs=[.slice A l.length c]∧l.length≤c∧c≤maxLen∧BS w w.heap.size A l:=by
 obtain⟨A,c,l,h1,h2,h3,_⟩:=h.rows (f:=fun b:UInt8=>[.int .u8 (b.toNat:Int)]) (P:=fun _=>True) (e:=5) (sz:=1) (fun _ h=>by obtain⟨b,hb⟩:=h.u8;exact⟨b,hb,trivial,rfl⟩) (by decide) hu;refine⟨A,c,l,h1,h2.1,h2.2,fun hn=>?_⟩;obtain⟨b,o,e,hb,hc⟩:=h3 hn;refine⟨_,e,hb,fun j v hj=>?_⟩;have:=hc j v hj 0 _ rfl;rw[Go.WideShapes.add_plain];rw[IV,Nat.add_zero] at this;exact this
theorem gY{a b k:Nat}{p q:List Value}(h:(cs.drop a).take k=p)(r:cs.drop b=q)(e:b=a+k:=by kernel_rfl):cs.drop a=p++q:=by
 subst e;rw[←h,←r,←List.drop_drop,List.take_append_drop]
theorem pA{a:Nat}(h:cs.length=a):cs.drop a=[]:=List.drop_of_length_le (by omega)
theorem Td.addr(h:Td w 27 cs):∃a:cO,cs=ai a∧aS a:=by
 have U:=Tryz.underlying27;obtain⟨b,h0⟩:=(h.fld U 0).bool;obtain⟨l,h1,hl⟩:=(h.fld U 1).u8s;have E:cs.drop 0=_:=gY h0 (gY h1 (pA (h.len U)));exact⟨(b,l),by simpa[ai] using E,hl⟩
theorem Td.vip(h:Td w 108 cs):∃v:ct,cs=aI v∧aS v.1∧(aI v).length=20:=by
 have U:=Tryz.underlying108;obtain⟨a,h0,ha⟩:=(h.fld U 0).addr;obtain⟨p,h1⟩:=(h.fld U 1).int;obtain⟨q,h2⟩:=(h.fld U 2).int;obtain⟨b,h3⟩:=(h.fld U 3).bool;have E:cs.drop 0=_:=gY h0 (gY h1 (gY h2 (gY h3 (pA (h.len U)))));exact⟨(a,p,q,b),by simpa[aI] using E,ha,bK ha⟩
theorem Td.conf(h:Td w 29 cs):∃(A:Option Addr) (c:Nat) (f:bf),cs=am A f.vips.length c f∧(f.vips.length≤c∧c≤maxLen)∧VS w w.heap.size A f.vips∧ao f:=by
 have U:=Tryz.underlying29;obtain⟨A,c,vs,h0,hc,hvs,hva⟩:=(h.fld U 0).rows (e:=108) (fun _=>Td.vip) (by decide);obtain⟨z1,h1⟩:=(h.fld U 1).int;obtain⟨z2,h2⟩:=(h.fld U 2).int;obtain⟨idle,h3,hl3⟩:=(h.fld U 3).ints (n:=6);obtain⟨z4,h4⟩:=(h.fld U 4).int;obtain⟨z5,h5⟩:=(h.fld U 5).int;obtain⟨mac,h6,hl6⟩:=(h.fld U 6).u8s (n:=6);obtain⟨four,h7,hl7⟩:=(h.fld U 7).addr;obtain⟨six,h8,hl8⟩:=(h.fld U 8).addr;obtain⟨z9,h9⟩:=(h.fld U 9).int;obtain⟨z10,h10⟩:=(h.fld U 10).int;obtain⟨z11,h11⟩:=(h.fld U 11).int;have E:cs.drop 0=_:=gY h0 (gY h1 (gY h2 (gY h3 (gY h4 (gY h5 (gY h6 (gY h7 (gY h8 (gY h9 (gY h10 (gY h11 (pA (h.len U)))))))))))));refine⟨A,c,{ vips:=vs,size:=z1,room:=z2,idle:=idle,rise:=z4,fall:=z5,mac:=mac,four:=four,six:=six,most:=z9,keep:=z10,batch:=z11 },?_,hc,hvs,⟨hva,hl3,hl6,hl7,hl8⟩⟩;simpa[am,eA,show iv=Value.int .i64 from rfl] using E
theorem Td.back(h:Td w 56 cs):∃b:aU,cs=ah b∧au b∧(ah b).length=27:=by
 have U:=Tryz.underlying56;obtain⟨nm,h0,_⟩:=(h.fld U 0).str;obtain⟨ad,h1,u1⟩:=(h.fld U 1).addr;obtain⟨po,h2⟩:=(h.fld U 2).int;obtain⟨mac,h3,u3⟩:=(h.fld U 3).u8s (n:=6);obtain⟨wt,h4,u4⟩:=(h.fld U 4).f64;obtain⟨dr,h5⟩:=(h.fld U 5).bool;have E:cs.drop 0=_:=gY h0 (gY h1 (gY h2 (gY h3 (gY h4 (gY h5 (pA (h.len U)))))));have hs:au { name:=nm,addr:=ad,port:=po,mac:=mac,wt:=wt,drain:=dr }:=⟨u1,u3,u4⟩;exact⟨_,by simpa[ah,zv] using E,hs,bu hs⟩
theorem Td.op(h:Td w 58 cs):∃(k:Int) (b:aU) (nm:List UInt8) (wt:Nat),cs=zv k::(ah b++[sv nm,.float .f64 wt])∧au b∧wt<18446744073709551616:=by
 have U:=Tryz.underlying58;obtain⟨k,h0⟩:=(h.fld U 0).int;obtain⟨b,h1,u1,_⟩:=(h.fld U 1).back;obtain⟨nm,h2,_⟩:=(h.fld U 2).str;obtain⟨wt,h3,u3⟩:=(h.fld U 3).f64;have E:cs.drop 0=_:=gY h0 (gY h1 (gY h2 (gY h3 (pA (h.len U)))));exact⟨k,b,nm,wt,by simpa[zv] using E,u1,u3⟩
theorem Td.act(h:Td w 60 cs):∃(A:Option Addr) (c:Nat) (a:ca),cs=ak A a.frame.length c a∧(a.frame.length≤c∧c≤maxLen)∧BS w w.heap.size A a.frame∧aA a:=by
 have U:=Tryz.underlying60;obtain⟨k,h0⟩:=(h.fld U 0).int;obtain⟨A,c,l,h1,u1,v1,x1⟩:=(h.fld U 1).bs;obtain⟨ok,b,on,ow,h2,u2,v2⟩:=(h.fld U 2).op;obtain⟨nm,h3,_⟩:=(h.fld U 3).str;obtain⟨we,h4⟩:=(h.fld U 4).bool;have E:cs.drop 0=_:=gY h0 (gY h1 (gY h2 (gY h3 (gY h4 (pA (h.len U))))));exact⟨A,c,{ kind:=k,frame:=l,op:=ok,back:=b,oname:=on,owt:=ow,name:=nm,well:=we },by simpa[ak,zv] using E,⟨u1,v1⟩,x1,⟨u2,v2⟩⟩
theorem Td.out(h:Td w 62 cs):∃(A:Option Addr) (c:Nat) (o:sJ),cs=cD A o.out.length c o∧(o.out.length≤c∧c≤maxLen)∧BS w w.heap.size A o.out:=by
 have U:=Tryz.underlying62;obtain⟨er,h0⟩:=(h.fld U 0).int;obtain⟨re,h1⟩:=(h.fld U 1).int;obtain⟨hi,h2⟩:=(h.fld U 2).bool;obtain⟨ve,h3⟩:=(h.fld U 3).int;obtain⟨na,h4,_⟩:=(h.fld U 4).str;obtain⟨A,c,ou,h5,u5,v5,x5⟩:=(h.fld U 5).bs;have E:cs.drop 0=_:=gY h0 (gY h1 (gY h2 (gY h3 (gY h4 (gY h5 (pA (h.len U)))))));exact⟨A,c,{ err:=er,reason:=re,hit:=hi,version:=ve,name:=na,out:=ou },by simpa[cD,zv] using E,⟨u5,v5⟩,x5⟩
theorem Td.ev(h:Td w 65 cs):∃p:ek×dI,cs=ky p∧((BS w w.heap.size p.1.f p.2.act.frame∧BS w w.heap.size p.1.o p.2.o.out)∧(p.2.act.frame.length≤p.1.cf∧p.1.cf≤maxLen)∧aP p.2)∧(ky p).length=42:=by
 have U:=Tryz.underlying65;obtain⟨A,c,a,h0,u0,v0,x0⟩:=(h.fld U 0).act;obtain⟨A',c',o,h1,u1,v1⟩:=(h.fld U 1).out;obtain⟨ln,h2⟩:=(h.fld U 2).int;obtain⟨su,h3,u3⟩:=(h.fld U 3).u32;have E:cs.drop 0=_:=gY h0 (gY h1 (gY h2 (gY h3 (pA (h.len U)))));have hs:aP { act:=a,o:=o,len:=ln,sum:=su }:=⟨x0,u3⟩;exact⟨(⟨A,c,A',c'⟩,{ act:=a,o:=o,len:=ln,sum:=su }),by simpa[ky,bh,zv] using E,⟨⟨v0,v1⟩,u0,hs⟩,km hs⟩
theorem Td.health(h:Td w 115 cs):∃v:dq,cs=aF v∧True∧(aF v).length=3:=by
 have U:=Tryz.underlying115;obtain⟨nm,h0,_⟩:=(h.fld U 0).str;obtain⟨d,h1⟩:=(h.fld U 1).bool;obtain⟨r,h2⟩:=(h.fld U 2).int;have E:cs.drop 0=_:=gY h0 (gY h1 (gY h2 (pA (h.len U))));exact⟨⟨nm,d,r⟩,by simpa[aF,zv] using E,trivial,rfl⟩
theorem Td.tup(h:Td w 118 cs):∃v:fL,cs=aM v∧cy v:=by
 have U:=Tryz.underlying118;obtain⟨a,h0,u0⟩:=(h.fld U 0).addr;obtain⟨b,h1,u1⟩:=(h.fld U 1).addr;obtain⟨p,h2⟩:=(h.fld U 2).int;obtain⟨q,h3⟩:=(h.fld U 3).int;obtain⟨r,h4⟩:=(h.fld U 4).int;have E:cs.drop 0=_:=gY h0 (gY h1 (gY h2 (gY h3 (gY h4 (pA (h.len U))))));exact⟨⟨a,b,p,q,r⟩,by simpa[aM,zv] using E,⟨u0,u1⟩⟩
theorem Td.flow(h:Td w 120 cs):∃v:dE,cs=aw v∧cy v.key∧(aw v).length=41:=by
 have U:=Tryz.underlying120;obtain⟨k,h0,u0⟩:=(h.fld U 0).tup;obtain⟨nm,h1,_⟩:=(h.fld U 1).str;obtain⟨p,h2⟩:=(h.fld U 2).int;obtain⟨q,h3⟩:=(h.fld U 3).int;obtain⟨r,h4⟩:=(h.fld U 4).int;have E:cs.drop 0=_:=gY h0 (gY h1 (gY h2 (gY h3 (gY h4 (pA (h.len U))))));exact⟨⟨k,nm,p,q,r⟩,by simpa[aw,zv] using E,u0,ib (f:=⟨k,nm,p,q,r⟩) u0⟩
theorem Td.pool(h:Td w 32 cs):∃(A:Option Addr) (c:Nat) (p:my),cs=fM A p.backs.length c p∧(p.backs.length≤c∧c≤maxLen)∧RW ah 27 w w.heap.size A p.backs∧∀b∈p.backs,au b:=by
 have U:=Tryz.underlying32;obtain⟨z,h0⟩:=(h.fld U 0).int;obtain⟨A,c,bs,h1,u1,v1,x1⟩:=(h.fld U 1).rows (e:=56) (fun _=>Td.back) (by decide);have E:cs.drop 0=_:=gY h0 (gY h1 (pA (h.len U)));exact⟨A,c,⟨z,bs⟩,by simpa[fM,zv] using E,u1,v1,x1⟩
end
structure jL(w:World)(B:Nat)(x:jY)(xs:List (ek×dI))(s:cE):Prop where
 vs:VS w B x.v s.conf.vips
 cv:s.conf.vips.length≤x.cv∧x.cv≤maxLen
 st:ma w B x.st s.st
 cb:s.st.pool.backs.length≤x.st.cb∧x.st.cb≤maxLen
 ch:s.st.healths.length≤x.st.ch∧x.st.ch≤maxLen
 cf:s.st.flows.length≤x.st.cf∧x.st.cf≤maxLen
 sh:bV s
 ev:s.evs=xs.map (·.2)
 evs:RW ky 42 w B x.e xs
 ce:s.evs.length≤x.ce∧x.ce≤maxLen
 fr:∀p∈xs,BS w B p.1.f p.2.act.frame∧BS w B p.1.o p.2.o.out
 fc:∀p∈xs,p.2.act.frame.length≤p.1.cf∧p.1.cf≤maxLen
theorem jL.below{w w':World}{B:Nat}{x:jY}{xs:List (ek×dI)}{s:cE}(h:jL w B x xs s)(hb:Below B w w'):jL w' B x xs s :=
 ⟨h.vs.below hb,h.cv,h.st.below hb,h.cb,h.ch,h.cf,h.sh,h.ev,h.evs.below hb,h.ce,fun p hp=>⟨(h.fr p hp).1.below hb,(h.fr p hp).2.below hb⟩,h.fc⟩
theorem jL.more{w:World}{B B':Nat}{x:jY}{xs:List (ek×dI)}{s:cE}(h:jL w B x xs s)(hb:B≤B'):jL w B' x xs s :=
 ⟨h.vs.more hb,h.cv,h.st.more hb,h.cb,h.ch,h.cf,h.sh,h.ev,h.evs.more hb,h.ce,fun p hp=>⟨(h.fr p hp).1.more hb,(h.fr p hp).2.more hb⟩,h.fc⟩
theorem jL.on{w w':World}{x:jY}{xs:List (ek×dI)}{s:cE}(h:jL w w.heap.size x xs s)(hb:Below w.heap.size w w'):jL w' w'.heap.size x xs s:=(h.below hb).more hb.size
theorem Td.seg{w:World}{cs:List Value}(h:Td w 40 cs):∃x xs s,cs=av x s∧jL w w.heap.size x xs s:=by
 have U:=Tryz.underlying40;have V:=Tryz.underlying37;obtain⟨Ac,cc,c,h0,u0,v0,x0⟩:=(h.fld U 0).conf;obtain⟨fi,h1⟩:=(h.fld U 1).int;obtain⟨lo,h2⟩:=(h.fld U 2).int;have hs:=h.fld U 3;obtain⟨Ab,cb,p,g0,u1,v1,x1⟩:=(hs.fld V 0).pool;obtain⟨Ah,ch,hh,g1,u2,v2,_⟩:=(hs.fld V 1).rows (e:=115) (fun _=>Td.health) (by decide);obtain⟨Af,cf,ff,g2,u3,v3,x3⟩:=(hs.fld V 2).rows (e:=120) (fun _=>Td.flow) (by decide);obtain⟨ti,g3⟩:=(hs.fld V 3).int;obtain⟨no,g4⟩:=(hs.fld V 4).int;obtain⟨co,g5,hco⟩:=(hs.fld V 5).ints (n:=11);have h3:List.drop 0 _=_:=gY g0 (gY g1 (gY g2 (gY g3 (gY g4 (gY g5 (pA (hs.len V)))))));rw[IK] at h3;obtain⟨Ae,ce,xs,h4,u4,v4,x4⟩:=(h.fld U 4).rows (e:=65) (fun _=>Td.ev) (by decide);have E:cs.drop 0=_:=gY h0 (gY h1 (gY h2 (gY h3 (gY h4 (pA (h.len U))))));refine⟨⟨Ac,cc,⟨Ab,cb,Ah,ch,Af,cf⟩,Ae,ce⟩,xs,{ conf:=c,first:=fi,lost:=lo,st:={ pool:=p,healths:=hh,flows:=ff,tick:=ti,no:=no,count:=co },evs:=xs.map (·.2) },?_,?_⟩
 ·simp only[IK] at E
  rw[E];simp[av,cU,fM,zv]
  try rfl
 ·exact⟨v0,u0,⟨v1,v2,v3⟩,u1,u2,u3,⟨x0,⟨x1,x3,hco⟩,fun e he=>by obtain⟨q,hq,rfl⟩:=IT.1 he;exact (x4 q hq).2.2⟩,rfl,v4,by simpa using u4,fun q hq=>(x4 q hq).1,fun q hq=>(x4 q hq).2.1⟩
def sn(p:my):Bool:=(p.backs.take 60).all (fun b=>decide (b.name.length≤60))&&decide (p.backs.length≤40)
def so(l:List dq):Bool:=(l.take 60).all (fun b=>decide (b.name.length≤60))&&decide (l.length≤50)
def sq(l:List dE):Bool:=(l.take 100).all (fun b=>decide (b.name.length≤60))&&decide (l.length≤80)
def tM(s:bA):Bool:=sn s.pool&&(so s.healths&&sq s.flows)
def qv(s:cE):Bool:=(s.evs.take 100).all gB&&(decide (s.evs.length≤50)&&(decide (((s.evs.take 100).map (fun e=>e.act.frame.length)).sum≤300000)&&(decide (s.conf.vips.length≤100)&&tM s.st)))
theorem jL.few{w:World}{B:Nat}{x:jY}{xs:List (ek×dI)}{s:cE}(h:jL w B x xs s)(hf:qv s=true):fk w B x xs s∧s.evs.length≤50∧∀e∈s.evs,gB e=true:=by
 simp only[qv,tM,sn,so,sq,IQ,decide_eq_true_eq,IB] at hf;obtain⟨f1,f2,f3,f4,⟨f5,f6⟩,⟨f7,f8⟩,f9,f10⟩:=hf;refine⟨⟨h.vs,⟨h.cv.1,by omega⟩,⟨h.st,h.sh.st,⟨h.cb.1,by omega⟩,⟨h.ch.1,by omega⟩,⟨h.cf.1,by omega⟩,fun b hb=>?_,fun b hb=>?_,fun b hb=>?_⟩,h.sh,h.ev,h.evs,⟨h.ce.1,by omega⟩,h.fr⟩,f2,fun e he=>f1 e ?_⟩
 ·have:=f5 b (by rwa [Iz (by omega)]);omega
 ·have:=f7 b (by rwa [Iz (by omega)]);omega
 ·have:=f9 b (by rwa [Iz (by omega)]);omega
 ·rwa [Iz (by omega)]
theorem Cq(A:Option Addr)(n c:Nat)(p:my)(w:World)(hn:n=p.backs.length)(hc:n≤c∧c≤maxLen)(hr:RW ah 27 w w.heap.size A p.backs) :
  Calls Iy 54 #[.agg (fM A n c p).toArray] w fun e w'=>e=.returned (.bool (sn p))∧Below w.heap.size w w':=by
 obtain⟨W,hW⟩:∃W,W=w.alloc (.cells (fM A n c p).toArray 32):=⟨_,rfl⟩;have HX:Hid (aj W w.heap.size 32 (fM A n c p).toArray):=by rw[hW];exact aj.new w _ _ _ rfl
 have HB:Hid (Below w.heap.size w W):=by rw[hW];exact (Below.refl _ _).alloc (IL _) _
 have d1:W.cell? ⟨w.heap.size,1,none⟩=some (.slice A n c):=HX.out.cell 1;have HW:=hid hW;clear hW;have HR:=hid ((hr.below HB.out).more HB.out.size);obtain⟨r,hq⟩:∃r,r=sn p:=⟨_,rfl⟩;rw[←hq];have Hq:=hid hq;have Hn:=hid hn;have hn1:=hc.1;have hn2:=hc.2;unfold maxLen at hn2;clear hq hn hr hc;go_enter Tryz.func54,Tryz.ntmps54
 go_upto_region 1 with fail
 rw[←HW.out];clear HW
 go_wp2
 go_loopw [3] (fun i wr=>∃k:Nat,k≤n∧k≤60∧i=.int .i64 (k:Int)∧Hid (Below W.heap.size W wr)∧Hid (∀(i:Nat) v,i<k→p.backs[i]?=some v→v.name.length≤60)) (fun i _=>n-(intOf i).toNat)
 case atStart=>exact⟨0,by omega,by omega,rfl,Below.refl _ _,fun i v h=>absurd h (by omega)⟩
 case round =>
  obtain⟨k,hk,hk6,rfl,hbel,hat⟩:=hrel;rename World=>wr
  have e1:=(bg hbel.out _ 1 HX.out.lt).trans d1;have hB:=hid (HB.out.trans (hbel.out.mono HB.out.size));have hk0:(0:Int)≤(k:Int):=by omega
  have Hend:Hid (¬(k<n∧k<60)→r=decide (n≤40)):=fun h=>by
   rw[Hq.out];unfold sn;rw[←Hn.out];by_cases h1:n≤40
   ·rw[decide_eq_true h1,IN,IB]
    intro v hv;obtain⟨i,hi,e⟩:=IC hv;rw[IE] at e;rw[IG] at hi;exact decide_eq_true (hat.out i v (by have:=Hn.out;omega) (by rw[←e];exact qq _))
   ·rw[decide_eq_false h1,IM]
  by_cases hlt:k<n
  ·have hltI:(k:Int)<(n:Int):=by omega
   by_cases h6:k<60
   ·have h6I:(k:Int)<60:=by omega
    obtain⟨b,o,hA,hbB,hcl⟩:=(HR.out.below hbel.out) (by rw[←Hn.out];omega);obtain⟨v,hv⟩:∃v,p.backs[k]?=some v:=⟨_,qq (by rw[←Hn.out];exact hlt)⟩;have c0:wr.cell? ⟨b,o+k*27,none⟩=some (.string ⟨v.name.toArray⟩):=hcl k v hv 0 _ rfl;rw[hA] at e1;have Hy:Hid (v.name.length≤60→∀(i:Nat) u,i<k+1→p.backs[i]?=some u→u.name.length≤60):=fun h i u hi hu=>by
     rcases IH i k with h1|h1
     ·exact hat.out i u h1 hu
     ·obtain rfl:i=k:=by omega
      rw[hv] at hu;injection hu with hu;rw[←hu];exact h
    have Hz:Hid (60<v.name.length→r=false):=fun h=>by
     rw[Hq.out];unfold sn;rw[IF.2 ⟨v,IA (i:=k) (by rw[ID,if_pos h6];exact hv),by simpa using h⟩];rfl
    clear hA hcl hv hat Hend d1;by_cases h60:v.name.length≤60
    ·have h60I:¬(60:Int)<(v.name.length:Int):=by omega
     have hf:=hid (Hy.out h60)
     go_wp2
     go_roundw
     case rel=>exact⟨k+1,by omega,by omega,by go_num,hbel,hf⟩
     case measure=>simp[intOf];omega
    ·have h60I:(60:Int)<(v.name.length:Int):=by omega
     have hf:=hid (Hz.out (by omega))
     go_wp2
     go_ret
     exact⟨by rw[hf.out];rfl,hB.out⟩
   ·have h6I:¬(k:Int)<60:=by omega
    have hf:=hid (Hend.out (by omega));clear Hend hat
    go_wp2
    go_ret
    exact⟨by rw[hf.out,show decide ((n:Int)≤40)=decide (n≤40) from decide_eq_decide.2 (by omega)];rfl,hB.out⟩
  ·have hltI:¬(k:Int)<(n:Int):=by omega
   have hf:=hid (Hend.out (by omega));clear Hend hat
   go_wp2
   go_ret
   exact⟨by rw[hf.out,show decide ((n:Int)≤40)=decide (n≤40) from decide_eq_decide.2 (by omega)];rfl,hB.out⟩
theorem Cr(A:Option Addr)(n c:Nat)(l:List dq)(w:World)(hn:n=l.length)(hc:n≤c∧c≤maxLen)(hr:RW aF 3 w w.heap.size A l) :
  Calls Iy 55 #[.slice A n c] w fun e w'=>e=.returned (.bool (so l))∧Below w.heap.size w w':=by
 obtain⟨W,hW⟩:∃W,W=w:=⟨_,rfl⟩;rw[←hW];rw[←hW] at hr;clear hW;have HB:=hid (Below.refl W.heap.size W);have HR:=hid ((hr.below HB.out).more HB.out.size);obtain⟨r,hq⟩:∃r,r=so l:=⟨_,rfl⟩;rw[←hq];have Hq:=hid hq;have Hn:=hid hn;have hn1:=hc.1;have hn2:=hc.2;unfold maxLen at hn2;clear hq hn hr hc;go_enter Tryz.func55,Tryz.ntmps55
 go_wp2
 go_loopw [3] (fun i wr=>∃k:Nat,k≤n∧k≤60∧i=.int .i64 (k:Int)∧Hid (Below W.heap.size W wr)∧Hid (∀(i:Nat) v,i<k→l[i]?=some v→v.name.length≤60)) (fun i _=>n-(intOf i).toNat)
 case atStart=>exact⟨0,by omega,by omega,rfl,Below.refl _ _,fun i v h=>absurd h (by omega)⟩
 case round =>
  obtain⟨k,hk,hk6,rfl,hbel,hat⟩:=hrel;rename World=>wr
  have hB:=hid (HB.out.trans (hbel.out.mono HB.out.size));have hk0:(0:Int)≤(k:Int):=by omega
  have Hend:Hid (¬(k<n∧k<60)→r=decide (n≤50)):=fun h=>by
   rw[Hq.out];unfold so;rw[←Hn.out];by_cases h1:n≤50
   ·rw[decide_eq_true h1,IN,IB]
    intro v hv;obtain⟨i,hi,e⟩:=IC hv;rw[IE] at e;rw[IG] at hi;exact decide_eq_true (hat.out i v (by have:=Hn.out;omega) (by rw[←e];exact qq _))
   ·rw[decide_eq_false h1,IM]
  by_cases hlt:k<n
  ·have hltI:(k:Int)<(n:Int):=by omega
   by_cases h6:k<60
   ·have h6I:(k:Int)<60:=by omega
    obtain⟨b,o,hA,hbB,hcl⟩:=(HR.out.below hbel.out) (by rw[←Hn.out];omega);obtain⟨v,hv⟩:∃v,l[k]?=some v:=⟨_,qq (by rw[←Hn.out];exact hlt)⟩;have c0:wr.cell? ⟨b,o+k*3,none⟩=some (.string ⟨v.name.toArray⟩):=hcl k v hv 0 _ rfl;rw[hA];have Hy:Hid (v.name.length≤60→∀(i:Nat) u,i<k+1→l[i]?=some u→u.name.length≤60):=fun h i u hi hu=>by
     rcases IH i k with h1|h1
     ·exact hat.out i u h1 hu
     ·obtain rfl:i=k:=by omega
      rw[hv] at hu;injection hu with hu;rw[←hu];exact h
    have Hz:Hid (60<v.name.length→r=false):=fun h=>by
     rw[Hq.out];unfold so;rw[IF.2 ⟨v,IA (i:=k) (by rw[ID,if_pos h6];exact hv),by simpa using h⟩];rfl
    clear hA hcl hv hat Hend;by_cases h60:v.name.length≤60
    ·have h60I:¬(60:Int)<(v.name.length:Int):=by omega
     have hf:=hid (Hy.out h60)
     go_wp2
     go_roundw
     case rel=>exact⟨k+1,by omega,by omega,by go_num,hbel,hf⟩
     case measure=>simp[intOf];omega
    ·have h60I:(60:Int)<(v.name.length:Int):=by omega
     have hf:=hid (Hz.out (by omega))
     go_wp2
     go_ret
     exact⟨by rw[hf.out];rfl,hB.out⟩
   ·have h6I:¬(k:Int)<60:=by omega
    have hf:=hid (Hend.out (by omega));clear Hend hat
    go_wp2
    go_ret
    exact⟨by rw[hf.out,show decide ((n:Int)≤50)=decide (n≤50) from decide_eq_decide.2 (by omega)];rfl,hB.out⟩
  ·have hltI:¬(k:Int)<(n:Int):=by omega
   have hf:=hid (Hend.out (by omega));clear Hend hat
   go_wp2
   go_ret
   exact⟨by rw[hf.out,show decide ((n:Int)≤50)=decide (n≤50) from decide_eq_decide.2 (by omega)];rfl,hB.out⟩
theorem Cs(A:Option Addr)(n c:Nat)(l:List dE)(w:World)(hn:n=l.length)(hc:n≤c∧c≤maxLen)(hr:RW aw 41 w w.heap.size A l)(hs:∀v∈l,cy v.key) :
  Calls Iy 56 #[.slice A n c] w fun e w'=>e=.returned (.bool (sq l))∧Below w.heap.size w w':=by
 obtain⟨W,hW⟩:∃W,W=w:=⟨_,rfl⟩;rw[←hW];rw[←hW] at hr;clear hW;have HB:=hid (Below.refl W.heap.size W);have HR:=hid ((hr.below HB.out).more HB.out.size);obtain⟨r,hq⟩:∃r,r=sq l:=⟨_,rfl⟩;rw[←hq];have Hq:=hid hq;have Hn:=hid hn;have hn1:=hc.1;have hn2:=hc.2;unfold maxLen at hn2;clear hq hn hr hc;have Hs:=hid hs;clear hs;go_enter Tryz.func56,Tryz.ntmps56
 go_wp2
 go_loopw [3] (fun i wr=>∃k:Nat,k≤n∧k≤100∧i=.int .i64 (k:Int)∧Hid (Below W.heap.size W wr)∧Hid (∀(i:Nat) v,i<k→l[i]?=some v→v.name.length≤60)) (fun i _=>n-(intOf i).toNat)
 case atStart=>exact⟨0,by omega,by omega,rfl,Below.refl _ _,fun i v h=>absurd h (by omega)⟩
 case round =>
  obtain⟨k,hk,hk6,rfl,hbel,hat⟩:=hrel;rename World=>wr
  have hB:=hid (HB.out.trans (hbel.out.mono HB.out.size));have hk0:(0:Int)≤(k:Int):=by omega
  have Hend:Hid (¬(k<n∧k<100)→r=decide (n≤80)):=fun h=>by
   rw[Hq.out];unfold sq;rw[←Hn.out];by_cases h1:n≤80
   ·rw[decide_eq_true h1,IN,IB]
    intro v hv;obtain⟨i,hi,e⟩:=IC hv;rw[IE] at e;rw[IG] at hi;exact decide_eq_true (hat.out i v (by have:=Hn.out;omega) (by rw[←e];exact qq _))
   ·rw[decide_eq_false h1,IM]
  by_cases hlt:k<n
  ·have hltI:(k:Int)<(n:Int):=by omega
   by_cases h6:k<100
   ·have h6I:(k:Int)<100:=by omega
    obtain⟨b,o,hA,hbB,hcl⟩:=(HR.out.below hbel.out) (by rw[←Hn.out];omega);obtain⟨v,hv⟩:∃v,l[k]?=some v:=⟨_,qq (by rw[←Hn.out];exact hlt)⟩;have c0:wr.cell? ⟨b,o+k*41+37,none⟩=some (.string ⟨v.name.toArray⟩):=hcl k v hv 37 _ (by have ho:=Hs.out v (IA hv);rw[aw,List.getElem?_append_right (by rw[fX ho];omega),fX ho];rfl);rw[hA];have Hy:Hid (v.name.length≤60→∀(i:Nat) u,i<k+1→l[i]?=some u→u.name.length≤60):=fun h i u hi hu=>by
     rcases IH i k with h1|h1
     ·exact hat.out i u h1 hu
     ·obtain rfl:i=k:=by omega
      rw[hv] at hu;injection hu with hu;rw[←hu];exact h
    have Hz:Hid (60<v.name.length→r=false):=fun h=>by
     rw[Hq.out];unfold sq;rw[IF.2 ⟨v,IA (i:=k) (by rw[ID,if_pos h6];exact hv),by simpa using h⟩];rfl
    clear hA hcl hv hat Hend;by_cases h60:v.name.length≤60
    ·have h60I:¬(60:Int)<(v.name.length:Int):=by omega
     have hf:=hid (Hy.out h60)
     go_wp2
     go_roundw
     case rel=>exact⟨k+1,by omega,by omega,by go_num,hbel,hf⟩
     case measure=>simp[intOf];omega
    ·have h60I:(60:Int)<(v.name.length:Int):=by omega
     have hf:=hid (Hz.out (by omega))
     go_wp2
     go_ret
     exact⟨by rw[hf.out];rfl,hB.out⟩
   ·have h6I:¬(k:Int)<100:=by omega
    have hf:=hid (Hend.out (by omega));clear Hend hat
    go_wp2
    go_ret
    exact⟨by rw[hf.out,show decide ((n:Int)≤80)=decide (n≤80) from decide_eq_decide.2 (by omega)];rfl,hB.out⟩
  ·have hltI:¬(k:Int)<(n:Int):=by omega
   have hf:=hid (Hend.out (by omega));clear Hend hat
   go_wp2
   go_ret
   exact⟨by rw[hf.out,show decide ((n:Int)≤80)=decide (n≤80) from decide_eq_decide.2 (by omega)];rfl,hB.out⟩
theorem tO(x:nJ)(s:bA)(w:World)(hs:iU s)(h:ma w w.heap.size x s)(cb:s.pool.backs.length≤x.cb∧x.cb≤maxLen)(ch:s.healths.length≤x.ch∧x.ch≤maxLen)(cf:s.flows.length≤x.cf∧x.cf≤maxLen) :
  Calls Iy 28 #[.agg (cU x s).toArray] w fun e w'=>e=.returned (.bool (tM s))∧Below w.heap.size w w':=by
 obtain⟨W,hW⟩:∃W,W=w.alloc (.cells (cU x s).toArray 37):=⟨_,rfl⟩;have HX:Hid (aj W w.heap.size 37 (cU x s).toArray):=by rw[hW];exact aj.new w _ _ _ rfl
 have HB:Hid (Below w.heap.size w W):=by rw[hW];exact (Below.refl _ _).alloc (IL _) _
 have HS:=hid ((h.below HB.out).more HB.out.size);have l0:w.heap.size<W.heap.size:=HX.out.lt;have d1:W.cell? ⟨w.heap.size,2,none⟩=some (.slice x.h s.healths.length x.ch):=HX.out.cell 2;have d2:W.cell? ⟨w.heap.size,3,none⟩=some (.slice x.f s.flows.length x.cf):=HX.out.cell 3;have RP:Hid (W.rangeAt w.heap.size 0 (fM x.b s.pool.backs.length x.cb s.pool)):=fun j v hj=>by
  rw[HX.out.cell,List.getElem?_toArray];rcases j with _|_|j
  ·exact hj
  ·exact hj
  ·simp[fM] at hj
 have Hcb:=hid cb;have Hso:=hid hs;have Hch:=hid ch;have Hcf:=hid cf;have HW:=hid hW;obtain⟨T,hT⟩:∃T,T=(sn s.pool&&so s.healths&&sq s.flows):=⟨_,rfl⟩;have HT:Hid (tM s=T):=by show _=_;rw[hT];unfold tM;simp only[IR]
 clear hW h cb ch cf hs;go_enter Tryz.func28,Tryz.ntmps28
 go_upto_region 1 with fail
 rw[←HW.out];refine IS ?_
 repeat ((first
  |refine pa ?_
  |refine sl RP.out l0 Tryz.underlying32 (by rw[show (fM x.b s.pool.backs.length x.cb s.pool).length=2 from rfl];kernel_rfl) ?_
  |refine cl (fun u hu=>Cq x.b _ x.cb s.pool u rfl Hcb.out ((HS.out.backs.below hu).more hu.size)) ?_
  |refine gc (fun u hu=>Cr x.h _ x.ch s.healths u rfl Hch.out ((HS.out.healths.below hu).more hu.size)) ?_
  |refine gc (fun u hu=>Cs x.f _ x.cf s.flows u rfl Hcf.out ((HS.out.flows.below hu).more hu.size) Hso.out.flows) ?_
  |refine gp ?_|refine pt ?_);simp only[ld,lg,lf,IJ])
 rw[←hT];refine IU fun w2 hb2=>?_
 have Hb2:=hid (HB.out.trans (hb2.mono HB.out.size));clear hb2 hT
 go_wp2
 go_ret
 exact⟨by rw[HT.out];rfl,Hb2.out⟩
theorem El{xs:List (ek×dI)}{k:Nat}{p:ek×dI}(hp:xs[k]?=some p):((xs.take (k+1)).map (fun q=>q.2.act.frame.length)).sum=((xs.take k).map (fun q=>q.2.act.frame.length)).sum+p.2.act.frame.length:=by
 rw[List.take_add_one,hp];simp
theorem qe{x:jY}{xs:List (ek×dI)}{s:cE}{w:World}(h:jL w w.heap.size x xs s) :
  Calls Iy 10 #[.agg (av x s).toArray] w fun e w'=>e=.returned (.bool (qv s))∧Below w.heap.size w w':=by
 obtain⟨W,hW⟩:∃W,W=w.alloc (.cells (av x s).toArray 40):=⟨_,rfl⟩;have HX:Hid (aj W w.heap.size 40 (av x s).toArray):=by rw[hW];exact aj.new w _ _ _ rfl
 have HB:Hid (Below w.heap.size w W):=by rw[hW];exact (Below.refl _ _).alloc (IL _) _
 have HS:=hid (h.on HB.out);have l0:w.heap.size<W.heap.size:=HX.out.lt;have Hsh:=hid h.sh;obtain⟨n,hn⟩:∃n,n=s.evs.length:=⟨_,rfl⟩;have hnx:Hid (n=xs.length):=by show _=_;rw[hn,h.ev,List.length_map]
 have b0:W.cell? ⟨w.heap.size,73,none⟩=some (.slice x.e n x.ce):=by rw[hn];exact mq h.sh HX.out
 have hn1:n≤x.ce:=by rw[hn];exact h.ce.1
 have hn2:x.ce≤maxLen:=h.ce.2;unfold maxLen at hn2;have HW:=hid hW;obtain⟨r,hr⟩:∃r,r=qv s:=⟨_,rfl⟩;rw[←hr];have Hr:=hid hr;have Hev:=hid h.ev;have Hn:=hid hn;clear hW h hn hr;go_enter Tryz.func10,Tryz.ntmps10
 go_upto_region 1 with fail
 rw[←HW.out];clear HW
 go_wp2
 go_loopw [3,4] (fun a i wr=>∃k m:Nat,k≤n∧k≤100∧i=.int .i64 (k:Int)∧a=.int .i64 (m:Int)∧m≤k*140000∧Hid (m=((xs.take k).map (fun q=>q.2.act.frame.length)).sum)∧Hid (Below W.heap.size W wr)∧Hid (∀(i:Nat) q,i<k→xs[i]?=some q→gB q.2=true)) (fun _ i _=>n-(intOf i).toNat)
 case atStart=>exact⟨0,0,by omega,by omega,rfl,rfl,by omega,by simp[Hid],Below.refl _ _,fun i v h=>absurd h (by omega)⟩
 case round =>
  obtain⟨k,m,hk,hk1,rfl,rfl,hm,hsum,hbel,hat⟩:=hrel;rename World=>wr
  have e1:=(bg hbel.out _ 73 l0).trans b0;have l1:w.heap.size<wr.heap.size:=IP l0 hbel.out.size;have hB:=hid (HB.out.trans (hbel.out.mono HB.out.size));have hk0:(0:Int)≤(k:Int):=by omega
  by_cases hgo:k<n∧k<100
  ·obtain⟨hlt,h1⟩:=hgo
   have hltI:(k:Int)<(n:Int):=by omega
   have h1I:(k:Int)<100:=by omega
   obtain⟨b,o,hA,hbB,hc⟩:=(HS.out.evs.below hbel.out) (by rw[←hnx.out];omega);obtain⟨p,hp⟩:∃p,xs[k]?=some p:=⟨_,qq (by rw[←hnx.out];exact hlt)⟩;have hpm:p∈xs:=IA hp;have Hrg:=hid (hc k p hp);have Hps:Hid (aP p.2):=Hsh.out.evs _ (by rw[Hev.out];exact List.mem_map_of_mem hpm);have Hz:=hid (kz (p:=p) Hps.out);have hfc:=HS.out.fc p hpm;unfold maxLen at hfc;obtain⟨fl,hfl⟩:∃fl,fl=p.2.act.frame.length:=⟨_,rfl⟩;have c1:wr.cell? ⟨b,o+k*42+1,none⟩=some (.slice p.1.f fl p.1.cf):=by rw[hfl];exact Hrg.out 1 _ rfl
   have lb:b<wr.heap.size:=IP hbB hbel.out.size;have Hno:Hid (gB p.2=false→r=false):=fun hf=>by
    rw[Hr.out];unfold qv;rw[IF.2 ⟨p.2,IA (i:=k) (by rw[ID,if_pos h1,Hev.out,II,hp];rfl),by simp[hf]⟩];rfl
   have Hyes:Hid (gB p.2=true→(∀(i:Nat) q,i<k+1→xs[i]?=some q→gB q.2=true)∧fl≤140000∧m+fl=((xs.take (k+1)).map (fun q=>q.2.act.frame.length)).sum):=fun hf=>by
    refine⟨fun i q hi hq=>?_,?_,?_⟩
    ·rcases IH i k with h1|h1
     ·exact hat.out i q h1 hq
     ·obtain rfl:i=k:=by omega
      rw[hp] at hq;injection hq with hq;rw[←hq];exact hf
    ·simp only[gB,IQ,decide_eq_true_eq] at hf
     omega
    ·rw[El hp,←hsum.out,hfl]
   rw[hA] at e1;clear hc hp hpm hat hA hfl b0;go_upto_region 5 with fail
   first|refine IS ?_|refine Sd.start ?_
   try simp only[IW]
   repeat ((first|refine sl Hrg.out lb eh Hz.out ?_|refine cl (fun u hu=>xq p.1.f _ p.1.cf p.1.o _ p.1.co p.2 Hps.out rfl rfl u) ?_|refine pt ?_);simp only[ld,lg,lf,IJ])
   refine IU fun w3 hb3=>?_
   have Hb3:=hid (hbel.out.trans (hb3.mono hbel.out.size));have e1:=(bg hb3 _ 73 l1).trans e1;have c1:=(bg hb3 _ _ lb).trans c1;clear hb3 hbel;rcases hv:gB p.2 with _|_
   ·have hf:=hid (Hno.out hv)
    simp only[hv,Bool.not_false];clear hv
    go_wp2
    go_ret
    exact⟨by rw[hf.out];rfl,HB.out.trans (Hb3.out.mono HB.out.size)⟩
   ·obtain⟨hf,hfl,hs⟩:=Hyes.out hv
    have Hf:=hid hf;have Hs:=hid hs;simp only[hv,Bool.not_true];clear hv hf hs
    go_wp2
    go_roundw
    case rel=>exact⟨k+1,m+fl,by omega,by omega,by go_num,by go_num,by omega,Hs,Hb3,Hf⟩
    case measure=>simp[intOf];omega
  ·obtain⟨T,hT⟩:∃T,T=(decide ((n:Int)≤50)&&decide ((m:Int)≤300000)&&decide (s.conf.vips.length≤100)&&tM s.st):=⟨_,rfl⟩
   have HT:Hid (r=T):=by
    have h1:(s.evs.take 100).all gB=true:=by
     rw[IB];intro e he;obtain⟨i,hi,e'⟩:=IC he;rw[IE] at e';rw[IG] at hi;have hx:=hnx.out;have hy:=Hn.out;have hq:xs[i]?=some xs[i]:=qq (by omega);have:=hat.out i _ (by omega) hq;have h3:s.evs[i]?=some (xs[i]).2:=by rw[Hev.out,II,hq];rfl
     rw[qq (by omega),e'] at h3;injection h3 with h3
     rw[h3];exact this
    show _=_
    rw[hT,Hr.out];unfold qv;rw[h1,Bool.true_and,←Hn.out,show decide ((n:Int)≤50)=decide (n≤50) from decide_eq_decide.2 (by omega)];by_cases h50:n≤50
    ·have hkn:k=n:=by omega
     have h2:((s.evs.take 100).map (fun e=>e.act.frame.length)).sum=m:=by
      rw[hsum.out,Iz (by have:=Hn.out;omega),Iz (by have:=hnx.out;omega),Hev.out,List.map_map];rfl
     rw[h2,show decide ((m:Int)≤300000)=decide (m≤300000) from decide_eq_decide.2 (by omega)];simp only[IR]
    ·simp[h50]
   have HS2:=hid (HS.out.on hbel.out);have HX2:=hid (HX.out.below hbel.out l0);have hgoI:¬((k:Int)<(n:Int)∧(k:Int)<100):=by omega
   clear hat hsum b0;by_cases hlt:k<n
   ·have hltI:(k:Int)<(n:Int):=by omega
    have h1I:¬(k:Int)<100:=by omega
    clear hgo hgoI;go_upto_region 8 with fail
    refine IS ?_
    try simp only[IW]
    repeat ((first
     |refine pa ?_
     |refine gs (jK Hsh.out HX2.out) l1 dV (by rw[dD Hsh.out.conf];exact cB) ?_
     |refine gs (k8 Hsh.out HX2.out) l1 eB (kS Hsh.out.st) ?_
     |refine gc (fun u hu=>sd x.v s.conf.vips.length x.cv s.conf u) ?_
     |refine gc (fun u hu=>tO x.st s.st u Hsh.out.st ((HS2.out.on hu).st) HS2.out.cb HS2.out.ch HS2.out.cf) ?_
     |refine gp ?_|refine pt ?_);simp only[ld,lg,lf,IJ])
    rw[←hT];refine IU fun w2 hb2=>?_
    have Hb2:=hid (HB.out.trans ((hbel.out.trans (hb2.mono hbel.out.size)).mono HB.out.size));clear hb2 hT
    go_wp2
    go_ret
    exact⟨by rw[HT.out];rfl,Hb2.out⟩
   ·have hltI:¬(k:Int)<(n:Int):=by omega
    clear hgo hgoI;go_upto_region 8 with fail
    refine IS ?_
    try simp only[IW]
    repeat ((first
     |refine pa ?_
     |refine gs (jK Hsh.out HX2.out) l1 dV (by rw[dD Hsh.out.conf];exact cB) ?_
     |refine gs (k8 Hsh.out HX2.out) l1 eB (kS Hsh.out.st) ?_
     |refine gc (fun u hu=>sd x.v s.conf.vips.length x.cv s.conf u) ?_
     |refine gc (fun u hu=>tO x.st s.st u Hsh.out.st ((HS2.out.on hu).st) HS2.out.cb HS2.out.ch HS2.out.cf) ?_
     |refine gp ?_|refine pt ?_);simp only[ld,lg,lf,IJ])
    rw[←hT];refine IU fun w2 hb2=>?_
    have Hb2:=hid (HB.out.trans ((hbel.out.trans (hb2.mono hbel.out.size)).mono HB.out.size));clear hb2 hT
    go_wp2
    go_ret
    exact⟨by rw[HT.out];rfl,Hb2.out⟩
