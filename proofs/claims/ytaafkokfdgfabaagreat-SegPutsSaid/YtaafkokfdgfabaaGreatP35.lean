import Derived.Test.YtaafkokfdgfabaaGreatP13
import Derived.Test.YtaafkokfdgfabaaGreatP23
import Derived.Test.YtaafkokfdgfabaaGreatP27
import Derived.Test.YtaafkokfdgfabaaGreatP31
import Derived.Test.YtaafkokfdgfabaaGreatP33
import Derived.Test.YtaafkokfdgfabaaGreatP34
set_option maxHeartbeats 8000000
set_option maxRecDepth 100000
set_option linter.unusedVariables false
set_option linter.unusedSimpArgs false
open Bool renaming true_and→II,and_false→IL,or_eq_false_iff→IM,not_false→IN,not_true→IP,and_eq_true→IS,false_eq→I0,false_or→I2
open List renaming size_toArray→Iz,mem_of_getElem?→IA,length_append→IB,getElem?_eq_getElem→ID,append_nil→IF,append_assoc→IG,length_drop→IH,getElem?_eq_some_iff→IJ,getElem?_map→IR,length_map→IU,drop_left'→IV,length_nil→IW,drop_left→IY,drop_drop→IZ,map_cons→I3,map_nil→I5
open Nat renaming lt_of_lt_of_le→Iy,reduceAdd→IC,le_refl→IE,add_zero→IK,lt_or_ge→I4
open Option renaming some→I6
open Prod renaming mk→I8
namespace Go.Proofs.YtaafkokfdgfabaaGreat
open Go.RowKit
open Lib (hid)
open BS renaming of_own→IT,nil→I7
open RW renaming nil→I9
open Sd renaming done→IQ,plain→IX
open Tryz renaming prog→qq
open World renaming grownBy→I1
def oC(p q:my):Bool:=p.version==q.version&&tK bz p.backs q.backs
def mu(a b:bA):Bool:=oC a.pool b.pool&&(tK gR a.healths b.healths&&(tK jT a.flows b.flows&&(a.tick==b.tick&&(a.no==b.no&&a.count==b.count))))
theorem uT(A:Option Addr)(n c:Nat)(p:my)(A':Option Addr)(n' c':Nat)(q:my)(w:World)(hn:n=p.backs.length)(hn':n'=q.backs.length)(hnc:n≤c)(hnc':n'≤c')(ha:RW ah 27 w w.heap.size A p.backs)(hb:RW ah 27 w w.heap.size A' q.backs)(hl:n≤1000000)(hl':n'≤1000000)(hs:∀b∈p.backs,au b)(hs2:∀b∈q.backs,au b) :
  Calls qq 107 #[.agg (fM A n c p).toArray,.agg (fM A' n' c' q).toArray] w fun e w'=>e=.returned (.bool (oC p q))∧Below w.heap.size w w':=by
 obtain⟨W1,W,HW1,HW,Hs1,HX,HY,HB⟩:=mf w 32 32 (fM A n c p).toArray (fM A' n' c' q).toArray;have HA:=hid ((ha.below HB.out).more HB.out.size);have HA':=hid ((hb.below HB.out).more HB.out.size);have Hn:=hid hn;have Hn':=hid hn';have Hs:=hid hs;have Hs2:=hid hs2;have b0:W.cell? ⟨w.heap.size,0,none⟩=some (.int .i64 p.version):=HX.out.cell 0;have b1:W.cell? ⟨w.heap.size,1,none⟩=some (.slice A n c):=HX.out.cell 1;have d0:W.cell? ⟨w.heap.size+1,0,none⟩=some (.int .i64 q.version):=HY.out.cell 0;have d1:W.cell? ⟨w.heap.size+1,1,none⟩=some (.slice A' n' c'):=HY.out.cell 1;have l0:w.heap.size<W.heap.size:=HX.out.lt;have l1:w.heap.size+1<W.heap.size:=HY.out.lt;obtain⟨r,hr⟩:∃r,r=oC p q:=⟨_,rfl⟩;rw[←hr];have Hr:=hid hr;clear ha hb hn hn' hs hs2 hr;go_enter Tryz.func107,Tryz.ntmps107
 go_upto_region 1 with fail
 rw[←HW1.out,←HW.out];obtain⟨T,hT⟩:∃T,T=((p.version != q.version)||((n:Int) != (n':Int))):=⟨_,rfl⟩;refine IX ?_
 repeat ((first|refine po ?_|refine gp ?_|refine pt ?_);simp only[ld,lg,lf,IC])
 rw[←hT];refine IQ fun w2 hb2=>?_
 have Hb2:=hid hb2;have HT:=hid hT;clear hb2 hT HW HW1;rcases T with _|_
 rotate_left
 ·have hf:Hid (r=false):=by
   show _=_
   rw[Hr.out];have:=HT.out;unfold oC;rcases hv:(p.version==q.version) with _|_
   ·rfl
   ·rw[pz,IL]
    rw[←Hn.out,←Hn'.out];intro e;rw[e] at this;simp[bne,hv] at this
  go_wp2
  go_ret
  exact⟨by rw[hf.out];rfl,HB.out.trans (Hb2.out.mono HB.out.size)⟩
 have hq:(p.version==q.version)=true∧n=n':=by
  have:=HT.out;simp only[I0,IM,bne_eq_false_iff_eq] at this;exact⟨by simp[this.1],by omega⟩
 obtain⟨hver,rfl⟩:=hq;have Hver:=hid hver;clear hver HT
 go_wp2
 go_loopw [5] (fun i wr=>∃k:Nat,k≤n∧i=.int .i64 (k:Int)∧Hid (Below W.heap.size W wr)∧Hid (∀(i:Nat) a b,i<k→p.backs[i]?=some a→q.backs[i]?=some b→bz a b=true)) (fun i _=>n-(intOf i).toNat)
 case atStart=>exact⟨0,by omega,rfl,Hb2,fun i a b h=>absurd h (by omega)⟩
 case round =>
  obtain⟨k,hk,rfl,hbel,hat⟩:=hrel;rename World=>wr
  have r1:=(bg hbel.out _ 1 l0).trans b1;have s1:=(bg hbel.out _ 1 l1).trans d1;by_cases hlt:k<n
  ·have hltI:(k:Int)<(n:Int):=by omega
   have hk0:(0:Int)≤(k:Int):=by omega
   obtain⟨c1,o1,rfl,hb1,hc1⟩:=(HA.out.below hbel.out) (by rw[←Hn.out];omega);obtain⟨c2,o2,rfl,hb2,hc2⟩:=(HA'.out.below hbel.out) (by rw[←Hn'.out];omega);obtain⟨x,hx⟩:∃x,p.backs[k]?=some x:=⟨_,ID (by rw[←Hn.out];exact hlt)⟩;obtain⟨y,hy⟩:∃y,q.backs[k]?=some y:=⟨_,ID (by rw[←Hn'.out];exact hlt)⟩;have Hx:=hid (hc1 k x hx);have Hy:=hid (hc2 k y hy);have m1:c1<wr.heap.size:=Iy hb1 hbel.out.size;have m2:c2<wr.heap.size:=Iy hb2 hbel.out.size;have m3:w.heap.size<wr.heap.size:=Iy l0 hbel.out.size;have m4:w.heap.size+1<wr.heap.size:=Iy l1 hbel.out.size;have Hxo:=hid (Hs.out x (IA hx));have Hyo:=hid (Hs2.out y (IA hy));have Hno:Hid (bz x y=false→r=false):=fun h=>by rw[Hr.out];unfold oC;rw[sm k hx hy h,IL]
   have Hyes:Hid (bz x y=true→∀(i:Nat) a b,i<k+1→p.backs[i]?=some a→q.backs[i]?=some b→bz a b=true):=fun h i a b hi ha hb=>by
    rcases I4 i k with h1|h1
    ·exact hat.out i a b h1 ha hb
    ·obtain rfl:i=k:=by omega
     rw[hx] at ha;rw[hy] at hb;injection ha with ha
     injection hb with hb
     rw[←ha,←hb];exact h
   clear hc1 hc2 hx hy hat b1 d1;go_upto_region 6 with fail
   refine Sd.start ?_
   repeat ((first|refine sl Hx.out m1 bL (by rw[bu Hxo.out];exact pS) ?_|refine sl Hy.out m2 bL (by rw[bu Hyo.out];exact pS) ?_|refine cl (fun u hu=>ql x y Hxo.out Hyo.out u) ?_|refine pt ?_);simp only[ld,lg,lf,IC])
   refine IQ fun w3 hb3=>?_
   have Hb3:=hid (hbel.out.trans (hb3.mono hbel.out.size));clear hb3 hbel r1 s1;rcases hv:bz x y with _|_
   ·have hf:=hid (Hno.out hv)
    simp only[hv,IN];clear hv
    go_wp2
    go_ret
    exact⟨by rw[hf.out];rfl,HB.out.trans (Hb3.out.mono HB.out.size)⟩
   ·have hf:=hid (Hyes.out hv)
    simp only[hv,IP];clear hv
    go_wp2
    go_roundw
    case rel=>exact⟨k+1,by omega,by go_num,Hb3,hf⟩
    case measure=>simp[intOf];omega
  ·have hltI:¬(k:Int)<(n:Int):=by omega
   have hf:Hid (r=true):=by
    show _=_
    rw[Hr.out];unfold oC;rw[Hver.out,II];exact sj (Hn.out.symm.trans Hn'.out) fun i a b ha hb=>hat.out i a b (by have:=(IJ.1 ha).1;rw[←Hn.out] at this;omega) ha hb
   go_wp2
   go_ret
   exact⟨by rw[hf.out];rfl,HB.out.trans (hbel.out.mono HB.out.size)⟩
theorem FG{P:Program}{op:Oper}{a:Act}{ty tz:TypeId}{x y:Operand}(xs ys:Array Value)(r:Bool)(w:World)(hm:P.eqGuardType P.depth ty=false)(he:(Op.equalIn 10000 ty (.agg xs) (.agg ys)).run P w=.ok r w)(ho:op.op=.binOp .eql ty x y tz)(hx:a.eval x=.agg xs)(hy:a.eval y=.agg ys):(execOp a.eval op).run P w=.ok (.value (.bool r)) w:=by
 unfold execOp;simp only[ho,hx,hy,Sem.run_bind,run_eqGuard_agg w _ _ _ _ _ _ hm,Result.andThen_ok,run_eql_struct,he,Sem.run_pure]
theorem tL:qq.underlying 35=some (.array 11 3):=Tryz.underlying35
theorem xm:(qq.info? 35).map (·.size)=some 11:=by kernel_rfl
theorem Co:qq.eqGuardType qq.depth 35=false:=by kernel_rfl
theorem sQ(x:nJ)(s:bA)(y:nJ)(t:bA)(w:World)(hs:md w w.heap.size x s)(ht:md w w.heap.size y t) :
  Calls qq 48 #[.agg (cU x s).toArray,.agg (cU y t).toArray] w fun e w'=>e=.returned (.bool (mu s t))∧Below w.heap.size w w':=by
 obtain⟨W1,W,HW1,HW,Hs1,HX,HY,HB⟩:=mf w 37 37 (cU x s).toArray (cU y t).toArray;have HS:=hid (hs.on HB.out);have HT:=hid (ht.on HB.out);have a1:W.cell? ⟨w.heap.size,2,none⟩=some (.slice x.h s.healths.length x.ch):=HX.out.cell 2;have a2:W.cell? ⟨w.heap.size,3,none⟩=some (.slice x.f s.flows.length x.cf):=HX.out.cell 3;have a3:W.cell? ⟨w.heap.size,4,none⟩=some (.int .i64 s.tick):=HX.out.cell 4;have a4:W.cell? ⟨w.heap.size,5,none⟩=some (.int .i64 s.no):=HX.out.cell 5;have b1:W.cell? ⟨w.heap.size+1,2,none⟩=some (.slice y.h t.healths.length y.ch):=HY.out.cell 2;have b2:W.cell? ⟨w.heap.size+1,3,none⟩=some (.slice y.f t.flows.length y.cf):=HY.out.cell 3;have b3:W.cell? ⟨w.heap.size+1,4,none⟩=some (.int .i64 t.tick):=HY.out.cell 4;have b4:W.cell? ⟨w.heap.size+1,5,none⟩=some (.int .i64 t.no):=HY.out.cell 5;have l0:w.heap.size<W.heap.size:=HX.out.lt;have l1:w.heap.size+1<W.heap.size:=HY.out.lt;have Hc1:=hid HS.out.ok.count;have Hc2:=hid HT.out.ok.count;have hcs:(s.count.map zv).length=11:=by rw[IU];exact Hc1.out
 have hct:(t.count.map zv).length=11:=by rw[IU];exact Hc2.out
 have Hcs:=hid hcs;have Hct:=hid hct;clear hs ht hcs hct;go_enter Tryz.func48,Tryz.ntmps48
 go_upto_region 1 with fail
 rw[←HW1.out,←HW.out];refine IX ?_
 repeat ((first
  |refine pa ?_
  |refine sl (nz HX.out) l0 jn ka ?_
  |refine sl (nz HY.out) l1 jn ka ?_
  |refine gs (lG HX.out) l0 tL (by rw[Hcs.out];exact xm) ?_
  |refine gs (lG HY.out) l1 tL (by rw[Hct.out];exact xm) ?_
  |refine cl (fun u hu=>uT x.b s.pool.backs.length x.cb s.pool y.b t.pool.backs.length y.cb t.pool u rfl rfl HS.out.cb.1 HT.out.cb.1 (HS.out.on hu).held.backs (HT.out.on hu).held.backs HS.out.cb.2 HT.out.cb.2 HS.out.ok.backs HT.out.ok.backs) ?_
  |refine gc (fun u hu=>uR x.h s.healths.length x.ch s.healths y.h t.healths.length y.ch t.healths u rfl rfl HS.out.ch.1 HT.out.ch.1 (HS.out.on hu).held.healths (HT.out.on hu).held.healths HS.out.ch.2 HT.out.ch.2) ?_
  |refine gc (fun u hu=>uS x.f s.flows.length x.cf s.flows y.f t.flows.length y.cf t.flows u rfl rfl HS.out.cf.1 HT.out.cf.1 (HS.out.on hu).held.flows (HT.out.on hu).held.flows HS.out.cf.2 HT.out.cf.2 HS.out.ok.flows HT.out.ok.flows) ?_
  |refine gp ?_|refine pt ?_);simp only[ld,lg,lf,IC])
 refine gp (v:=.bool (s.count==t.count)) ?_ (hv:=?_);rotate_left
 ·intro hb u _
  simp only[mK hb];exact FG _ _ _ u Co (lJ (P:=qq) u 9998 35 3 11 Tryz.underlying35 Tryz.underlying3 iI s.count t.count Hc1.out Hc2.out) rfl rfl rfl
 simp only[ld,lg,lf,IC]
 repeat ((first|refine pa ?_|refine pt ?_);simp only[ld,lg,lf,IC])
 refine IQ fun w2 hb2=>?_
 have Hb2:=hid hb2;clear hb2
 go_wp2
 go_ret
 exact⟨by simp only[mu,Bool.and_assoc];rfl,HB.out.trans (Hb2.out.mono HB.out.size)⟩
def iZ(a b:cE):Bool:=nO a.conf b.conf&&(a.first==b.first&&(a.lost==b.lost&&(mu a.st b.st&&tK ip a.evs b.evs)))
theorem nX{x:jY}{xs:List (ek×dI)}{s:cE}{y:jY}{ys:List (ek×dI)}{t:cE}{w:World}(hx:fk w w.heap.size x xs s)(hy:fk w w.heap.size y ys t) :
  Calls qq 19 #[.agg (av x s).toArray,.agg (av y t).toArray] w fun e w'=>e=.returned (.bool (iZ s t))∧Below w.heap.size w w':=by
 obtain⟨W1,W,HW1,HW,Hs1,HX,HY,HB⟩:=mf w 40 40 (av x s).toArray (av y t).toArray;have HS:=hid (hx.on HB.out);have HT:=hid (hy.on HB.out);have Hsh:=hid hx.sh;have Hth:=hid hy.sh;obtain⟨n,hn⟩:∃n,n=s.evs.length:=⟨_,rfl⟩;obtain⟨n',hn'⟩:∃n,n=t.evs.length:=⟨_,rfl⟩;have Hnx:Hid (n=xs.length):=by show _=_;rw[hn,hx.len]
 have Hny:Hid (n'=ys.length):=by show _=_;rw[hn',hy.len]
 have Hn:=hid hn;have Hn':=hid hn';have a0:W.cell? ⟨w.heap.size,54,none⟩=some (.int .i64 s.first):=fx hx.sh HX.out 0;have a1:W.cell? ⟨w.heap.size,55,none⟩=some (.int .i64 s.lost):=fx hx.sh HX.out 1;have a2:W.cell? ⟨w.heap.size,73,none⟩=some (.slice x.e n x.ce):=by rw[hn];exact mq hx.sh HX.out
 have b0:W.cell? ⟨w.heap.size+1,54,none⟩=some (.int .i64 t.first):=fx hy.sh HY.out 0;have b1:W.cell? ⟨w.heap.size+1,55,none⟩=some (.int .i64 t.lost):=fx hy.sh HY.out 1;have b2:W.cell? ⟨w.heap.size+1,73,none⟩=some (.slice y.e n' y.ce):=by rw[hn'];exact mq hy.sh HY.out
 have l0:w.heap.size<W.heap.size:=HX.out.lt;have l1:w.heap.size+1<W.heap.size:=HY.out.lt;have hnc:n≤x.ce:=by rw[hn];exact hx.ce.1
 have hnc':n'≤y.ce:=by rw[hn'];exact hy.ce.1
 have hnl:n≤1000000:=by rw[hn];exact hx.ce.2
 have hnl':n'≤1000000:=by rw[hn'];exact hy.ce.2
 have Hsz:=hid (fp (x:=x) hx.sh);obtain⟨r,hr⟩:∃r,r=iZ s t:=⟨_,rfl⟩;rw[←hr];have Hr:=hid hr;have He:Hid (∀(i:Nat) (p q:ek×dI),xs[i]?=some p→ys[i]?=some q→s.evs[i]?=some p.2∧t.evs[i]?=some q.2):=fun i p q h1 h2=>by
  rw[hx.ev,hy.ev,IR,IR,h1,h2];exact⟨rfl,rfl⟩
 clear hx hy hn hn' hr;go_enter Tryz.func19,Tryz.ntmps19
 go_upto_region 1 with fail
 rw[←HW1.out,←HW.out];obtain⟨T,hT⟩:∃T,T=(!nO s.conf t.conf||s.first != t.first||s.lost != t.lost||!mu s.st t.st||(n:Int) != (n':Int)):=⟨_,rfl⟩;refine IX ?_
 repeat ((first
  |refine po ?_
  |refine sl (jK Hsh.out HX.out) l0 dV (by rw[dD Hsh.out.conf];exact cB) ?_
  |refine sl (jK Hth.out HY.out) l1 dV (by rw[dD Hth.out.conf];exact cB) ?_
  |refine gs (k8 Hsh.out HX.out) l0 eB (kS Hsh.out.st) ?_
  |refine gs (k8 Hth.out HY.out) l1 eB (kS Hth.out.st) ?_
  |refine cl (fun u hu=>wZ x.v s.conf.vips.length x.cv s.conf y.v t.conf.vips.length y.cv t.conf Hsh.out.conf Hth.out.conf u rfl rfl ((HS.out.on hu).vs) ((HT.out.on hu).vs) HS.out.cv.2 HT.out.cv.2) ?_
  |refine gc (fun u hu=>sQ x.st s.st y.st t.st u (HS.out.on hu).st (HT.out.on hu).st) ?_
  |refine gp ?_|refine pt ?_);simp only[ld,lg,lf,IC])
 rw[←hT];refine IQ fun w2 hb2=>?_
 have Hb2:=hid hb2;have HQ:=hid hT;clear hb2 hT HW HW1;rcases T with _|_
 rotate_left
 ·have hf:Hid (r=false):=by
   show _=_
   rw[Hr.out];have h1:=HQ.out.symm;rcases hv:iZ s t with _|_
   ·rfl
   ·unfold iZ at hv
    simp only[IS,beq_iff_eq] at hv;obtain⟨c1,c2,c3,c4,c5⟩:=hv;have c6:n=n':=Decidable.by_contra fun h=>by
     rw[pz (by rw[←Hn.out,←Hn'.out];exact h)] at c5;exact Bool.noConfusion c5
    simp[c1,c2,c3,c4,c6] at h1
  go_wp2
  go_ret
  exact⟨by rw[hf.out];rfl,HB.out.trans (Hb2.out.mono HB.out.size)⟩
 have hq:(nO s.conf t.conf=true∧s.first=t.first∧s.lost=t.lost∧mu s.st t.st=true)∧n=n':=by
  have h1:=HQ.out;simp only[I0,IM,bne_eq_false_iff_eq,Bool.not_eq_false'] at h1;obtain⟨⟨⟨⟨c1,c2⟩,c3⟩,c4⟩,c5⟩:=h1;exact⟨⟨c1,c2,c3,c4⟩,by omega⟩
 obtain⟨hver,rfl⟩:=hq;have Hver:=hid hver;clear hver HQ
 go_wp2
 go_loopw [5] (fun i wr=>∃k:Nat,k≤n∧i=.int .i64 (k:Int)∧Hid (Below W.heap.size W wr)∧Hid (∀(i:Nat) a b,i<k→s.evs[i]?=some a→t.evs[i]?=some b→ip a b=true)) (fun i _=>n-(intOf i).toNat)
 case atStart=>exact⟨0,by omega,rfl,Hb2,fun i a b h=>absurd h (by omega)⟩
 case round =>
  obtain⟨k,hk,rfl,hbel,hat⟩:=hrel;rename World=>wr
  have r2:=(bg hbel.out _ 73 l0).trans a2;have s2:=(bg hbel.out _ 73 l1).trans b2;by_cases hlt:k<n
  ·have hltI:(k:Int)<(n:Int):=by omega
   have hk0:(0:Int)≤(k:Int):=by omega
   obtain⟨c1,o1,h1,hb1,hc1⟩:=(HS.out.evs.below hbel.out) (by rw[←Hnx.out];omega);obtain⟨c2,o2,h2,hb2,hc2⟩:=(HT.out.evs.below hbel.out) (by rw[←Hny.out];omega);rw[h1] at r2;rw[h2] at s2;obtain⟨p,hp⟩:∃p,xs[k]?=some p:=⟨_,ID (by rw[←Hnx.out];exact hlt)⟩;obtain⟨q,hq⟩:∃q,ys[k]?=some q:=⟨_,ID (by rw[←Hny.out];exact hlt)⟩;have Hp:=hid (hc1 k p hp);have Hq:=hid (hc2 k q hq);have m1:c1<wr.heap.size:=Iy hb1 hbel.out.size;have m2:c2<wr.heap.size:=Iy hb2 hbel.out.size;have m3:w.heap.size<wr.heap.size:=Iy l0 hbel.out.size;have m4:w.heap.size+1<wr.heap.size:=Iy l1 hbel.out.size;have Hpo:=hid (HS.out.shp (IA hp));have Hqo:=hid (HT.out.shp (IA hq));have Hpf:=hid ((HS.out.on hbel.out).fr p (IA hp));have Hqf:=hid ((HT.out.on hbel.out).fr q (IA hq));have Hpq:=hid (He.out k p q hp hq);have Hno:Hid (ip p.2 q.2=false→r=false):=fun h=>by
    rw[Hr.out];unfold iZ;rw[sm k Hpq.out.1 Hpq.out.2 h];simp only[IL]
   have Hyes:Hid (ip p.2 q.2=true→∀(i:Nat) a b,i<k+1→s.evs[i]?=some a→t.evs[i]?=some b→ip a b=true):=fun h i a b hi ha hb=>by
    rcases I4 i k with h1|h1
    ·exact hat.out i a b h1 ha hb
    ·obtain rfl:i=k:=by omega
     rw[Hpq.out.1] at ha;rw[Hpq.out.2] at hb;injection ha with ha
     injection hb with hb
     rw[←ha,←hb];exact h
   clear hc1 hc2 hp hq hat a2 b2 h1 h2;go_upto_region 6 with fail
   refine Sd.start ?_
   repeat ((first|refine sl Hp.out m1 eh (kz Hpo.out) ?_|refine sl Hq.out m2 eh (kz Hqo.out) ?_|refine cl (fun u hu=>um p.1.f p.1.cf p.1.o p.1.co p.2 q.1.f q.1.cf q.1.o q.1.co q.2 Hpo.out Hqo.out u ((Hpf.out.1.below hu).more hu.size) ((Hqf.out.1.below hu).more hu.size) ((Hpf.out.2.below hu).more hu.size) ((Hqf.out.2.below hu).more hu.size)) ?_|refine pt ?_);simp only[ld,lg,lf,IC])
   refine IQ fun w3 hb3=>?_
   have Hb3:=hid (hbel.out.trans (hb3.mono hbel.out.size));clear hb3 hbel r2 s2;rcases hv:ip p.2 q.2 with _|_
   ·have hf:=hid (Hno.out hv)
    simp only[hv,IN];clear hv
    go_wp2
    go_ret
    exact⟨by rw[hf.out];rfl,HB.out.trans (Hb3.out.mono HB.out.size)⟩
   ·have hf:=hid (Hyes.out hv)
    simp only[hv,IP];clear hv
    go_wp2
    go_roundw
    case rel=>exact⟨k+1,by omega,by go_num,Hb3,hf⟩
    case measure=>simp[intOf];omega
  ·have hltI:¬(k:Int)<(n:Int):=by omega
   have hf:Hid (r=true):=by
    show _=_
    rw[Hr.out];unfold iZ;rw[Hver.out.1,Hver.out.2.1,Hver.out.2.2.1,Hver.out.2.2.2,beq_self_eq_true,beq_self_eq_true,II,II,II,II];exact sj (Hn.out.symm.trans Hn'.out) fun i a b ha hb=>hat.out i a b (by have:=(IJ.1 ha).1;rw[←Hn.out] at this;omega) ha hb
   go_wp2
   go_ret
   exact⟨by rw[hf.out];rfl,HB.out.trans (hbel.out.mono HB.out.size)⟩
theorem GN{s:cE}(hs:bV s)(h:fE s=true):(da s).length≤1048576∧(eF s.st).length≤1048576:=by
 have h1:=mQ hs h;have h2:=cT (da s);have h3:=cT (eF s.st);unfold dB at h1;rw[IB] at h1;omega
theorem zl{b x y:List UInt8}{n m:Nat}{h:cE}{st:bA}(n1:bc b=(x,n,0))(g1:gJ x=some h)(n2:bc (b.drop n)=(y,m,0))(g2:jk y=some st)(hb:fE { h with st:=st }=true) :
  bW b=({ h with st:=st,evs:=(fj (b.drop (n+m))).1 },n+m+(fj (b.drop (n+m))).2.1,(fj (b.drop (n+m))).2.2):=by
 unfold bW;rw[n1];simp only[ne_eq,not_true,if_false,g1,n2,g2,hb,if_true]
theorem xn{s:cE}(hs:bV s)(h:fE s=true)(m:List UInt8):bW (dB s++m)=({ s with evs:=(fj m).1 },(dB s).length+(fj m).2.1,(fj m).2.2):=by
 have hb:=GN hs h;obtain⟨he,hsn,hf,hl⟩:=pw h;have n1:bc (dB s++m)=(da s,(dA (da s)).length,0):=by unfold dB;rw[IG];exact pk hb.1 _
 have d1:(dB s++m).drop (dA (da s)).length=dA (eF s.st)++m:=by unfold dB;rw[IG,IY]
 have n2:=pk hb.2 m;rw[←d1] at n2;have hlen:(dB s).length=(dA (da s)).length+(dA (eF s.st)).length:=by unfold dB;rw[IB]
 have d2:(dB s++m).drop ((dA (da s)).length+(dA (eF s.st)).length)=m:=by rw[←hlen,IY]
 have g1:gJ (da s)=_:=Io hs.conf (gH.1 (mn.1 he).conf) hf ⟨hl.1,by omega⟩;have h1:=zl n1 g1 n2 (yG hs.st hsn) h;rw[d2,←hlen] at h1;exact h1
theorem nD{s:cE}(hs:bV s)(h:iL s=true):fE s=true∧∀e∈s.evs,aP e∧aG e=true:=by
 unfold iL at h;rw[IS,List.all_eq_true] at h;exact⟨h.2,fun e he=>⟨hs.evs e he,h.1 e he⟩⟩
def uU(s:cE):cE:={ s with evs:=s.evs.map i9 }
theorem Ek{s:cE}(hs:bV s)(h:iL s=true)(m:List UInt8):bW (cg s++m)=({ s with evs:=s.evs.map i9++(fj m).1 },(cg s).length+(fj m).2.1,(fj m).2.2):=by
 obtain⟨hb,he⟩:=nD hs h;unfold cg;rw[IG,xn hs hb,Gd _ he,IB,Nat.add_assoc]
theorem xo{s:cE}(hs:bV s)(h:iL s=true):bW (cg s)=(uU s,(cg s).length,0):=by
 have h1:=Ek hs h [];rw[IF,rS,IF] at h1;exact h1
theorem Cp{s:cE}(hs:bV s)(h:iL s=true){j:Nat}(h1:(dB s).length≤j)(h2:j<(cg s).length) :
  ∃k,k<s.evs.length∧(dB s).length+((s.evs.take k).flatMap cA).length≤j∧j<(dB s).length+((s.evs.take (k+1)).flatMap cA).length ∧
   bW ((cg s).take j)=({ s with evs:=(s.evs.take k).map i9 },(dB s).length+((s.evs.take k).flatMap cA).length,if j=(dB s).length+((s.evs.take k).flatMap cA).length then 0 else 2):=by
 obtain⟨hb,he⟩:=nD hs h;have hl:(cg s).length=(dB s).length+(s.evs.flatMap cA).length:=by unfold cg;rw[IB]
 obtain⟨k,k1,k2,k3,k4⟩:=Ag s.evs he (j-(dB s).length) (by omega);refine⟨k,k1,by omega,by omega,?_⟩;have et:(cg s).take j=dB s++(s.evs.flatMap cA).take (j-(dB s).length):=by
  unfold cg;rw[List.take_append,List.take_of_length_le h1]
 rw[et,xn hs hb,k4];simp only[I8.injEq,true_and];by_cases hq:j-(dB s).length=((s.evs.take k).flatMap cA).length
 ·rw[if_pos hq,if_pos (by omega)]
 ·rw[if_neg hq,if_neg (by omega)]
theorem zn(e:dI):11≤(bT e).length:=by
 have h1:=iO e.o.version.toNat;have h2:=iO e.o.name.length;have h3:=iO e.len.toNat;simp only[bT,ba,bw,IB,az,cP];omega
theorem FH{l body:List UInt8}{n:Nat}{f:dI}(h:bc l=(body,n,0))(hf:fg body=some f):16≤n∧n≤l.length:=by
 obtain⟨m,j,_,h2,h3,h4,_,h6,h7,h8⟩:=vV h;have:=zn f;rw[←(Bu.1 hf).1] at this;omega
theorem Ct{l:List UInt8}{h:cE}(hh:gJ l=some h):h.st=dl∧h.evs=[]∧iW h.conf∧ao h.conf:=by
 unfold gJ at hh;split at hh
 ·split at hh
  ·rename_i c hc
   split at hh
   ·injection hh with hh
    obtain⟨_,c2,c3⟩:=qr.1 hc;rw[←hh];exact⟨rfl,rfl,c2,c3⟩
   ·cases hh
  ·cases hh
 ·cases hh
theorem Cu{x:jY}{h:cE}{y:nJ}{st:bA}(hs:bV h)(hst:iU st):nI (av x h).toArray 56 (cU y st)=(av { x with st:=y } { h with st:=st }).toArray:=by
 have h1:=dD (A:=x.v) (n:=h.conf.vips.length) (c:=x.cv) hs.conf;have h2:=l8 (x:=x.st) hs.st;have h3:=l8 (x:=y) hst;rw[iC _ _ _ (by rw[h3,eG hs];decide),h3];have e:av x h=(am x.v h.conf.vips.length x.cv h.conf++[zv h.first,zv h.lost])++(cU x.st h.st++[.slice x.e h.evs.length x.ce]):=by simp[av]
 rw[e,List.take_left' (by simp[h1]),show 56+17=56+17 from rfl,←IZ,IV (by simp[h1]),IV h2];simp[av]
theorem nE{x:jY}{h:cE}(hs:bV h){w:World}{g:Nat}{T:TypeId}(hb:aj w g T (av x h).toArray):w.cell? ⟨g,73,none⟩=some (.slice x.e h.evs.length x.ce)∧w.frozen? ⟨g,73,none⟩=false ∧
  ∀(A:Option Addr) (c:Nat) (f:dI),aj (w.setCell ⟨g,73,none⟩ (.slice A (h.evs.length+1) c)) g T (av { x with e:=A,ce:=c } { h with evs:=h.evs++[f] }).toArray:=by
 have h1:=dD (A:=x.v) (n:=h.conf.vips.length) (c:=x.cv) hs.conf;have h2:=l8 (x:=x.st) hs.st;obtain⟨a,b,k⟩:=mp (n:=73) (pre:=am x.v h.conf.vips.length x.cv h.conf++(zv h.first::zv h.lost::cU x.st h.st)) (u:=.slice x.e h.evs.length x.ce) (post:=[]) hb (by simp[av]) (by simp[h1,h2]);refine⟨a,b,fun A c f=>?_⟩;have e:av { x with e:=A,ce:=c } { h with evs:=h.evs++[f] }=(am x.v h.conf.vips.length x.cv h.conf++(zv h.first::zv h.lost::cU x.st h.st)) ++ .slice A (h.evs.length+1) c::[]:=by simp[av]
 rw[e];exact k _
structure FI(w wr:World)(bs:Nat)(x:jY)(xs:List (ek×dI))(s:cE):Prop where
 res:aj wr w.heap.size 40 (av eI dS).toArray
 box:aj wr bs 40 (av x s).toArray
 own:eC wr w.heap.size x xs s
 bel:Below w.heap.size w wr
 ne:w.heap.size≠bs∧w.heap.size≤bs
section
variable {w wr w':World} {bs:Nat} {x:jY} {xs:List (ek×dI)} {s:cE}
theorem FI.below(h:FI w wr bs x xs s)(hb:Below wr.heap.size wr w'):FI w w' bs x xs s :=
 ⟨h.res.below hb h.res.lt,h.box.below hb h.box.lt,h.own.below hb,h.bel.trans (hb.mono h.bel.size),h.ne⟩
end
theorem qw(A:Option Addr)(n c:Nat)(l:List UInt8)(w:World)(hn:n=l.length)(hb:BS w w.heap.size A l)(hl:n≤15000000)(hc:n≤c) :
  Calls qq 18 #[.slice A n c] w (il w l):=by
 subst hn;obtain⟨W,hW⟩:∃W,W=w.alloc (.cells (av eI dS).toArray 40):=⟨_,rfl⟩;have HY:Hid (aj W w.heap.size 40 (av eI dS).toArray):=by rw[hW];exact aj.new w _ _ _ rfl
 have HB:Hid (Below w.heap.size w W):=by rw[hW];exact (Below.refl _ _).alloc (IE _) _
 have HA:=hid ((hb.below HB.out).more HB.out.size);have HA0:=hid hb;rw[gQ] at hW;have HW:=hid hW;have Hz0:=hid (fp (x:=eI) dP);obtain⟨R,hR⟩:∃R,R=bW l:=⟨_,rfl⟩;have HR:=hid hR;obtain⟨bd,n1,e1,h1⟩:∃a b c,bc l=(a,b,c):=⟨_,_,_,rfl⟩;have H1:=hid h1;have Hnx:=hid (kN A l.length c l W rfl HA.out (by omega) hc);unfold om at Hnx;rw[h1] at Hnx;clear hW hb hR h1;go_enter Tryz.func18,Tryz.ntmps18
 go_upto_region 1 with fail
 rw[←HW.out];clear HW
 go_wp2_with fail
 refine Hnx.out.mono ?_;rintro e w2 ⟨A2,c2,rfl,hown2,hb2⟩;have HY2:=hid (HY.out.below hb2 HY.out.lt);have HB2:=hid (HB.out.trans (hb2.mono HB.out.size));have HA2:=hid ((HA.out.below hb2).more hb2.size);have Hbd:=hid (IT hown2).1;clear hown2 hb2 Hnx HY HB HA;by_cases he1:e1=0
 rotate_left
 ·have he1I:¬(e1:Int)=0:=by omega
  have hRv:Hid (bW l=(dS,0,e1)):=by show _=_;unfold bW;rw[H1.out];simp only;rw[if_pos he1]
  obtain⟨W7,hW7,T7,B7,G7⟩:=ga (cs:=av eI dS) HY2.out (by simp);have HF:Hid (Below w.heap.size w W7):=HB2.out.grown G7.out HB2.out.size (fun k hk=>by injection hk with hk;omega)
  go_wp2_with ((with_reducible refine aR 40 ?_);rw[←gQ];refine wpList_store_mid rfl 40 (.tmp 2) (.tmp 21) rfl w.heap.size 0 (av eI dS).toArray rfl rfl T7.out Hz0.out (eJ _ _) ?_)
  rw[←hW7.out];refine bodyPost_ret (v:=.tuple #[.agg (av eI dS).toArray,.int .i64 0,.int .i64 (e1:Int)]) (dc (P:=qq) (p:=2) (u:=3) (v:=4) rfl _ _ w.heap.size _ _ _ _ rfl B7.out aH rfl Hz0.out) rfl ?_;unfold il;rw[hRv.out];exact⟨HF.out,eI,[],rfl,eC.zero _ _⟩
 subst he1;have hp1:=kx H1.out;have hbl:bd.length≤1048576:=hp1.2.2.2
 go_wp2_with fail
 refine (Cl A2 bd.length c2 bd w2 rfl Hbd.out (by omega)).mono ?_;rintro e w3 ⟨hb3,x3,h3,rfl,hsh3,hyes⟩;have HY3:=hid (HY2.out.below hb3 HY2.out.lt);have HB3:=hid (HB2.out.trans (hb3.mono HB2.out.size));have HA3:=hid ((HA2.out.below hb3).more hb3.size);have Hsh3:=hid hsh3;have Hz3:=hid (fp (x:=x3) hsh3);obtain⟨xa,wa,Xa,Ya,Ta,Ba,La⟩:=ei w3 40 (av eI dS) (av x3 h3) (by rw[eG hsh3,eG dP]);rw[gQ] at Xa;have HYa:=hid (HY3.out.below La.out HY3.out.lt);have HBa:=hid (HB3.out.trans (La.out.mono HB3.out.size));have HAa:=hid ((HA3.out.below La.out).more La.out.size);have hle:w.heap.size<w3.heap.size:=HY3.out.lt;obtain⟨bs,hbs⟩:∃b,b=w3.heap.size:=⟨_,rfl⟩;have hne1:w.heap.size≠bs:=by omega
 have hne2:w.heap.size≤bs:=by omega
 have Hyes:Hid (∀h',gJ bd=some h'→h3=h'∧jR wa w.heap.size x3.v x3.cv h3.conf.vips∧x3.st=gO∧x3.e=none∧x3.ce=0):=fun h' he=>by
  obtain⟨g1,g2,_,g4,g5,g6⟩:=hyes h' he;have g3:=g2.below La.out;exact⟨g1,⟨bP g3.1 HB2.out.size,g3.2⟩,g4,g5,g6⟩
 obtain⟨ok,hok⟩:∃b,b=(gJ bd).isSome:=⟨_,rfl⟩;have Hok:=hid hok;rw[←hok];clear hb3 hyes hsh3 hok HY2 HB2 HA2 Hbd HA3 HY3 HB3;go_upto_region 5 with (first
  |(rw[←Xa.out];(with_reducible refine aR 40 ?_);refine wpList_store_mid rfl 40 (.tmp 8) (.tmp 26) rfl w3.heap.size 0 (av x3 h3).toArray rfl rfl Ta.out (by rw[Iz];exact Hz3.out) (eJ _ _) ?_))
 rw[←Ya.out,←hbs];rw[←hbs] at Ba;clear Xa Ya Ta La hbs hle;rcases ok with _|_
 ·have hRv:Hid (bW l=(dS,0,3)):=by
   show _=_
   rcases hg:gJ bd with _|h
   ·unfold bW;rw[H1.out];simp only;rw[if_neg (by decide),hg]
   ·have:=Hok.out;rw[hg] at this;cases this
  obtain⟨W7,hW7,T7,B7,G7⟩:=ga (cs:=av eI dS) HYa.out (by simp);have HF:Hid (Below w.heap.size w W7):=HBa.out.grown G7.out HBa.out.size (fun k hk=>by injection hk with hk;omega)
  go_wp2_with ((with_reducible refine aR 40 ?_);rw[←gQ];refine wpList_store_mid rfl 40 (.tmp 2) (.tmp 30) rfl w.heap.size 0 (av eI dS).toArray rfl rfl T7.out Hz0.out (eJ _ _) ?_)
  rw[←hW7.out];refine bodyPost_ret (v:=.tuple #[.agg (av eI dS).toArray,.int .i64 0,.int .i64 3]) (dc (P:=qq) (p:=2) (u:=3) (v:=4) rfl _ _ w.heap.size _ _ _ _ rfl B7.out aH rfl Hz0.out) rfl ?_;unfold il;rw[hRv.out];exact⟨HF.out,eI,[],rfl,eC.zero _ _⟩
 have hgd:gJ bd=some h3:=by
  rcases hg:gJ bd with _|h
  ·have:=Hok.out;rw[hg] at this;cases this
  ·rw[(Hyes.out h hg).1]
 obtain⟨_,hvo,hst0,he0,hce0⟩:=Hyes.out h3 hgd;have Hgd:=hid hgd;have Hvo:=hid hvo;obtain⟨hs0,hv0,hrc,hcs⟩:=Ct hgd;have Hs0:=hid hs0;have Hv0:=hid hv0;have hG:FI w wa bs x3 [] h3:=by
  refine⟨HYa.out,Ba.out,⟨hvo,?_,?_,Hsh3.out,by rw[hv0];rfl,?_,by rw[hv0];decide,by simp⟩,HBa.out,hne1,hne2⟩
  ·have:=(ot hcs hrc).1;omega
  ·rw[hst0,hs0];exact iX.zero _ _
  ·rw[hv0,he0,hce0];exact World.ownsRow_nil _ _ _ _
 have HG:=hid hG;obtain⟨ad,hA,_,_⟩:=HAa.out (by omega);subst hA;have hn1:n1≤l.length:=hp1.2.1;have hn0:1≤n1:=hp1.1;have hn1c:n1≤c:=by omega
 have Hp1:=hid hp1;clear hG hgd hvo hst0 he0 hce0 hs0 hv0 hrc hcs HYa HBa Ba hp1 Hsh3 Hz3 Hyes;by_cases hcn:c=n1
 ·have hd0:l.drop n1=[]:=by rw[List.drop_eq_nil_iff];omega
  have hRv:Hid (bW l=(dS,0,2)):=by
   show _=_
   unfold bW;rw[H1.out];simp only;rw[if_neg (by decide),Hgd.out,hd0];rfl
  have hz:l.length-n1=0:=by omega
  have Hz:=hid hz;have Hnx:=hid (kN (some ad) 0 0 [] wa rfl (I7 _ _ _) (by decide) (by decide));unfold om at Hnx;rw[show bc []=([],0,2) from rfl] at Hnx;subst hcn;clear hz hd0
  go_wp2_with fail
  refine Hnx.out.mono ?_;rintro e w4 ⟨A4,c4,rfl,hown4,hb4⟩;have HG4:=hid (HG.out.below hb4);clear hown4 hb4 Hnx HG HAa;obtain⟨W7,hW7,T7,B7,G7⟩:=ga (cs:=av eI dS) HG4.out.res (by simp);have HF:Hid (Below w.heap.size w W7):=HG4.out.bel.grown G7.out HG4.out.bel.size (fun k hk=>by injection hk with hk;omega)
  go_wp2_with ((with_reducible refine aR 40 ?_);rw[←gQ];refine wpList_store_mid rfl 40 (.tmp 2) (.tmp 41) rfl w.heap.size 0 (av eI dS).toArray rfl rfl T7.out Hz0.out (eJ _ _) ?_)
  rw[←hW7.out];refine bodyPost_ret (v:=.tuple #[.agg (av eI dS).toArray,.int .i64 0,.int .i64 2]) (dc (P:=qq) (p:=2) (u:=3) (v:=4) rfl _ _ w.heap.size _ _ _ _ rfl B7.out aH rfl Hz0.out) rfl ?_;unfold il;rw[hRv.out];exact⟨HF.out,eI,[],rfl,eC.zero _ _⟩
 have Hd1:Hid (l.length-n1=(l.drop n1).length):=by show _=_;rw[IH]
 have Hbs1:Hid (BS wa wa.heap.size (some (ad.add n1)) (l.drop n1)):=by
  have:=HAa.out.drop (k:=n1) (cap:=c) hc;rw[if_neg hcn] at this;exact this
 go_wp2_with fail
 obtain⟨b2,n2,e2,h2⟩:∃a b c,bc (l.drop n1)=(a,b,c):=⟨_,_,_,rfl⟩;have H2:=hid h2;have Hnx:=hid (kN (some (ad.add n1)) (l.length-n1) (c-n1) (l.drop n1) wa Hd1.out Hbs1.out (by omega) (by omega));unfold om at Hnx;rw[h2] at Hnx;clear h2;refine Hnx.out.mono ?_;rintro e w4 ⟨A4,c4,rfl,hown4,hb4⟩;have HG4:=hid (HG.out.below hb4);have HA4:=hid ((HAa.out.below hb4).more hb4.size);have Hb4:=hid (IT hown4).1;clear hown4 hb4 Hnx HG HAa Hbs1;by_cases he2:e2=0
 rotate_left
 ·have he2I:¬(e2:Int)=0:=by omega
  have hRv:Hid (bW l=(dS,0,e2)):=by
   show _=_
   unfold bW;rw[H1.out];simp only;rw[if_neg (by decide),Hgd.out,H2.out];simp only;rw[if_pos he2]
  obtain⟨W7,hW7,T7,B7,G7⟩:=ga (cs:=av eI dS) HG4.out.res (by simp);have HF:Hid (Below w.heap.size w W7):=HG4.out.bel.grown G7.out HG4.out.bel.size (fun k hk=>by injection hk with hk;omega)
  go_wp2_with ((with_reducible refine aR 40 ?_);rw[←gQ];refine wpList_store_mid rfl 40 (.tmp 2) (.tmp 41) rfl w.heap.size 0 (av eI dS).toArray rfl rfl T7.out Hz0.out (eJ _ _) ?_)
  rw[←hW7.out];refine bodyPost_ret (v:=.tuple #[.agg (av eI dS).toArray,.int .i64 0,.int .i64 (e2:Int)]) (dc (P:=qq) (p:=2) (u:=3) (v:=4) rfl _ _ w.heap.size _ _ _ _ rfl B7.out aH rfl Hz0.out) rfl ?_;unfold il;rw[hRv.out];exact⟨HF.out,eI,[],rfl,eC.zero _ _⟩
 subst he2;have hp2:=kx H2.out;have hbl2:b2.length≤1048576:=hp2.2.2.2;have hn2:n1+n2≤l.length:=by have:=hp2.2.1;rw[IH] at this;omega
 have hn20:1≤n2:=hp2.1;clear hp2
 go_wp2_with fail
 refine (wV A4 b2.length c4 b2 w4 rfl Hb4.out (by omega)).mono ?_;rintro e w5 ⟨hb5,hno,hyes⟩;have HG5:=hid (HG4.out.below hb5);have HA5:=hid ((HA4.out.below hb5).more hb5.size);obtain⟨y,st,why,rfl,hso,hcase⟩:∃y st,∃why:Int,e=.returned (.tuple #[.agg (cU y st).toArray,.int .i64 why])∧iX w5 w.heap.size y st∧((jk b2=none∧why=3)∨(jk b2=some st∧why=0)):=by
  rcases hg:jk b2 with _|st
  ·exact⟨gO,dl,3,hno hg,iX.zero _ _,.inl ⟨rfl,rfl⟩⟩
  ·obtain⟨y,g1,g2⟩:=hyes st hg
   exact⟨y,st,0,g1,g2.more HG4.out.bel.size,.inr ⟨rfl,rfl⟩⟩
 have Hcase:=hid hcase;have Hso:=hid hso;have Hst:=hid (kS (x:=y) hso.ok);clear hb5 hno hyes hcase hso HG4 HA4 Hb4;have hth:w5.there bs 56 (cU y st).toArray.size:=HG5.out.box.there (by rw[Iz,Iz,l8 Hso.out.ok,eG HG5.out.own.sh];decide);obtain⟨w6,hw6⟩:∃v,v=w5.setCells bs 56 (cU y st):=⟨_,rfl⟩;obtain⟨xb,hxb⟩:∃x:jY,x={ x3 with st:=y }:=⟨_,rfl⟩;obtain⟨hb,hhb⟩:∃h:cE,h={ h3 with st:=st }:=⟨_,rfl⟩;have hg6:w5.grownBy w6 (some bs):=by rw[hw6];exact aY w5 bs 56 _ 56 (I1.refl _ _)
 have hG6:FI w w6 bs xb [] hb:=by
  refine⟨HG5.out.res.grown hg6 (by simpa using hne1),?_,?_,HG5.out.bel.grown hg6 HG5.out.bel.size (fun k hk=>by injection hk with hk;omega),hne1,hne2⟩
  ·have h:=aj.setCells (cU y st) 56 HG5.out.box
   rw[Cu HG5.out.own.sh Hso.out.ok] at h;rw[hw6,hxb,hhb];exact h
  ·rw[hxb,hhb]
   exact (HG5.out.own.state Hso.out).other HG5.out.box (by decide) hg6
 have HG6:=hid hG6;have hb6:∀k,k<w.heap.size→w6.heap[k]?=w5.heap[k]?:=fun k hk=>hg6.block k (Iy hk HG5.out.bel.size) (by simp;omega)
 have HA6:Hid (BS w6 w.heap.size (some ad) l):=HA0.out.below HG6.out.bel;have Hth:=hid hth;have Hhb:=hid hhb;have hev0:hb.evs=[]:=by rw[hhb];exact Hv0.out
 have Hev0:=hid hev0;have Hzb:=hid (fp (x:=xb) hG6.own.sh);clear hg6 hG6 hth hxb hhb HG5 HA5 hev0 hb6;go_upto_region 11 with ((with_reducible refine aR 37 ?_);refine wpList_store_mid rfl 37 (.tmp 48) (.tmp 46) rfl bs 56 (cU y st).toArray rfl rfl Hth.out Hst.out (uL _ _) ?_)
 rw[←hw6];clear hw6;have l6:bs<w6.heap.size:=HG6.out.box.lt;rcases Hcase.out with ⟨hsg,rfl⟩|⟨hsg,rfl⟩
 ·have hRv:Hid (bW l=(dS,0,3)):=by
   show _=_
   unfold bW;rw[H1.out];simp only;rw[if_neg (by decide),Hgd.out,H2.out];simp only;rw[if_neg (by decide),hsg]
  clear hsg;obtain⟨W7,hW7,T7,B7,G7⟩:=ga (cs:=av eI dS) HG6.out.res (by simp);have HF:Hid (Below w.heap.size w W7):=HG6.out.bel.grown G7.out HG6.out.bel.size (fun k hk=>by injection hk with hk;omega)
  go_wp2_with ((with_reducible refine aR 40 ?_);rw[←gQ];refine wpList_store_mid rfl 40 (.tmp 2) (.tmp 56) rfl w.heap.size 0 (av eI dS).toArray rfl rfl T7.out Hz0.out (eJ _ _) ?_)
  rw[←hW7.out];refine bodyPost_ret (v:=.tuple #[.agg (av eI dS).toArray,.int .i64 0,.int .i64 3]) (dc (P:=qq) (p:=2) (u:=3) (v:=4) rfl _ _ w.heap.size _ _ _ _ rfl B7.out aH rfl Hz0.out) rfl ?_;unfold il;rw[hRv.out];exact⟨HF.out,eI,[],rfl,eC.zero _ _⟩
 refine IX ?_
 repeat ((first|refine po ?_|refine gs (ag HG6.out.box) l6 aH Hzb.out ?_|refine gc (fun u hu=>r6 ((HG6.out.own.below hu).held)) ?_|refine gp ?_|refine pt ?_);simp only[ld,lg,lf,IC])
 refine IQ fun w7 hb7=>?_
 have HG7:=hid (HG6.out.below hb7);clear hb7;have Hsg:=hid hsg;clear hsg;rcases hbr:fE hb with _|_
 ·have hRv:Hid (bW l=(dS,0,3)):=by
   show _=_
   unfold bW;rw[H1.out];simp only;rw[if_neg (by decide),Hgd.out,H2.out];simp only;rw[if_neg (by decide),Hsg.out];simp only;rw[←Hhb.out,hbr];rfl
  simp only[hbr,IN,Bool.or_true,I2];clear hbr;obtain⟨W7,hW7,T7,B7,G7⟩:=ga (cs:=av eI dS) HG7.out.res (by simp);have HF:Hid (Below w.heap.size w W7):=HG7.out.bel.grown G7.out HG7.out.bel.size (fun k hk=>by injection hk with hk;omega)
  go_wp2_with ((with_reducible refine aR 40 ?_);rw[←gQ];refine wpList_store_mid rfl 40 (.tmp 2) (.tmp 56) rfl w.heap.size 0 (av eI dS).toArray rfl rfl T7.out Hz0.out (eJ _ _) ?_)
  rw[←hW7.out];refine bodyPost_ret (v:=.tuple #[.agg (av eI dS).toArray,.int .i64 0,.int .i64 3]) (dc (P:=qq) (p:=2) (u:=3) (v:=4) rfl _ _ w.heap.size _ _ _ _ rfl B7.out aH rfl Hz0.out) rfl ?_;unfold il;rw[hRv.out];exact⟨HF.out,eI,[],rfl,eC.zero _ _⟩
 simp only[hbr,IP,Bool.or_false,I2];have hRv:Hid (bW l=({ hb with evs:=(fj (l.drop (n1+n2))).1 },n1+n2+(fj (l.drop (n1+n2))).2.1,(fj (l.drop (n1+n2))).2.2)):=by
  show _=_
  unfold bW;rw[H1.out];simp only;rw[if_neg (by decide),Hgd.out,H2.out];simp only;rw[if_neg (by decide),Hsg.out];simp only;rw[←Hhb.out,hbr];simp only[if_true];rw[Hhb.out]
 have HG0:Hid (FI w w7 bs xb [] { hb with evs:=[] }):=by
  have h:=HG7.out;have e:({ hb with evs:=[] }:cE)=hb:=by have:=Hev0.out;cases hb;simp only at this;rw[this]
  show FI _ _ _ _ _ _
  rw[e];exact h
 clear hbr Hsg HG7 HG6 Hgd H2 Hd1;obtain⟨at0,hat0⟩:∃a,a=n1+n2:=⟨_,rfl⟩;rw[←hat0] at hRv hn2;have Hat0:=hid hat0
 go_wp2
 go_loopw [6] (fun i wr=>∃(a:Nat) (xk:jY) (es:List (ek×dI)),a≤l.length∧i=.int .i64 (a:Int)∧16*es.length≤a∧Hid (FI w wr bs xk es { hb with evs:=es.map (·.2) })∧Hid (at0≤a∧fj (l.drop at0)=(es.map (·.2)++(fj (l.drop a)).1,(a-at0)+(fj (l.drop a)).2.1,(fj (l.drop a)).2.2))) (fun i _=>l.length-(intOf i).toNat)
 case atStart=>exact⟨at0,xb,[],hn2,by rw[Hat0.out];go_num,by simp,HG0,⟨IE _,by simp⟩⟩
 case round =>
  obtain⟨a,xk,es,ha,rfl,hes,HK,Hinv⟩:=hrel;rename World=>wr
  by_cases hlt:a<l.length
  ·have hltI:(a:Int)<(l.length:Int):=by omega
   have ha0:(0:Int)≤(a:Int):=by omega
   have hca:c≠a:=by omega
   have hac:a≤c:=by omega
   have Hdl:Hid (l.length-a=(l.drop a).length):=by show _=_;rw[IH]
   have Hbs:Hid (BS wr wr.heap.size (some (ad.add a)) (l.drop a)):=by
    have:=((HA0.out.below HK.out.bel).more HK.out.bel.size).drop (k:=a) (cap:=c) hc;rw[if_neg hca] at this;exact this
   obtain⟨b3,n3,e3,h3n⟩:∃q1 q2 q3,bc (l.drop a)=(q1,q2,q3):=⟨_,_,_,rfl⟩;have H3n:=hid h3n;have Hnx:=hid (kN (some (ad.add a)) (l.length-a) (c-a) (l.drop a) wr Hdl.out Hbs.out (by omega) (by omega));unfold om at Hnx;rw[h3n] at Hnx;have Hne:Hid (l.drop a≠[]):=by intro e;have:=congrArg List.length e;simp at this;omega
   clear h3n
   go_wp2_with fail
   refine Hnx.out.mono ?_;rintro e wa2 ⟨A8,c8,rfl,hown8,hb8⟩;have HK8:=hid (HK.out.below hb8);have Hb8:=hid (IT hown8).1;clear hown8 hb8 Hnx HK Hbs Hdl;by_cases he3:e3=0
   rotate_left
   ·have he3I:¬(e3:Int)=0:=by omega
    have hRk:Hid (bW l=({ hb with evs:=es.map (·.2) },a,e3)):=by
     show _=_
     have h:=Hinv.out.2;rw[wB Hne.out H3n.out he3] at h;simp only[IF,IK] at h;rw[hRv.out,h,show at0+(a-at0)=a by have:=Hinv.out.1;omega]
    have Hsz:=hid (fp (x:=xk) HK8.out.own.sh);obtain⟨W7,hW7,T7,B7,G7⟩:=ga (cs:=av xk { hb with evs:=es.map (·.2) }) HK8.out.res (by rw[eG HK8.out.own.sh,Iz,eG dP]);have HF:Hid (Below w.heap.size w W7):=HK8.out.bel.grown G7.out HK8.out.bel.size (fun k hk=>by injection hk with hk;omega);have HO:=hid (HK8.out.own.other HK8.out.res (by decide) G7.out);have RF:=hid (ag HK8.out.box)
    go_wp2_with (first
     |((with_reducible refine aB 40 ?_);refine aa (by rfl) 40 (.tmp 8) rfl bs 0 rfl (av xk { hb with evs:=es.map (·.2) }) _ RF.out aH rfl Hsz.out ?_)
     |((with_reducible refine aR 40 ?_);refine wpList_store_mid rfl 40 (.tmp 2) (.tmp 74) rfl w.heap.size 0 (av xk { hb with evs:=es.map (·.2) }).toArray rfl rfl T7.out Hsz.out (eJ _ _) ?_))
    rw[←hW7.out];refine bodyPost_ret (v:=.tuple #[.agg (av xk { hb with evs:=es.map (·.2) }).toArray,.int .i64 (a:Int),.int .i64 (e3:Int)]) (dc (P:=qq) (p:=2) (u:=3) (v:=4) rfl _ _ w.heap.size _ _ _ _ rfl B7.out aH rfl Hsz.out) rfl ?_;unfold il;rw[hRk.out];exact⟨HF.out,_,es,rfl,HO.out⟩
   subst he3;have hp3:=kx H3n.out;have hb3l:b3.length≤1048576:=hp3.2.2.2;have hn3:a+n3≤l.length:=by have:=hp3.2.1;rw[IH] at this;omega
   have hn30:1≤n3:=hp3.1;clear hp3
   go_wp2_with fail
   refine (DG A8 b3.length c8 b3 wa2 rfl Hb8.out (by omega)).mono ?_;rintro e w9 ⟨hb9,hno,hyes⟩;have HK9:=hid (HK8.out.below hb9);rcases hg:fg b3 with _|f
   ·obtain rfl:=hno hg
    have hRk:Hid (bW l=({ hb with evs:=es.map (·.2) },a,3)):=by
     show _=_
     have h:=Hinv.out.2;rw[Fq H3n.out hg] at h;simp only[IF,IK] at h;rw[hRv.out,h,show at0+(a-at0)=a by have:=Hinv.out.1;omega]
    obtain⟨xc,wc,Xc,Yc,Tc,Bc,Lc⟩:=ei w9 65 (bh none 0 0 none 0 0 mZ) (bh none 0 0 none 0 0 mZ) rfl;rw[kL] at Xc;have Hze:=hid (ll (A:=none) (n:=0) (c:=0) (A':=none) (n':=0) (c':=0) fJ);have HKc:=hid (HK9.out.below Lc.out);clear hno hyes hb9 hg HK8 HK9 Hb8;go_upto_region 20 with (rw[←Xc.out];(with_reducible refine aR 65 ?_);refine wpList_store_mid rfl 65 (.tmp 11) (.tmp 80) rfl w9.heap.size 0 (bh none 0 0 none 0 0 mZ).toArray rfl rfl Tc.out Hze.out (pT _ _ _ _ _ _ _) ?_)
    rw[←Yc.out];clear Xc Yc Tc;have Hsz:=hid (fp (x:=xk) HKc.out.own.sh);obtain⟨W7,hW7,T7,B7,G7⟩:=ga (cs:=av xk { hb with evs:=es.map (·.2) }) HKc.out.res (by rw[eG HKc.out.own.sh,Iz,eG dP]);have HF:Hid (Below w.heap.size w W7):=HKc.out.bel.grown G7.out HKc.out.bel.size (fun k hk=>by injection hk with hk;omega);have HO:=hid (HKc.out.own.other HKc.out.res (by decide) G7.out);have RF:=hid (ag HKc.out.box)
    go_wp2_with (first
     |((with_reducible refine aB 40 ?_);refine aa (by rfl) 40 (.tmp 8) rfl bs 0 rfl (av xk { hb with evs:=es.map (·.2) }) _ RF.out aH rfl Hsz.out ?_)
     |((with_reducible refine aR 40 ?_);refine wpList_store_mid rfl 40 (.tmp 2) (.tmp 84) rfl w.heap.size 0 (av xk { hb with evs:=es.map (·.2) }).toArray rfl rfl T7.out Hsz.out (eJ _ _) ?_))
    rw[←hW7.out];refine bodyPost_ret (v:=.tuple #[.agg (av xk { hb with evs:=es.map (·.2) }).toArray,.int .i64 (a:Int),.int .i64 3]) (dc (P:=qq) (p:=2) (u:=3) (v:=4) rfl _ _ w.heap.size _ _ _ _ rfl B7.out aH rfl Hsz.out) rfl ?_;unfold il;rw[hRk.out];exact⟨HF.out,_,es,rfl,HO.out⟩
   obtain⟨Af,cf,rfl,hfs,hof⟩:=hyes f hg;have hst3:=p8 H3n.out hg;have hge:=FH H3n.out hg;obtain⟨p,hp⟩:∃p:ek×dI,p=(⟨Af,cf,none,0⟩,f):=⟨_,rfl⟩;have hpc:ky p=bh Af f.act.frame.length cf none 0 0 f:=by rw[hp];unfold ky;simp only[tJ hg,IW]
   have hp2:p.2=f:=by rw[hp]
   have Hfo:Hid (w9.ownsRow w.heap.size 5 1 (.slice p.1.f p.2.act.frame.length p.1.cf) p.2.act.frame.length (ab p.2.act.frame)):=by rw[hp];exact bP hof HK8.out.bel.size
   have Hfs:Hid (aP p.2):=by rw[hp2];exact hfs
   have Hout:Hid (p.2.o.out=[]):=by rw[hp2];exact tJ hg
   rw[←hpc];have Hze:=hid (kz (p:=p) Hfs.out);have Hz42:=hid (nB (p:=p) Hfs.out);obtain⟨xc,wc,Xc,Yc,Tc,Bc,Lc⟩:=ei w9 65 (bh none 0 0 none 0 0 mZ) (ky p) (by rw[Hz42.out];rfl);rw[kL] at Xc;have HKc:=hid (HK9.out.below Lc.out);have Hfc:=hid (an Hfo.out Lc.out);have Hinv2:Hid (at0≤a+n3∧fj (l.drop at0)=((es++[p]).map (·.2)++(fj (l.drop (a+n3))).1,(a+n3-at0)+(fj (l.drop (a+n3))).2.1,(fj (l.drop (a+n3))).2.2)):=by
    obtain⟨i1,i2⟩:=Hinv.out;refine⟨by omega,?_⟩;rw[i2,hst3,IZ];simp only[List.map_append,I3,I5,IG,List.cons_append,List.nil_append,hp2];rw[show a-at0+(n3+(fj (List.drop (a+n3) l)).2.1)=a+n3-at0+(fj (List.drop (a+n3) l)).2.1 by omega]
   have he3':16≤n3:=hge.1;clear hno hyes hb9 hg HK8 HK9 Hb8 hof hfs hst3 hge hpc hp hp2 Hfo;go_upto_region 21 with (rw[←Xc.out];(with_reducible refine aR 65 ?_);refine wpList_store_mid rfl 65 (.tmp 11) (.tmp 80) rfl w9.heap.size 0 (ky p).toArray rfl rfl Tc.out (by rw[Iz];exact Hze.out) (qT _) ?_)
   rw[←Yc.out];clear Xc Yc Tc;obtain⟨sk,hsk⟩:∃s:cE,s={ hb with evs:=es.map (·.2) }:=⟨_,rfl⟩;have Hsk:=hid hsk;rw[←hsk] at HKc;have hln:sk.evs.length=es.length:=HKc.out.own.len;obtain⟨m,hm⟩:∃m,m=sk.evs.length:=⟨_,rfl⟩;have q73:wc.cell? ⟨bs,73,none⟩=some (.slice xk.e m xk.ce):=by rw[hm];exact (nE HKc.out.own.sh HKc.out.box).1
   have hmb:m≤999999:=by omega
   have Hm:=hid hm;obtain⟨wd,hwd⟩:∃v,v=wc.alloc (.cells (ky p).toArray 65):=⟨_,rfl⟩;have Bd:=hid (ag (show aj wd wc.heap.size 65 (ky p).toArray by rw[hwd];exact aj.new wc _ _ _ rfl));have hbd:Below wc.heap.size wc wd:=by rw[hwd];exact (Below.refl _ _).alloc (IE _) _
   have HKd:=hid (HKc.out.below hbd);have Hfd:=hid (an Hfc.out hbd);have RE:=hid (ag Bc.out);obtain⟨z0,hz0⟩:∃z,(qq.info? 65)=some z:=⟨_,rfl⟩;obtain⟨zz,hzz,hzs,hzb,hzc⟩:∃z,z0.zero=some z∧z0.size=42∧z0.bytes≤1000∧z.cells.size=42:=by
    have e:(qq.info? 65).bind (fun i=>i.zero.map (fun z=>(i.size,decide (i.bytes≤1000),z.cells.size)))=some (42,true,42):=by kernel_rfl
    rw[hz0] at e;obtain⟨z,h1,h2⟩:=Option.map_eq_some_iff.1 (show z0.zero.map _=some _ from e);simp only[I8.injEq,decide_eq_true_eq] at h2;exact⟨z,h1,h2.1,h2.2.1,h2.2.2⟩
   have Hoe:Hid (wd.ownsRow w.heap.size 65 42 (.slice xk.e m xk.ce) m (fT ky es)):=by have:=HKd.out.own.evs;rw[←Hm.out] at this;exact this
   have hwb:w.heap.size≤wd.heap.size:=HKd.out.bel.size;have hx63:m+1≤1000001:=by omega
   clear hbd hsk hm hln;go_upto_region 22 with (first
    |((with_reducible refine aB 65 ?_);refine aa (by rfl) 65 (.tmp 11) rfl w9.heap.size 0 rfl (ky p) _ RE.out eh rfl Hze.out ?_)
    |((with_reducible refine wQ 1 ?_);refine ik rfl 38 65 (.tmp 89) rfl (ky p) rfl Tryz.underlying38 Hze.out (by kernel_rfl) (by rw[Hz42.out];decide) (by rw[Hz42.out];decide) ?_;rw[←hwd])
    |(at_builtin;refine wpList_append_own_at (P:=qq) wd rfl _ _ 38 rfl w.heap.size 65 z0 zz 42 z0.bytes Tryz.underlying38 hz0 hzz hzs rfl hzc (by decide) (.slice xk.e m xk.ce) m (fT ky es) rfl Hoe.out ⟨wc.heap.size,0,none⟩ 1 1 (ky p) rfl (by rw[Hz42.out]) (fun j u hj=>by rw[show (⟨wc.heap.size,0,none⟩:Addr).add j=⟨wc.heap.size,0+j,none⟩ by unfold Addr.add;split<;>simp_all];exact Bd.out j u hj) (fun u hu=>Array.all_eq_true_iff_forall_mem.1 (qT p) u (by simpa using hu)) (by unfold maxLen;omega) (Nat.le_trans (Nat.mul_le_mul hx63 hzb) (by decide)) hwb ?_;intro v7 we hown7 hg7 _ _;obtain⟨A7,c7,hv7,_⟩:=cw hown7;subst hv7;have hbne:=aK Hoe.out HKd.out.box (by decide);have hbox7:=HKd.out.box.grown hg7 (by rcases hbne with h|h;rw[h];simp;exact Ne.symm h);have s73:=(nE HKd.out.own.sh hbox7).1;have f73:=(nE HKd.out.own.sh hbox7).2.1;rw[←Hm.out] at s73))
   obtain⟨wf,hwf⟩:∃v,v=we.setCell ⟨bs,73,none⟩ (.slice A7 (m+1) c7):=⟨_,rfl⟩;rw[←hwf];have hsn:eC we w.heap.size { xk with e:=A7,ce:=c7 } (es++[p]) { sk with evs:=sk.evs++[p.2] } :=
    HKd.out.own.snoc (p:=p) (by rw[←Hm.out];exact hg7) (by rw[←Hm.out];exact hown7) Hfd.out Hfs.out Hout.out (by rw[←Hm.out];omega)
   have hrne:=aK Hoe.out HKd.out.res (by decide);have hres7:=HKd.out.res.grown hg7 (by rcases hrne with h|h;rw[h];simp;exact Ne.symm h);have hgs:we.grownBy wf (some bs):=by rw[hwf];exact a8 _ _ _
   have hbl:Below w.heap.size w we:=HKd.out.bel.grown hg7 HKd.out.bel.size (fun k hk=>(jS Hoe.out k hk).1);have hsk2:({ sk with evs:=sk.evs++[p.2] }:cE)={ hb with evs:=(es++[p]).map (·.2) }:=by rw[Hsk.out];simp
   have hbxf:aj wf bs 40 (av { xk with e:=A7,ce:=c7 } { sk with evs:=sk.evs++[p.2] }).toArray:=by
    rw[hwf,Hm.out];exact (nE HKd.out.own.sh hbox7).2.2 A7 c7 p.2
   have hsnf:=hsn.other hbox7 (by decide) hgs;rw[hsk2] at hbxf hsnf;have HF:Hid (FI w wf bs { xk with e:=A7,ce:=c7 } (es++[p]) { hb with evs:=(es++[p]).map (·.2) }) :=
    ⟨hres7.grown hgs (by simpa using hne1),hbxf,hsnf,hbl.grown hgs hbl.size (fun k hk=>by injection hk with hk;omega),hne1,hne2⟩
   clear hwf hsn hrne hres7 hgs hbl hsk2 hbxf hsnf hbne hbox7 s73 f73 hown7 hg7 q73
   go_wp2
   go_roundw
   case rel=>exact⟨a+n3,_,es++[p],hn3,by go_num,by simp;omega,HF,Hinv2⟩
   case measure=>simp[intOf];omega
  ·have hltI:¬(a:Int)<(l.length:Int):=by omega
   have hRk:Hid (bW l=({ hb with evs:=es.map (·.2) },a,0)):=by
    show _=_
    have h:=Hinv.out.2;have hd:l.drop a=[]:=by rw[List.drop_eq_nil_iff];omega
    rw[hd,rS] at h;simp only[IF,IK] at h;rw[hRv.out,h,show at0+(a-at0)=a by have:=Hinv.out.1;omega]
   have Hsz:=hid (fp (x:=xk) HK.out.own.sh);obtain⟨W7,hW7,T7,B7,G7⟩:=ga (cs:=av xk { hb with evs:=es.map (·.2) }) HK.out.res (by rw[eG HK.out.own.sh,Iz,eG dP]);have HF:Hid (Below w.heap.size w W7):=HK.out.bel.grown G7.out HK.out.bel.size (fun k hk=>by injection hk with hk;omega);have HO:=hid (HK.out.own.other HK.out.res (by decide) G7.out);have RF:=hid (ag HK.out.box)
   go_wp2_with (first
    |((with_reducible refine aB 40 ?_);refine aa (by rfl) 40 (.tmp 8) rfl bs 0 rfl (av xk { hb with evs:=es.map (·.2) }) _ RF.out aH rfl Hsz.out ?_)
    |((with_reducible refine aR 40 ?_);refine wpList_store_mid rfl 40 (.tmp 2) (.tmp 96) rfl w.heap.size 0 (av xk { hb with evs:=es.map (·.2) }).toArray rfl rfl T7.out Hsz.out (eJ _ _) ?_))
   rw[←hW7.out];refine bodyPost_ret (v:=.tuple #[.agg (av xk { hb with evs:=es.map (·.2) }).toArray,.int .i64 (a:Int),.int .i64 0]) (dc (P:=qq) (p:=2) (u:=3) (v:=4) rfl _ _ w.heap.size _ _ _ _ rfl B7.out aH rfl Hsz.out) rfl ?_;unfold il;rw[hRk.out];exact⟨HF.out,_,es,rfl,HO.out⟩
def cW:bf:={ bH with size:=7,room:=9,rise:=2,fall:=3,six:=(true,List.replicate 16 0),most:=1000,keep:=2,batch:=5 }
def nM:dI:={ mZ with act:={ cL with kind:=4 } }
def kb:cE:={ conf:=cW,first:=9,lost:=2,st:=dl,evs:=[nM] }
theorem jr:iL kb=true:=by decide +kernel
theorem zo:iL dS=false:=by decide +kernel
theorem xz:ao cW:={ jI with six:=by simp[cW,aS] }
theorem js:aP nM:={ fJ with act:={ fJ.act with } }
theorem gZ:bV kb:=⟨xz,jm,by simp[kb,js]⟩
theorem FL{w:World}{g k:Nat}{t:TypeId}{cs:Array Value}(hk:g≠k)(vs:List Value)(h:aj w g t cs):aj (w.setCells k 0 vs) g t cs:=aj.grown h (aY w k 0 vs 0 (I1.refl _ _)) (fun e=>hk (I6.inj e))
def xW(A:Option Addr):jY:=⟨none,0,gO,A,1⟩
theorem Cw(A:Option Addr):qq.built 40 [(0,.agg (am none 0 0 cW).toArray),(1,.int .i64 9),(2,.int .i64 2),(4,.slice A 1 1)]=some (av (xW A) kb).toArray:=by kernel_rfl
theorem Cx:qq.built 65 [(0,.agg (ak none 0 0 nM.act).toArray)]=some (ky (⟨none,0,none,0⟩,nM)).toArray:=by kernel_rfl
theorem zp:qq.built 60 [(0,.int .i64 4)]=some (ak none 0 0 nM.act).toArray:=by kernel_rfl
theorem AA(ty:TypeId){ps:Array (Nat×Operand)}{d:Option Tmp}{t:TypeId}{p:String}{af:Array Edge}{gd:Option (Nat×Bool)}{P:Program}{ops:Array Oper}{rest:List Oper}{a:Act}{w:World}{Q:Exit→Act→World→Prop}(k:wpList P ops Q (⟨d,.build ty ps,t,p,af,gd⟩::rest) a w):wpList P ops Q (⟨d,.build ty ps,t,p,af,gd⟩::rest) a w:=k
theorem j6{P:Program}{ops:Array Oper}{rest:List Oper}{o:Oper}{a:Act}{w:World}{Q:Exit→Act→World→Prop}(hg:o.guard=none)(t:TypeId)(parts:Array (Nat×Operand))(ho:o.op=.build t parts)(L:List (Nat×Value))(cells:Array Value)(hc:P.built t L=some cells)(hL:(parts.toList.map fun (i,x)=>(i,a.eval x))=L)
  (h:wpList P ops Q rest (a.put o.dst (.agg cells)) w):wpList P ops Q (o::rest) a w :=
 wpList_build hg t parts ho (by rw[Array.toList_map,hL,hc];rfl) (by rw[Array.toList_map,hL,hc];exact h)
theorem GQ(A:Option Addr)(w:World)(B:Nat)(h:RW ky 42 w B A [(⟨none,0,none,0⟩,nM)]):fk w B (xW A) [(⟨none,0,none,0⟩,nM)] kb where
 vs:=fun hn=>absurd hn (by decide)
 cv:=⟨IE _,by decide⟩
 st:=⟨⟨I9 _ _ _,I9 _ _ _,I9 _ _ _⟩,jm,⟨IE _,by decide⟩,⟨IE _,by decide⟩,⟨IE _,by decide⟩,by simp[kb,dl],by simp[kb,dl],by simp[kb,dl]⟩
 sh:=gZ
 ev:=rfl
 evs:=h
 ce:=⟨IE _,by decide⟩
 fr:=fun p hp=>by
  obtain rfl:p=(⟨none,0,none,0⟩,nM):=by simpa using hp
  exact⟨I7 _ _ _,I7 _ _ _⟩
theorem En(w:World):Calls qq 25 #[] w fun e w'=>∃A S xs,e=.returned (.agg (av (xW A) S).toArray)∧S=kb∧fk w' w'.heap.size (xW A) xs S∧xs=[(⟨none,0,none,0⟩,nM)]∧Below w.heap.size w w':=by
 obtain⟨W,hW⟩:∃W,W=w.alloc (.cells (av eI dS).toArray 40):=⟨_,rfl⟩;have hX:aj W w.heap.size 40 (av eI dS).toArray:=by rw[hW];exact aj.new w _ _ _ rfl
 have hs:Hid (W.heap.size=w.heap.size+1):=by rw[hW];show _=_;simp
 have hB:Hid (Below w.heap.size w W):=by rw[hW];exact (Below.refl _ _).alloc (IE _) _
 rw[gQ] at hW;obtain⟨C,hC⟩:∃C,C=cW:=⟨_,rfl⟩;obtain⟨x1,y1,X1,Y1,T1,B1,L1⟩:=ei W 29 (am none 0 0 bH) (am none 0 0 C) (by rw[hC];rfl);have hbt:∀(A:Option Addr),qq.built 40 [(0,.agg (am none 0 0 C).toArray),(1,.int .i64 9),(2,.int .i64 2),(4,.slice A 1 1)]=some (av (xW A) { kb with conf:=C }).toArray:=fun A=>by rw[hC];exact Cw A
 have hcl:(am none 0 0 C).length=54:=by rw[hC];rfl
 have hc1:(#[.slice none 0 0,.int .i64 7,.int .i64 9]:Array Value)=#[.slice none 0 0,.int .i64 7,.int .i64 9]:=rfl;rw[nC] at X1;have HW:=hid hW;have HC:=hid hC;have Hbt:=hid hbt;have HX:=hid hX;clear hW hC hbt hX hc1;go_enter Tryz.func25,Tryz.ntmps25
 go_upto_region 1 with fail
 rw[←HW.out];go_upto_region 2 with (first
  |(rw[←X1.out];(with_reducible refine aR 29 ?_);refine wpList_store_mid rfl 29 (.tmp 1) (.tmp 3) rfl W.heap.size 0 (am none 0 0 C).toArray rfl (by rw[HC.out];rfl) T1.out (by rw[Iz,hcl];exact cB) (gP none 0 0 C) ?_))
 rw[←Y1.out];have HX1:=hid (HX.out.below L1.out HX.out.lt);obtain⟨w3,hw3⟩:∃u,u=y1.alloc (.cells (ky (⟨none,0,none,0⟩,nM)).toArray 65):=⟨_,rfl⟩;have B3:Hid (aj w3 y1.heap.size 65 (ky (⟨none,0,none,0⟩,nM)).toArray):=by rw[hw3];exact aj.new _ _ _ _ rfl
 have L3:Hid (Below W.heap.size W w3):=by rw[hw3];exact L1.out.alloc L1.out.size _
 have s3:Hid (w3.heap.size=y1.heap.size+1):=by rw[hw3];show _=_;simp
 have HX3:=hid (HX.out.below L3.out HX.out.lt);obtain⟨w4,W4,T4,B4,G4⟩:=ga (cs:=av (xW (some ⟨y1.heap.size,0,none⟩)) { kb with conf:=C }) HX3.out (by rw[HC.out];rfl);have B34:Hid (aj w4 y1.heap.size 65 (ky (⟨none,0,none,0⟩,nM)).toArray):=by
  rw[W4.out];exact FL (by have:=L1.out.size;have:=hs.out;omega) _ B3.out
 have R1:=hid (ag (B1.out));have Hw3:=hid hw3;have Hsz:Hid ((qq.info? 40).map (·.size)=some (av (xW (some ⟨y1.heap.size,0,none⟩)) { kb with conf:=C }).toArray.size):=by rw[HC.out];exact wW
 clear hw3
 go_wp2_with (first
  |((with_reducible refine aB 29 ?_);refine aa (by rfl) 29 (.tmp 1) rfl W.heap.size 0 rfl (am none 0 0 C) _ R1.out dV rfl (by rw[hcl];exact cB) ?_)
  |((with_reducible refine AA 60 ?_);refine j6 rfl 60 _ rfl _ _ zp rfl ?_)
  |((with_reducible refine AA 65 ?_);refine j6 rfl 65 _ rfl _ _ Cx rfl ?_)
  |((with_reducible refine wQ 1 ?_);refine ik rfl 38 65 (.tmp 6) rfl (ky (⟨none,0,none,0⟩,nM)) rfl Tryz.underlying38 (kz js) (by kernel_rfl) (by rw[nB js];decide) (by rw[nB js];decide) ?_;rw[←Hw3.out])
  |((with_reducible refine AA 40 ?_);refine j6 rfl 40 _ rfl _ _ (Hbt.out (some ⟨y1.heap.size,0,none⟩)) rfl ?_)
  |((with_reducible refine aR 40 ?_);refine wpList_store_mid rfl 40 (.tmp 0) (.tmp 8) rfl w.heap.size 0 (av (xW (some ⟨y1.heap.size,0,none⟩)) { kb with conf:=C }).toArray rfl rfl T4.out Hsz.out (eJ _ _) ?_))
 rw[←W4.out];have Bl:Below w.heap.size w w4:=(hB.out.trans (L3.out.mono hB.out.size)).grown G4.out (hB.out.trans (L3.out.mono hB.out.size)).size (fun k hk=>by injection hk with hk;omega);have hrw:RW ky 42 w4 w4.heap.size (some ⟨y1.heap.size,0,none⟩) [(⟨none,0,none,0⟩,nM)]:=fun _=>⟨y1.heap.size,0,rfl,B34.out.lt,fun k v hk=>by
  rcases k with _|k
  ·simp only[List.getElem?_cons_zero,I6.injEq] at hk
   subst hk;exact ag B34.out
  ·simp at hk⟩
 exact bodyPost_ret (v:=.agg (av (xW (some ⟨y1.heap.size,0,none⟩)) { kb with conf:=C }).toArray) (cN (P:=qq) (p:=0) rfl _ _ w.heap.size _ _ _ rfl B4.out aH rfl Hsz.out) rfl ⟨_,_,rfl,by rw[HC.out];rfl,[(⟨none,0,none,0⟩,nM)],by rw[HC.out];exact GQ _ _ _ hrw,rfl,Bl⟩
theorem Eo:i9 nM=nM:=by
 have h:=jQ;simp[i9,pf,nR,nM,mZ,cL,dU,h]
theorem Ep:bW (cg kb)=(kb,(cg kb).length,0):=by
 rw[xo gZ jr];have e:uU kb=kb:=by
  unfold uU;rw[show kb.evs=[nM] from rfl,I3,Eo];rfl
 rw[e]
theorem AB:(cg kb).length=(dB kb).length+(cA nM).length∧5≤(cA nM).length∧(cg kb).length≤15000000:=by
 have h0:cg kb=dB kb++(cA nM++[]):=rfl;have h1:(cg kb).length=(dB kb).length+(cA nM).length:=by rw[h0,IF,IB]
 have h2:=mQ gZ (nD gZ jr).1;have h3:=lK js (by decide +kernel);have h4:=cT (bT nM);have h5:1≤(aC (bT nM).length).length:=iO _;refine⟨h1,?_,by omega⟩;unfold cA;omega
theorem FM:bW ((cg kb).take ((cg kb).length-1))=({ kb with evs:=[] },(dB kb).length,2):=by
 obtain⟨h1,h2,h3⟩:=AB;obtain⟨k,k1,k2,k3,k4⟩:=Cp gZ jr (j:=(cg kb).length-1) (by omega) (by omega);have hk:k=0:=by
  have:kb.evs.length=1:=rfl;omega
 subst hk;rw[k4];simp only[List.take_zero,I5,List.flatMap_nil,IW,IK,I8.injEq,true_and];rw[if_neg (by omega)]
theorem Er:bW []=(dS,0,2):=by kernel_rfl
theorem GR:kW 12 1=([48,48,48,48,49,50,46,108,111,103],true):=by decide +kernel
theorem FN:kW 1000000 1=([],false):=by decide +kernel
theorem GS:mC [48,48,48,48,49,50,46,99,97,112]=(12,2,true):=by decide +kernel
theorem GT:mC [49,50,46,99,97,112]=(0,0,false):=by decide +kernel
theorem Es:iZ kb kb=true:=by decide +kernel
def Bx(w:World)(g:Nat)(x:jY)(xs:List (ek×dI))(s:cE):Prop:=aj w g 40 (av x s).toArray∧fk w w.heap.size x xs s
theorem Bx.on{w w':World}{g:Nat}{x:jY}{xs:List (ek×dI)}{s:cE}(h:Bx w g x xs s)(hb:Below w.heap.size w w'):Bx w' g x xs s:=⟨aj.below h.1 hb h.1.lt,h.2.on hb⟩
theorem xA(w:World)(x:jY)(s:cE)(hs:bV s):∃u v,Hid (u=w.alloc (.cells Tryz.zeroCells40 40))∧Hid (v=u.setCells w.heap.size 0 (av x s))∧Hid (u.there w.heap.size 0 (av x s).toArray.size)∧Hid (Below w.heap.size w v)∧Hid (∀xs,fk w w.heap.size x xs s→Bx v w.heap.size x xs s):=by
 obtain⟨u,v,h1,h2,h3,h4,h5⟩:=ei w 40 (av eI dS) (av x s) (by rw[eG hs,eG dP]);rw[gQ] at h1;exact⟨u,v,h1,h2,h3,h5,fun xs h=>⟨h4.out,h.on h5.out⟩⟩
theorem pC{x:jY}{s:cE}(h:bV s):(qq.info? 40).map (·.size)=some (av x s).toArray.size:=by rw[Iz];exact fp h
theorem mR{w:World}{b:Bool}{m:List UInt8}{e:Ending}{w':World}(h:ix w b m e w')(hb:b=true):∃A c,e=.returned (.tuple #[.slice A m.length c,.int .i64 0])∧BS w' w'.heap.size A m∧m.length≤c∧Below w.heap.size w w':=by
 obtain⟨A,c,h1,h2⟩:=h.2.2 hb;exact⟨A,c,h1,(IT h2).1,jb h2,h.1⟩
theorem Iq(x:jY)(xs:List (ek×dI))(S:cE)(hS:S=kb)(n:Nat)(P:List UInt8)(hP:P=cg kb)(hn:n=P.length)(w:World)(h:fk w w.heap.size x xs S):Calls qq 11 #[.agg (av x S).toArray] w fun e w'=>∃A c,e=.returned (.tuple #[.slice A n c,.int .i64 0])∧BS w' w'.heap.size A P∧n≤c∧Below w.heap.size w w':=by
 subst hS hn hP;exact (mr h).mono fun e w' he=>mR he jr
theorem If(x:jY)(xs:List (ek×dI))(S:cE)(hS:S=kb)(n:Nat)(P:List UInt8)(hP:P=dB kb)(hn:n=P.length)(w:World)(h:fk w w.heap.size x xs S):Calls qq 12 #[.agg (av x S).toArray] w fun e w'=>∃A c,e=.returned (.tuple #[.slice A n c,.int .i64 0])∧BS w' w'.heap.size A P∧n≤c∧Below w.heap.size w w':=by
 subst hS hn hP;exact (kU h).mono fun e w' he=>mR he (nD gZ jr).1
theorem GV(n:Nat)(P:List UInt8)(hP:P=cA nM)(hn:n=P.length)(w:World):Calls qq 20 #[.agg (ky (⟨none,0,none,0⟩,nM)).toArray] w fun e w'=>∃A c,e=.returned (.tuple #[.slice A n c,.int .i64 0])∧BS w' w'.heap.size A P∧n≤c∧Below w.heap.size w w':=by
 subst hn hP;exact (pv (⟨none,0,none,0⟩,nM) js w (I7 _ _ _)).mono fun e w' he=>mR he ((nD gZ jr).2 nM (by simp[kb])).2
theorem Ir(w:World):Calls qq 11 #[.agg (av eI dS).toArray] w fun e w'=>e=.returned (.tuple #[.slice none 0 0,.int .i64 1])∧Below w.heap.size w w' :=
 (mr (eC.zero w w.heap.size).held).mono fun e w' he=>⟨he.2.1 zo,he.1⟩
theorem Et(A:Option Addr)(n c:Nat)(l:List UInt8)(w:World)(hn:n=l.length)(hb:BS w w.heap.size A l)(hl:n≤15000000)(hc:n≤c)(S:cE)(m f:Nat)(zm zf:Int)(hr:bW l=(S,m,f))(hm:(m:Int)=zm)(hf:(f:Int)=zf) :
  Calls qq 18 #[.slice A n c] w fun e w'=>∃x xs,e=.returned (.tuple #[.agg (av x S).toArray,.int .i64 zm,.int .i64 zf])∧fk w' w'.heap.size x xs S∧Below w.heap.size w w':=by
 subst hf hm;refine (qw A n c l w hn hb hl hc).mono ?_;rintro e w' ⟨hb2,x,xs,rfl,ho⟩;rw[hr] at ho ⊢;exact⟨x,xs,rfl,ho.held,hb2⟩
theorem Ig{x y:jY}{xs ys:List (ek×dI)}{S T:cE}(hS:S=kb)(hT:T=kb){w:World}(hx:fk w w.heap.size x xs S)(hy:fk w w.heap.size y ys T):Calls qq 19 #[.agg (av x S).toArray,.agg (av y T).toArray] w fun e w'=>e=.returned (.bool true)∧Below w.heap.size w w':=by
 subst hS hT;have:=nX hx hy;rwa [Es] at this
theorem Eu{x:jY}{xs:List (ek×dI)}{S:cE}(hS:S=kb){w:World}(hx:fk w w.heap.size x xs S):Calls qq 13 #[.agg (av x S).toArray] w fun e w'=>e=.returned (.bool true)∧Below w.heap.size w w':=by
 subst hS;have:=iY hx;rwa [jr] at this
theorem zq:qq.built 40 []=some (av eI dS).toArray:=by kernel_rfl
theorem FO(w:World):Calls qq 21 #[.int .i64 12,.int .i64 1] w fun e w'=>e=.returned (.tuple #[.string ⟨#[48,48,48,48,49,50,46,108,111,103]⟩,.bool true])∧Below w.heap.size w w':=by
 have:=qy 12 1 w;rwa [GR] at this
theorem Ev(w:World):Calls qq 21 #[.int .i64 1000000,.int .i64 1] w fun e w'=>e=.returned (.tuple #[.string ⟨#[]⟩,.bool false])∧Below w.heap.size w w':=by
 have:=qy 1000000 1 w;rwa [FN] at this
theorem FP(w:World):Calls qq 23 #[.string ⟨#[48,48,48,48,49,50,46,99,97,112]⟩] w fun e w'=>e=.returned (.tuple #[.int .i64 12,.int .i64 2,.bool true])∧Below w.heap.size w w':=by
 have:=nY [48,48,48,48,49,50,46,99,97,112] (by decide) w;rwa [GS] at this
theorem FQ(w:World):Calls qq 23 #[.string ⟨#[49,50,46,99,97,112]⟩] w fun e w'=>e=.returned (.tuple #[.int .i64 0,.int .i64 0,.bool false])∧Below w.heap.size w w':=by
 have:=nY [49,50,46,99,97,112] (by decide) w;rwa [GT] at this
