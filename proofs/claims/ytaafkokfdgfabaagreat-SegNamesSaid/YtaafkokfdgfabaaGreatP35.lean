import Derived.Test.YtaafkokfdgfabaaGreatP13
import Derived.Test.YtaafkokfdgfabaaGreatP23
import Derived.Test.YtaafkokfdgfabaaGreatP30
import Derived.Test.YtaafkokfdgfabaaGreatP31
import Derived.Test.YtaafkokfdgfabaaGreatP32
import Derived.Test.YtaafkokfdgfabaaGreatP34
set_option maxHeartbeats 8000000
namespace Go.Proofs.YtaafkokfdgfabaaGreat
open Go.RowKit
set_option linter.unusedVariables false
set_option linter.unusedSimpArgs false
def n8 (p q:ob):Bool:=p.version == q.version && uo bv p.backs q.backs
def nz (a b:bq):Bool:=n8 a.pool b.pool && (uo gN a.healths b.healths && (uo jD a.flows b.flows && (a.tick == b.tick && (a.no == b.no && a.count == b.count))))
set_option maxRecDepth 100000 in
theorem sd (A:Option Addr) (n c:Nat) (p:ob) (A':Option Addr) (n' c':Nat) (q:ob) (w:World) (hn:n=p.backs.length) (hn':n'=q.backs.length) (hnc:n≤c) (hnc':n'≤c') (ha:RW ae 27 w w.heap.size A p.backs) (hb:RW ae 27 w w.heap.size A' q.backs) (hl:n≤1000000) (hl':n'≤1000000) (hs:∀ b ∈ p.backs,ar b) (hs2:∀ b ∈ q.backs,ar b) :
  Calls Tryz.prog 107 #[.agg (kO A n c p).toArray,.agg (kO A' n' c' q).toArray] w fun e w'=>e=.returned (.bool (n8 p q))∧Below w.heap.size w w':=by
 obtain ⟨W1,W,HW1,HW,Hs1,HX,HY,HB⟩:=kR w 32 32 (kO A n c p).toArray (kO A' n' c' q).toArray;have HA:=Lib.hid ((ha.below HB.out).more HB.out.size);have HA':=Lib.hid ((hb.below HB.out).more HB.out.size);have Hn:=Lib.hid hn;have Hn':=Lib.hid hn';have Hs:=Lib.hid hs;have Hs2:=Lib.hid hs2;have b0:W.cell? ⟨w.heap.size,0,none⟩=some (.int .i64 p.version):=HX.out.cell 0;have b1:W.cell? ⟨w.heap.size,1,none⟩=some (.slice A n c):=HX.out.cell 1;have d0:W.cell? ⟨w.heap.size + 1,0,none⟩=some (.int .i64 q.version):=HY.out.cell 0;have d1:W.cell? ⟨w.heap.size + 1,1,none⟩=some (.slice A' n' c'):=HY.out.cell 1;have l0:w.heap.size<W.heap.size:=HX.out.lt;have l1:w.heap.size + 1<W.heap.size:=HY.out.lt;obtain ⟨r,hr⟩:∃ r,r=n8 p q:=⟨_,rfl⟩
 rw [←hr];have Hr:=Lib.hid hr;clear ha hb hn hn' hs hs2 hr;go_enter Tryz.func107,Tryz.ntmps107
 go_upto_region 1 with fail
 rw [←HW1.out,←HW.out];obtain ⟨T,hT⟩:∃ T,T=((p.version != q.version) || ((n:Int) != (n':Int))):=⟨_,rfl⟩
 refine Sd.plain ?_
 repeat ((first | refine po ?_ | refine gp ?_ | refine pt ?_);simp only [ld,lg,lf,Nat.reduceAdd])
 rw [←hT];refine Sd.done fun w2 hb2=>?_
 have Hb2:=Lib.hid hb2;have HT:=Lib.hid hT;clear hb2 hT HW HW1;rcases T with _ | _
 rotate_left
 ·have hf:Hid (r=false):=by
   show _=_
   rw [Hr.out];have:=HT.out;unfold n8;rcases hv:(p.version == q.version) with _ | _
   ·rfl
   ·rw [ny,Bool.and_false]
    rw [←Hn.out,←Hn'.out];intro e;rw [e] at this;simp [bne,hv] at this
  go_wp2
  go_ret
  exact ⟨by rw [hf.out];rfl,HB.out.trans (Hb2.out.mono HB.out.size)⟩
 have hq:(p.version == q.version)=true∧n=n':=by
  have:=HT.out;simp only [Bool.false_eq,Bool.or_eq_false_iff,bne_eq_false_iff_eq] at this;exact ⟨by simp [this.1],by omega⟩
 obtain ⟨hver,rfl⟩:=hq;have Hver:=Lib.hid hver;clear hver HT
 go_wp2
 go_loopw [5] (fun i wr=>∃ k:Nat,k≤n∧i=.int .i64 (k:Int)∧Hid (Below W.heap.size W wr)∧Hid (∀ (i:Nat) a b,i<k→p.backs[i]?=some a→q.backs[i]?=some b→bv a b=true)) (fun i _=>n - (intOf i).toNat)
 case atStart=>exact ⟨0,by omega,rfl,Hb2,fun i a b h=>absurd h (by omega)⟩
 case round =>
  obtain ⟨k,hk,rfl,hbel,hat⟩:=hrel;rename World=>wr
  have r1:=(dC hbel.out _ 1 l0).trans b1;have s1:=(dC hbel.out _ 1 l1).trans d1;by_cases hlt:k<n
  ·have hltI:(k:Int)<(n:Int):=by omega
   have hk0:(0:Int)≤(k:Int):=by omega
   obtain ⟨c1,o1,rfl,hb1,hc1⟩:=(HA.out.below hbel.out) (by rw [←Hn.out];omega);obtain ⟨c2,o2,rfl,hb2,hc2⟩:=(HA'.out.below hbel.out) (by rw [←Hn'.out];omega);obtain ⟨x,hx⟩:∃ x,p.backs[k]?=some x:=⟨_,List.getElem?_eq_getElem (by rw [←Hn.out];exact hlt)⟩
   obtain ⟨y,hy⟩:∃ y,q.backs[k]?=some y:=⟨_,List.getElem?_eq_getElem (by rw [←Hn'.out];exact hlt)⟩
   have Hx:=Lib.hid (hc1 k x hx);have Hy:=Lib.hid (hc2 k y hy);have m1:c1<wr.heap.size:=Nat.lt_of_lt_of_le hb1 hbel.out.size;have m2:c2<wr.heap.size:=Nat.lt_of_lt_of_le hb2 hbel.out.size;have m3:w.heap.size<wr.heap.size:=Nat.lt_of_lt_of_le l0 hbel.out.size;have m4:w.heap.size + 1<wr.heap.size:=Nat.lt_of_lt_of_le l1 hbel.out.size;have Hxo:=Lib.hid (Hs.out x (List.mem_of_getElem? hx));have Hyo:=Lib.hid (Hs2.out y (List.mem_of_getElem? hy));have Hno:Hid (bv x y=false→r=false):=fun h=>by rw [Hr.out];unfold n8;rw [p6 k hx hy h,Bool.and_false]
   have Hyes:Hid (bv x y=true→∀ (i:Nat) a b,i<k + 1→p.backs[i]?=some a→q.backs[i]?=some b→bv a b=true):=fun h i a b hi ha hb=>by
    rcases Nat.lt_or_ge i k with h1 | h1
    ·exact hat.out i a b h1 ha hb
    ·obtain rfl:i=k:=by omega
     rw [hx] at ha;rw [hy] at hb;injection ha with ha
     injection hb with hb
     rw [←ha,←hb];exact h
   clear hc1 hc2 hx hy hat b1 d1;go_upto_region 6 with fail
   refine Sd.start ?_
   repeat ((first | refine sl Hx.out m1 bL (by rw [bn Hxo.out];exact nL) ?_ | refine sl Hy.out m2 bL (by rw [bn Hyo.out];exact nL) ?_ | refine cl (fun u hu=>oc x y Hxo.out Hyo.out u) ?_ | refine pt ?_);simp only [ld,lg,lf,Nat.reduceAdd])
   refine Sd.done fun w3 hb3=>?_
   have Hb3:=Lib.hid (hbel.out.trans (hb3.mono hbel.out.size));clear hb3 hbel r1 s1;rcases hv:bv x y with _ | _
   ·have hf:=Lib.hid (Hno.out hv)
    simp only [hv,Bool.not_false];clear hv
    go_wp2
    go_ret
    exact ⟨by rw [hf.out];rfl,HB.out.trans (Hb3.out.mono HB.out.size)⟩
   ·have hf:=Lib.hid (Hyes.out hv)
    simp only [hv,Bool.not_true];clear hv
    go_wp2
    go_roundw
    case rel=>exact ⟨k + 1,by omega,by go_num,Hb3,hf⟩
    case measure=>simp [intOf];omega
  ·have hltI:¬ (k:Int)<(n:Int):=by omega
   have hf:Hid (r=true):=by
    show _=_
    rw [Hr.out];unfold n8;rw [Hver.out,Bool.true_and];exact p5 (Hn.out.symm.trans Hn'.out) fun i a b ha hb=>hat.out i a b (by have:=(List.getElem?_eq_some_iff.1 ha).1;rw [←Hn.out] at this;omega) ha hb
   go_wp2
   go_ret
   exact ⟨by rw [hf.out];rfl,HB.out.trans (hbel.out.mono HB.out.size)⟩
theorem Da {P:Program} {op:Oper} {a:Act} {ty tz:TypeId} {x y:Operand} (xs ys:Array Value) (r:Bool) (w:World) (hm:P.eqGuardType P.depth ty=false) (he:(Op.equalIn 10000 ty (.agg xs) (.agg ys)).run P w=.ok r w) (ho:op.op=.binOp .eql ty x y tz) (hx:a.eval x=.agg xs) (hy:a.eval y=.agg ys):(execOp a.eval op).run P w=.ok (.value (.bool r)) w:=by
 unfold execOp;simp only [ho,hx,hy,Sem.run_bind,run_eqGuard_agg w _ _ _ _ _ _ hm,Result.andThen_ok,run_eql_struct,he,Sem.run_pure]
theorem qV:Tryz.prog.underlying 35=some (.array 11 3):=Tryz.underlying35
theorem uf:(Tryz.prog.info? 35).map (·.size)=some 11:=by kernel_rfl
theorem zy:Tryz.prog.eqGuardType Tryz.prog.depth 35=false:=by kernel_rfl
set_option maxRecDepth 100000 in
theorem qj (x:mL) (s:bq) (y:mL) (t:bq) (w:World) (hs:lI w w.heap.size x s) (ht:lI w w.heap.size y t) :
  Calls Tryz.prog 48 #[.agg (dd x s).toArray,.agg (dd y t).toArray] w fun e w'=>e=.returned (.bool (nz s t))∧Below w.heap.size w w':=by
 obtain ⟨W1,W,HW1,HW,Hs1,HX,HY,HB⟩:=kR w 37 37 (dd x s).toArray (dd y t).toArray;have HS:=Lib.hid (hs.on HB.out);have HT:=Lib.hid (ht.on HB.out);have a1:W.cell? ⟨w.heap.size,2,none⟩=some (.slice x.h s.healths.length x.ch):=HX.out.cell 2;have a2:W.cell? ⟨w.heap.size,3,none⟩=some (.slice x.f s.flows.length x.cf):=HX.out.cell 3;have a3:W.cell? ⟨w.heap.size,4,none⟩=some (.int .i64 s.tick):=HX.out.cell 4;have a4:W.cell? ⟨w.heap.size,5,none⟩=some (.int .i64 s.no):=HX.out.cell 5;have b1:W.cell? ⟨w.heap.size + 1,2,none⟩=some (.slice y.h t.healths.length y.ch):=HY.out.cell 2;have b2:W.cell? ⟨w.heap.size + 1,3,none⟩=some (.slice y.f t.flows.length y.cf):=HY.out.cell 3;have b3:W.cell? ⟨w.heap.size + 1,4,none⟩=some (.int .i64 t.tick):=HY.out.cell 4;have b4:W.cell? ⟨w.heap.size + 1,5,none⟩=some (.int .i64 t.no):=HY.out.cell 5;have l0:w.heap.size<W.heap.size:=HX.out.lt;have l1:w.heap.size + 1<W.heap.size:=HY.out.lt;have Hc1:=Lib.hid HS.out.ok.count;have Hc2:=Lib.hid HT.out.ok.count;have hcs:(s.count.map zv).length=11:=by rw [List.length_map];exact Hc1.out
 have hct:(t.count.map zv).length=11:=by rw [List.length_map];exact Hc2.out
 have Hcs:=Lib.hid hcs;have Hct:=Lib.hid hct;clear hs ht hcs hct;go_enter Tryz.func48,Tryz.ntmps48
 go_upto_region 1 with fail
 rw [←HW1.out,←HW.out];refine Sd.plain ?_
 repeat ((first
  | refine pa ?_
  | refine sl (oL HX.out) l0 kt lD ?_
  | refine sl (oL HY.out) l1 kt lD ?_
  | refine gs (nq HX.out) l0 qV (by rw [Hcs.out];exact uf) ?_
  | refine gs (nq HY.out) l1 qV (by rw [Hct.out];exact uf) ?_
  | refine cl (fun u hu=>sd x.b s.pool.backs.length x.cb s.pool y.b t.pool.backs.length y.cb t.pool u rfl rfl HS.out.cb.1 HT.out.cb.1 (HS.out.on hu).held.backs (HT.out.on hu).held.backs HS.out.cb.2 HT.out.cb.2 HS.out.ok.backs HT.out.ok.backs) ?_
  | refine gc (fun u hu=>r9 x.h s.healths.length x.ch s.healths y.h t.healths.length y.ch t.healths u rfl rfl HS.out.ch.1 HT.out.ch.1 (HS.out.on hu).held.healths (HT.out.on hu).held.healths HS.out.ch.2 HT.out.ch.2) ?_
  | refine gc (fun u hu=>sc x.f s.flows.length x.cf s.flows y.f t.flows.length y.cf t.flows u rfl rfl HS.out.cf.1 HT.out.cf.1 (HS.out.on hu).held.flows (HT.out.on hu).held.flows HS.out.cf.2 HT.out.cf.2 HS.out.ok.flows HT.out.ok.flows) ?_
  | refine gp ?_ | refine pt ?_);simp only [ld,lg,lf,Nat.reduceAdd])
 refine gp (v:=.bool (s.count == t.count)) ?_ (hv:=?_);rotate_left
 ·intro hb u _
  simp only [kQ hb];exact Da _ _ _ u zy (j0 (P:=Tryz.prog) u 9998 35 3 11 Tryz.underlying35 Tryz.underlying3 gw s.count t.count Hc1.out Hc2.out) rfl rfl rfl
 simp only [ld,lg,lf,Nat.reduceAdd]
 repeat ((first | refine pa ?_ | refine pt ?_);simp only [ld,lg,lf,Nat.reduceAdd])
 refine Sd.done fun w2 hb2=>?_
 have Hb2:=Lib.hid hb2;clear hb2
 go_wp2
 go_ret
 exact ⟨by simp only [nz,Bool.and_assoc];rfl,HB.out.trans (Hb2.out.mono HB.out.size)⟩
end Go.Proofs.YtaafkokfdgfabaaGreat
namespace Go.Proofs.YtaafkokfdgfabaaGreat
open Go.RowKit
set_option linter.unusedVariables false
set_option linter.unusedSimpArgs false
def kz (a b:cO):Bool:=oa a.conf b.conf && (a.first == b.first && (a.lost == b.lost && (nz a.st b.st && uo iH a.evs b.evs)))
set_option maxRecDepth 100000 in
theorem qk {x:kX} {xs:List (fL × dR)} {s:cO} {y:kX} {ys:List (fL × dR)} {t:cO} {w:World} (hx:fY w w.heap.size x xs s) (hy:fY w w.heap.size y ys t) :
  Calls Tryz.prog 19 #[.agg (ay x s).toArray,.agg (ay y t).toArray] w fun e w'=>e=.returned (.bool (kz s t))∧Below w.heap.size w w':=by
 obtain ⟨W1,W,HW1,HW,Hs1,HX,HY,HB⟩:=kR w 40 40 (ay x s).toArray (ay y t).toArray;have HS:=Lib.hid (hx.on HB.out);have HT:=Lib.hid (hy.on HB.out);have Hsh:=Lib.hid hx.sh;have Hth:=Lib.hid hy.sh;obtain ⟨n,hn⟩:∃ n,n=s.evs.length:=⟨_,rfl⟩
 obtain ⟨n',hn'⟩:∃ n,n=t.evs.length:=⟨_,rfl⟩
 have Hnx:Hid (n=xs.length):=by show _=_;rw [hn,hx.len]
 have Hny:Hid (n'=ys.length):=by show _=_;rw [hn',hy.len]
 have Hn:=Lib.hid hn;have Hn':=Lib.hid hn';have a0:W.cell? ⟨w.heap.size,54,none⟩=some (.int .i64 s.first):=fR hx.sh HX.out 0;have a1:W.cell? ⟨w.heap.size,55,none⟩=some (.int .i64 s.lost):=fR hx.sh HX.out 1;have a2:W.cell? ⟨w.heap.size,73,none⟩=some (.slice x.e n x.ce):=by rw [hn];exact nW hx.sh HX.out
 have b0:W.cell? ⟨w.heap.size + 1,54,none⟩=some (.int .i64 t.first):=fR hy.sh HY.out 0;have b1:W.cell? ⟨w.heap.size + 1,55,none⟩=some (.int .i64 t.lost):=fR hy.sh HY.out 1;have b2:W.cell? ⟨w.heap.size + 1,73,none⟩=some (.slice y.e n' y.ce):=by rw [hn'];exact nW hy.sh HY.out
 have l0:w.heap.size<W.heap.size:=HX.out.lt;have l1:w.heap.size + 1<W.heap.size:=HY.out.lt;have hnc:n≤x.ce:=by rw [hn];exact hx.ce.1
 have hnc':n'≤y.ce:=by rw [hn'];exact hy.ce.1
 have hnl:n≤1000000:=by rw [hn];exact hx.ce.2
 have hnl':n'≤1000000:=by rw [hn'];exact hy.ce.2
 have Hsz:=Lib.hid (fx (x:=x) hx.sh);obtain ⟨r,hr⟩:∃ r,r=kz s t:=⟨_,rfl⟩
 rw [←hr];have Hr:=Lib.hid hr;have He:Hid (∀ (i:Nat) (p q:fL × dR),xs[i]?=some p→ys[i]?=some q→s.evs[i]?=some p.2∧t.evs[i]?=some q.2):=fun i p q h1 h2=>by
  rw [hx.ev,hy.ev,List.getElem?_map,List.getElem?_map,h1,h2];exact ⟨rfl,rfl⟩
 clear hx hy hn hn' hr;go_enter Tryz.func19,Tryz.ntmps19
 go_upto_region 1 with fail
 rw [←HW1.out,←HW.out];obtain ⟨T,hT⟩:∃ T,T=(!oa s.conf t.conf || s.first != t.first || s.lost != t.lost || !nz s.st t.st || (n:Int) != (n':Int)):=⟨_,rfl⟩
 refine Sd.plain ?_
 repeat ((first
  | refine po ?_
  | refine sl (nt Hsh.out HX.out) l0 fq (by rw [dW Hsh.out.conf];exact dl) ?_
  | refine sl (nt Hth.out HY.out) l1 fq (by rw [dW Hth.out.conf];exact dl) ?_
  | refine gs (pQ Hsh.out HX.out) l0 ft (nr Hsh.out.st) ?_
  | refine gs (pQ Hth.out HY.out) l1 ft (nr Hth.out.st) ?_
  | refine cl (fun u hu=>uc x.v s.conf.vips.length x.cv s.conf y.v t.conf.vips.length y.cv t.conf Hsh.out.conf Hth.out.conf u rfl rfl ((HS.out.on hu).vs) ((HT.out.on hu).vs) HS.out.cv.2 HT.out.cv.2) ?_
  | refine gc (fun u hu=>qj x.st s.st y.st t.st u (HS.out.on hu).st (HT.out.on hu).st) ?_
  | refine gp ?_ | refine pt ?_);simp only [ld,lg,lf,Nat.reduceAdd])
 rw [←hT];refine Sd.done fun w2 hb2=>?_
 have Hb2:=Lib.hid hb2;have HQ:=Lib.hid hT;clear hb2 hT HW HW1;rcases T with _ | _
 rotate_left
 ·have hf:Hid (r=false):=by
   show _=_
   rw [Hr.out];have h1:=HQ.out.symm;rcases hv:kz s t with _ | _
   ·rfl
   ·unfold kz at hv
    simp only [Bool.and_eq_true,beq_iff_eq] at hv;obtain ⟨c1,c2,c3,c4,c5⟩:=hv;have c6:n=n':=Decidable.by_contra fun h=>by
     rw [ny (by rw [←Hn.out,←Hn'.out];exact h)] at c5;exact Bool.noConfusion c5
    simp [c1,c2,c3,c4,c6] at h1
  go_wp2
  go_ret
  exact ⟨by rw [hf.out];rfl,HB.out.trans (Hb2.out.mono HB.out.size)⟩
 have hq:(oa s.conf t.conf=true∧s.first=t.first∧s.lost=t.lost∧nz s.st t.st=true)∧n=n':=by
  have h1:=HQ.out;simp only [Bool.false_eq,Bool.or_eq_false_iff,bne_eq_false_iff_eq,Bool.not_eq_false'] at h1;obtain ⟨⟨⟨⟨c1,c2⟩,c3⟩,c4⟩,c5⟩:=h1;exact ⟨⟨c1,c2,c3,c4⟩,by omega⟩
 obtain ⟨hver,rfl⟩:=hq;have Hver:=Lib.hid hver;clear hver HQ
 go_wp2
 go_loopw [5] (fun i wr=>∃ k:Nat,k≤n∧i=.int .i64 (k:Int)∧Hid (Below W.heap.size W wr)∧Hid (∀ (i:Nat) a b,i<k→s.evs[i]?=some a→t.evs[i]?=some b→iH a b=true)) (fun i _=>n - (intOf i).toNat)
 case atStart=>exact ⟨0,by omega,rfl,Hb2,fun i a b h=>absurd h (by omega)⟩
 case round =>
  obtain ⟨k,hk,rfl,hbel,hat⟩:=hrel;rename World=>wr
  have r2:=(dC hbel.out _ 73 l0).trans a2;have s2:=(dC hbel.out _ 73 l1).trans b2;by_cases hlt:k<n
  ·have hltI:(k:Int)<(n:Int):=by omega
   have hk0:(0:Int)≤(k:Int):=by omega
   obtain ⟨c1,o1,h1,hb1,hc1⟩:=(HS.out.evs.below hbel.out) (by rw [←Hnx.out];omega);obtain ⟨c2,o2,h2,hb2,hc2⟩:=(HT.out.evs.below hbel.out) (by rw [←Hny.out];omega);rw [h1] at r2;rw [h2] at s2;obtain ⟨p,hp⟩:∃ p,xs[k]?=some p:=⟨_,List.getElem?_eq_getElem (by rw [←Hnx.out];exact hlt)⟩
   obtain ⟨q,hq⟩:∃ q,ys[k]?=some q:=⟨_,List.getElem?_eq_getElem (by rw [←Hny.out];exact hlt)⟩
   have Hp:=Lib.hid (hc1 k p hp);have Hq:=Lib.hid (hc2 k q hq);have m1:c1<wr.heap.size:=Nat.lt_of_lt_of_le hb1 hbel.out.size;have m2:c2<wr.heap.size:=Nat.lt_of_lt_of_le hb2 hbel.out.size;have m3:w.heap.size<wr.heap.size:=Nat.lt_of_lt_of_le l0 hbel.out.size;have m4:w.heap.size + 1<wr.heap.size:=Nat.lt_of_lt_of_le l1 hbel.out.size;have Hpo:=Lib.hid (HS.out.shp (List.mem_of_getElem? hp));have Hqo:=Lib.hid (HT.out.shp (List.mem_of_getElem? hq));have Hpf:=Lib.hid ((HS.out.on hbel.out).fr p (List.mem_of_getElem? hp));have Hqf:=Lib.hid ((HT.out.on hbel.out).fr q (List.mem_of_getElem? hq));have Hpq:=Lib.hid (He.out k p q hp hq);have Hno:Hid (iH p.2 q.2=false→r=false):=fun h=>by
    rw [Hr.out];unfold kz;rw [p6 k Hpq.out.1 Hpq.out.2 h];simp only [Bool.and_false]
   have Hyes:Hid (iH p.2 q.2=true→∀ (i:Nat) a b,i<k + 1→s.evs[i]?=some a→t.evs[i]?=some b→iH a b=true):=fun h i a b hi ha hb=>by
    rcases Nat.lt_or_ge i k with h1 | h1
    ·exact hat.out i a b h1 ha hb
    ·obtain rfl:i=k:=by omega
     rw [Hpq.out.1] at ha;rw [Hpq.out.2] at hb;injection ha with ha
     injection hb with hb
     rw [←ha,←hb];exact h
   clear hc1 hc2 hp hq hat a2 b2 h1 h2;go_upto_region 6 with fail
   refine Sd.start ?_
   repeat ((first | refine sl Hp.out m1 eT (kY Hpo.out) ?_ | refine sl Hq.out m2 eT (kY Hqo.out) ?_ | refine cl (fun u hu=>ry p.1.f p.1.cf p.1.o p.1.co p.2 q.1.f q.1.cf q.1.o q.1.co q.2 Hpo.out Hqo.out u ((Hpf.out.1.below hu).more hu.size) ((Hqf.out.1.below hu).more hu.size) ((Hpf.out.2.below hu).more hu.size) ((Hqf.out.2.below hu).more hu.size)) ?_ | refine pt ?_);simp only [ld,lg,lf,Nat.reduceAdd])
   refine Sd.done fun w3 hb3=>?_
   have Hb3:=Lib.hid (hbel.out.trans (hb3.mono hbel.out.size));clear hb3 hbel r2 s2;rcases hv:iH p.2 q.2 with _ | _
   ·have hf:=Lib.hid (Hno.out hv)
    simp only [hv,Bool.not_false];clear hv
    go_wp2
    go_ret
    exact ⟨by rw [hf.out];rfl,HB.out.trans (Hb3.out.mono HB.out.size)⟩
   ·have hf:=Lib.hid (Hyes.out hv)
    simp only [hv,Bool.not_true];clear hv
    go_wp2
    go_roundw
    case rel=>exact ⟨k + 1,by omega,by go_num,Hb3,hf⟩
    case measure=>simp [intOf];omega
  ·have hltI:¬ (k:Int)<(n:Int):=by omega
   have hf:Hid (r=true):=by
    show _=_
    rw [Hr.out];unfold kz;rw [Hver.out.1,Hver.out.2.1,Hver.out.2.2.1,Hver.out.2.2.2,beq_self_eq_true,beq_self_eq_true,Bool.true_and,Bool.true_and,Bool.true_and,Bool.true_and];exact p5 (Hn.out.symm.trans Hn'.out) fun i a b ha hb=>hat.out i a b (by have:=(List.getElem?_eq_some_iff.1 ha).1;rw [←Hn.out] at this;omega) ha hb
   go_wp2
   go_ret
   exact ⟨by rw [hf.out];rfl,HB.out.trans (hbel.out.mono HB.out.size)⟩
end Go.Proofs.YtaafkokfdgfabaaGreat
namespace Go.Proofs.YtaafkokfdgfabaaGreat
open Go.RowKit
set_option linter.unusedVariables false
set_option linter.unusedSimpArgs false
theorem D6 {s:cO} (hs:bA s) (h:iq s=true):(cU s).length≤1048576∧(eR s.st).length≤1048576:=by
 have h1:=pX hs h;have h2:=cL (cU s);have h3:=cL (eR s.st);unfold dc at h1;rw [List.length_append] at h1;omega
theorem vQ {b x y:List UInt8} {n m:Nat} {h:cO} {st:bq} (n1:aP b=(x,n,0)) (g1:fp x=some h) (n2:aP (b.drop n)=(y,m,0)) (g2:gT y=some st) (hb:iq { h with st:=st }=true) :
  bu b=({ h with st:=st,evs:=(ed (b.drop (n + m))).1 },n + m + (ed (b.drop (n + m))).2.1,(ed (b.drop (n + m))).2.2):=by
 unfold bu;rw [n1];simp only [ne_eq,not_true,if_false,g1,n2,g2,hb,if_true]
theorem ug {s:cO} (hs:bA s) (h:iq s=true) (m:List UInt8):bu (dc s ++ m)=({ s with evs:=(ed m).1 },(dc s).length + (ed m).2.1,(ed m).2.2):=by
 have hb:=D6 hs h;obtain ⟨he,hsn,hf,hl⟩:=pW h;have n1:aP (dc s ++ m)=(cU s,(dG (cU s)).length,0):=by unfold dc;rw [List.append_assoc];exact nc hb.1 _
 have d1:(dc s ++ m).drop (dG (cU s)).length=dG (eR s.st) ++ m:=by unfold dc;rw [List.append_assoc,List.drop_left]
 have n2:=nc hb.2 m;rw [←d1] at n2;have hlen:(dc s).length=(dG (cU s)).length + (dG (eR s.st)).length:=by unfold dc;rw [List.length_append]
 have d2:(dc s ++ m).drop ((dG (cU s)).length + (dG (eR s.st)).length)=m:=by rw [←hlen,List.drop_left]
 have g1:fp (cU s)=_:=Ez hs.conf (fX.1 (np.1 he).conf) hf ⟨hl.1,by omega⟩;have h1:=vQ n1 g1 n2 (vf hs.st hsn) h;rw [d2,←hlen] at h1;exact h1
theorem nA {s:cO} (hs:bA s) (h:lJ s=true):iq s=true∧∀ e ∈ s.evs,aH e∧aO e=true:=by
 unfold lJ at h;rw [Bool.and_eq_true,List.all_eq_true] at h;exact ⟨h.2,fun e he=>⟨hs.evs e he,h.1 e he⟩⟩
def vR (s:cO):cO:={ s with evs:=s.evs.map jj }
theorem BW {s:cO} (hs:bA s) (h:lJ s=true) (m:List UInt8):bu (cB s ++ m)=({ s with evs:=s.evs.map jj ++ (ed m).1 },(cB s).length + (ed m).2.1,(ed m).2.2):=by
 obtain ⟨hb,he⟩:=nA hs h;unfold cB;rw [List.append_assoc,ug hs hb,Du _ he,List.length_append,Nat.add_assoc]
theorem BX {s:cO} (hs:bA s) (h:lJ s=true):bu (cB s)=(vR s,(cB s).length,0):=by
 have h1:=BW hs h [];rw [List.append_nil,pG,List.append_nil] at h1;exact h1
theorem zA {s:cO} (hs:bA s) (h:lJ s=true) {j:Nat} (h1:(dc s).length≤j) (h2:j<(cB s).length) :
  ∃ k,k<s.evs.length∧(dc s).length + ((s.evs.take k).flatMap ca).length≤j∧j<(dc s).length + ((s.evs.take (k + 1)).flatMap ca).length ∧
   bu ((cB s).take j)=({ s with evs:=(s.evs.take k).map jj },(dc s).length + ((s.evs.take k).flatMap ca).length,if j=(dc s).length + ((s.evs.take k).flatMap ca).length then 0 else 2):=by
 obtain ⟨hb,he⟩:=nA hs h;have hl:(cB s).length=(dc s).length + (s.evs.flatMap ca).length:=by unfold cB;rw [List.length_append]
 obtain ⟨k,k1,k2,k3,k4⟩:=xg s.evs he (j - (dc s).length) (by omega);refine ⟨k,k1,by omega,by omega,?_⟩;have et:(cB s).take j=dc s ++ (s.evs.flatMap ca).take (j - (dc s).length):=by
  unfold cB;rw [List.take_append,List.take_of_length_le h1]
 rw [et,ug hs hb,k4];simp only [Prod.mk.injEq,true_and];by_cases hq:j - (dc s).length=((s.evs.take k).flatMap ca).length
 ·rw [if_pos hq,if_pos (by omega)]
 ·rw [if_neg hq,if_neg (by omega)]
end Go.Proofs.YtaafkokfdgfabaaGreat
namespace Go.Proofs.YtaafkokfdgfabaaGreat
open Go.RowKit
set_option linter.unusedVariables false
set_option linter.unusedSimpArgs false
theorem vS (e:dR):11≤(bG e).length:=by
 have h1:=ii e.o.version.toNat;have h2:=ii e.o.name.length;have h3:=ii e.len.toNat;simp only [bG,aV,bC,List.length_append,av,cJ];omega
theorem Db {l body:List UInt8} {n:Nat} {f:dR} (h:aP l=(body,n,0)) (hf:ec body=some f):16≤n∧n≤l.length:=by
 obtain ⟨m,j,_,h2,h3,h4,_,h6,h7,h8⟩:=tj h;have:=vS f;rw [←(yx.1 hf).1] at this;omega
theorem zB {l:List UInt8} {h:cO} (hh:fp l=some h):h.st=cA∧h.evs=[]∧gJ h.conf∧ap h.conf:=by
 unfold fp at hh;split at hh
 ·split at hh
  ·rename_i c hc
   split at hh
   ·injection hh with hh
    obtain ⟨_,c2,c3⟩:=ou.1 hc;rw [←hh];exact ⟨rfl,rfl,c2,c3⟩
   ·cases hh
  ·cases hh
 ·cases hh
theorem zC {x:kX} {h:cO} {y:mL} {st:bq} (hs:bA h) (hst:hM st):lW (ay x h).toArray 56 (dd y st)=(ay { x with st:=y } { h with st:=st }).toArray:=by
 have h1:=dW (A:=x.v) (n:=h.conf.vips.length) (c:=x.cv) hs.conf;have h2:=ka (x:=x.st) hs.st;have h3:=ka (x:=y) hst;rw [f9 _ _ _ (by rw [h3,dJ hs];decide),h3];have e:ay x h=(ai x.v h.conf.vips.length x.cv h.conf ++ [zv h.first,zv h.lost]) ++ (dd x.st h.st ++ [.slice x.e h.evs.length x.ce]):=by simp [ay]
 rw [e,List.take_left' (by simp [h1]),show 56 + 17=56 + 17 from rfl,←List.drop_drop,List.drop_left' (by simp [h1]),List.drop_left' h2];simp [ay]
theorem lH {x:kX} {h:cO} (hs:bA h) {w:World} {g:Nat} {T:TypeId} (hb:ah w g T (ay x h).toArray):w.cell? ⟨g,73,none⟩=some (.slice x.e h.evs.length x.ce)∧w.frozen? ⟨g,73,none⟩=false ∧
  ∀ (A:Option Addr) (c:Nat) (f:dR),ah (w.setCell ⟨g,73,none⟩ (.slice A (h.evs.length + 1) c)) g T (ay { x with e:=A,ce:=c } { h with evs:=h.evs ++ [f] }).toArray:=by
 have h1:=dW (A:=x.v) (n:=h.conf.vips.length) (c:=x.cv) hs.conf;have h2:=ka (x:=x.st) hs.st;obtain ⟨a,b,k⟩:=kw (n:=73) (pre:=ai x.v h.conf.vips.length x.cv h.conf ++ (zv h.first :: zv h.lost :: dd x.st h.st)) (u:=.slice x.e h.evs.length x.ce) (post:=[]) hb (by simp [ay]) (by simp [h1,h2]);refine ⟨a,b,fun A c f=>?_⟩;have e:ay { x with e:=A,ce:=c } { h with evs:=h.evs ++ [f] }=(ai x.v h.conf.vips.length x.cv h.conf ++ (zv h.first :: zv h.lost :: dd x.st h.st)) ++ .slice A (h.evs.length + 1) c :: []:=by simp [ay]
 rw [e];exact k _
structure Dc (w wr:World) (bs:Nat) (x:kX) (xs:List (fL × dR)) (s:cO):Prop where
 res:ah wr w.heap.size 40 (ay dM cV).toArray
 box:ah wr bs 40 (ay x s).toArray
 own:ea wr w.heap.size x xs s
 bel:Below w.heap.size w wr
 ne:w.heap.size≠bs∧w.heap.size≤bs
section
variable {w wr w':World} {bs:Nat} {x:kX} {xs:List (fL × dR)} {s:cO}
theorem Dc.below (h:Dc w wr bs x xs s) (hb:Below wr.heap.size wr w'):Dc w w' bs x xs s :=
 ⟨h.res.below hb h.res.lt,h.box.below hb h.box.lt,h.own.below hb,h.bel.trans (hb.mono h.bel.size),h.ne⟩
end
set_option maxRecDepth 100000 in
theorem uh (A:Option Addr) (n c:Nat) (l:List UInt8) (w:World) (hn:n=l.length) (hb:BS w w.heap.size A l) (hl:n≤15000000) (hc:n≤c) :
  Calls Tryz.prog 18 #[.slice A n c] w (fT w l):=by
 subst hn;obtain ⟨W,hW⟩:∃ W,W=w.alloc (.cells (ay dM cV).toArray 40):=⟨_,rfl⟩
 have HY:Hid (ah W w.heap.size 40 (ay dM cV).toArray):=by rw [hW];exact ah.new w _ _ _ rfl
 have HB:Hid (Below w.heap.size w W):=by rw [hW];exact (Below.refl _ _).alloc (Nat.le_refl _) _
 have HA:=Lib.hid ((hb.below HB.out).more HB.out.size);have HA0:=Lib.hid hb;rw [fz] at hW;have HW:=Lib.hid hW;have Hz0:=Lib.hid (fx (x:=dM) cT);obtain ⟨R,hR⟩:∃ R,R=bu l:=⟨_,rfl⟩
 have HR:=Lib.hid hR;obtain ⟨bd,n1,e1,h1⟩:∃ a b c,aP l=(a,b,c):=⟨_,_,_,rfl⟩
 have H1:=Lib.hid h1;have Hnx:=Lib.hid (jl A l.length c l W rfl HA.out (by omega) hc);unfold mf at Hnx;rw [h1] at Hnx;clear hW hb hR h1;go_enter Tryz.func18,Tryz.ntmps18
 go_upto_region 1 with fail
 rw [←HW.out];clear HW
 go_wp2_with fail
 refine Hnx.out.mono ?_;rintro e w2 ⟨A2,c2,rfl,hown2,hb2⟩;have HY2:=Lib.hid (HY.out.below hb2 HY.out.lt);have HB2:=Lib.hid (HB.out.trans (hb2.mono HB.out.size));have HA2:=Lib.hid ((HA.out.below hb2).more hb2.size);have Hbd:=Lib.hid (BS.of_own hown2).1;clear hown2 hb2 Hnx HY HB HA;by_cases he1:e1=0
 rotate_left
 ·have he1I:¬ (e1:Int)=0:=by omega
  have hRv:Hid (bu l=(cV,0,e1)):=by show _=_;unfold bu;rw [H1.out];simp only;rw [if_pos he1]
  obtain ⟨W7,hW7,T7,B7,G7⟩:=eS (cs:=ay dM cV) HY2.out (by simp);have HF:Hid (Below w.heap.size w W7):=HB2.out.grown G7.out HB2.out.size (fun k hk=>by injection hk with hk;omega)
  go_wp2_with ((with_reducible refine aM 40 ?_);rw [←fz];refine wpList_store_mid rfl 40 (.tmp 2) (.tmp 21) rfl w.heap.size 0 (ay dM cV).toArray rfl rfl T7.out Hz0.out (dZ _ _) ?_)
  rw [←hW7.out];refine bodyPost_ret (v:=.tuple #[.agg (ay dM cV).toArray,.int .i64 0,.int .i64 (e1:Int)]) (cw (P:=Tryz.prog) (p:=2) (u:=3) (v:=4) rfl _ _ w.heap.size _ _ _ _ rfl B7.out a8 rfl Hz0.out) rfl ?_;unfold fT;rw [hRv.out];exact ⟨HF.out,dM,[],rfl,ea.zero _ _⟩
 subst he1;have hp1:=i7 H1.out;have hbl:bd.length≤1048576:=hp1.2.2.2
 go_wp2_with fail
 refine (zu A2 bd.length c2 bd w2 rfl Hbd.out (by omega)).mono ?_;rintro e w3 ⟨hb3,x3,h3,rfl,hsh3,hyes⟩;have HY3:=Lib.hid (HY2.out.below hb3 HY2.out.lt);have HB3:=Lib.hid (HB2.out.trans (hb3.mono HB2.out.size));have HA3:=Lib.hid ((HA2.out.below hb3).more hb3.size);have Hsh3:=Lib.hid hsh3;have Hz3:=Lib.hid (fx (x:=x3) hsh3);obtain ⟨xa,wa,Xa,Ya,Ta,Ba,La⟩:=ep w3 40 (ay dM cV) (ay x3 h3) (by rw [dJ hsh3,dJ cT]);rw [fz] at Xa;have HYa:=Lib.hid (HY3.out.below La.out HY3.out.lt);have HBa:=Lib.hid (HB3.out.trans (La.out.mono HB3.out.size));have HAa:=Lib.hid ((HA3.out.below La.out).more La.out.size);have hle:w.heap.size<w3.heap.size:=HY3.out.lt;obtain ⟨bs,hbs⟩:∃ b,b=w3.heap.size:=⟨_,rfl⟩
 have hne1:w.heap.size≠bs:=by omega
 have hne2:w.heap.size≤bs:=by omega
 have Hyes:Hid (∀ h',fp bd=some h'→h3=h'∧iA wa w.heap.size x3.v x3.cv h3.conf.vips∧x3.st=fw∧x3.e=none∧x3.ce=0):=fun h' he=>by
  obtain ⟨g1,g2,_,g4,g5,g6⟩:=hyes h' he;have g3:=g2.below La.out;exact ⟨g1,⟨bJ g3.1 HB2.out.size,g3.2⟩,g4,g5,g6⟩
 obtain ⟨ok,hok⟩:∃ b,b=(fp bd).isSome:=⟨_,rfl⟩
 have Hok:=Lib.hid hok;rw [←hok];clear hb3 hyes hsh3 hok HY2 HB2 HA2 Hbd HA3 HY3 HB3;go_upto_region 5 with (first
  | (rw [←Xa.out];(with_reducible refine aM 40 ?_);refine wpList_store_mid rfl 40 (.tmp 8) (.tmp 26) rfl w3.heap.size 0 (ay x3 h3).toArray rfl rfl Ta.out (by rw [List.size_toArray];exact Hz3.out) (dZ _ _) ?_))
 rw [←Ya.out,←hbs];rw [←hbs] at Ba;clear Xa Ya Ta La hbs hle;rcases ok with _ | _
 ·have hRv:Hid (bu l=(cV,0,3)):=by
   show _=_
   rcases hg:fp bd with _ | h
   ·unfold bu;rw [H1.out];simp only;rw [if_neg (by decide),hg]
   ·have:=Hok.out;rw [hg] at this;cases this
  obtain ⟨W7,hW7,T7,B7,G7⟩:=eS (cs:=ay dM cV) HYa.out (by simp);have HF:Hid (Below w.heap.size w W7):=HBa.out.grown G7.out HBa.out.size (fun k hk=>by injection hk with hk;omega)
  go_wp2_with ((with_reducible refine aM 40 ?_);rw [←fz];refine wpList_store_mid rfl 40 (.tmp 2) (.tmp 30) rfl w.heap.size 0 (ay dM cV).toArray rfl rfl T7.out Hz0.out (dZ _ _) ?_)
  rw [←hW7.out];refine bodyPost_ret (v:=.tuple #[.agg (ay dM cV).toArray,.int .i64 0,.int .i64 3]) (cw (P:=Tryz.prog) (p:=2) (u:=3) (v:=4) rfl _ _ w.heap.size _ _ _ _ rfl B7.out a8 rfl Hz0.out) rfl ?_;unfold fT;rw [hRv.out];exact ⟨HF.out,dM,[],rfl,ea.zero _ _⟩
 have hgd:fp bd=some h3:=by
  rcases hg:fp bd with _ | h
  ·have:=Hok.out;rw [hg] at this;cases this
  ·rw [(Hyes.out h hg).1]
 obtain ⟨_,hvo,hst0,he0,hce0⟩:=Hyes.out h3 hgd;have Hgd:=Lib.hid hgd;have Hvo:=Lib.hid hvo;obtain ⟨hs0,hv0,hrc,hcs⟩:=zB hgd;have Hs0:=Lib.hid hs0;have Hv0:=Lib.hid hv0;have hG:Dc w wa bs x3 [] h3:=by
  refine ⟨HYa.out,Ba.out,⟨hvo,?_,?_,Hsh3.out,by rw [hv0];rfl,?_,by rw [hv0];decide,by simp⟩,HBa.out,hne1,hne2⟩
  ·have:=(mh hcs hrc).1;omega
  ·rw [hst0,hs0];exact gM.zero _ _
  ·rw [hv0,he0,hce0];exact World.ownsRow_nil _ _ _ _
 have HG:=Lib.hid hG;obtain ⟨ad,hA,_,_⟩:=HAa.out (by omega);subst hA;have hn1:n1≤l.length:=hp1.2.1;have hn0:1≤n1:=hp1.1;have hn1c:n1≤c:=by omega
 have Hp1:=Lib.hid hp1;clear hG hgd hvo hst0 he0 hce0 hs0 hv0 hrc hcs HYa HBa Ba hp1 Hsh3 Hz3 Hyes;by_cases hcn:c=n1
 ·have hd0:l.drop n1=[]:=by rw [List.drop_eq_nil_iff];omega
  have hRv:Hid (bu l=(cV,0,2)):=by
   show _=_
   unfold bu;rw [H1.out];simp only;rw [if_neg (by decide),Hgd.out,hd0];rfl
  have hz:l.length - n1=0:=by omega
  have Hz:=Lib.hid hz;have Hnx:=Lib.hid (jl (some ad) 0 0 [] wa rfl (BS.nil _ _ _) (by decide) (by decide));unfold mf at Hnx;rw [show aP []=([],0,2) from rfl] at Hnx;subst hcn;clear hz hd0
  go_wp2_with fail
  refine Hnx.out.mono ?_;rintro e w4 ⟨A4,c4,rfl,hown4,hb4⟩;have HG4:=Lib.hid (HG.out.below hb4);clear hown4 hb4 Hnx HG HAa;obtain ⟨W7,hW7,T7,B7,G7⟩:=eS (cs:=ay dM cV) HG4.out.res (by simp);have HF:Hid (Below w.heap.size w W7):=HG4.out.bel.grown G7.out HG4.out.bel.size (fun k hk=>by injection hk with hk;omega)
  go_wp2_with ((with_reducible refine aM 40 ?_);rw [←fz];refine wpList_store_mid rfl 40 (.tmp 2) (.tmp 41) rfl w.heap.size 0 (ay dM cV).toArray rfl rfl T7.out Hz0.out (dZ _ _) ?_)
  rw [←hW7.out];refine bodyPost_ret (v:=.tuple #[.agg (ay dM cV).toArray,.int .i64 0,.int .i64 2]) (cw (P:=Tryz.prog) (p:=2) (u:=3) (v:=4) rfl _ _ w.heap.size _ _ _ _ rfl B7.out a8 rfl Hz0.out) rfl ?_;unfold fT;rw [hRv.out];exact ⟨HF.out,dM,[],rfl,ea.zero _ _⟩
 have Hd1:Hid (l.length - n1=(l.drop n1).length):=by show _=_;rw [List.length_drop]
 have Hbs1:Hid (BS wa wa.heap.size (some (ad.add n1)) (l.drop n1)):=by
  have:=HAa.out.drop (k:=n1) (cap:=c) hc;rw [if_neg hcn] at this;exact this
 go_wp2_with fail
 obtain ⟨b2,n2,e2,h2⟩:∃ a b c,aP (l.drop n1)=(a,b,c):=⟨_,_,_,rfl⟩
 have H2:=Lib.hid h2;have Hnx:=Lib.hid (jl (some (ad.add n1)) (l.length - n1) (c - n1) (l.drop n1) wa Hd1.out Hbs1.out (by omega) (by omega));unfold mf at Hnx;rw [h2] at Hnx;clear h2;refine Hnx.out.mono ?_;rintro e w4 ⟨A4,c4,rfl,hown4,hb4⟩;have HG4:=Lib.hid (HG.out.below hb4);have HA4:=Lib.hid ((HAa.out.below hb4).more hb4.size);have Hb4:=Lib.hid (BS.of_own hown4).1;clear hown4 hb4 Hnx HG HAa Hbs1;by_cases he2:e2=0
 rotate_left
 ·have he2I:¬ (e2:Int)=0:=by omega
  have hRv:Hid (bu l=(cV,0,e2)):=by
   show _=_
   unfold bu;rw [H1.out];simp only;rw [if_neg (by decide),Hgd.out,H2.out];simp only;rw [if_pos he2]
  obtain ⟨W7,hW7,T7,B7,G7⟩:=eS (cs:=ay dM cV) HG4.out.res (by simp);have HF:Hid (Below w.heap.size w W7):=HG4.out.bel.grown G7.out HG4.out.bel.size (fun k hk=>by injection hk with hk;omega)
  go_wp2_with ((with_reducible refine aM 40 ?_);rw [←fz];refine wpList_store_mid rfl 40 (.tmp 2) (.tmp 41) rfl w.heap.size 0 (ay dM cV).toArray rfl rfl T7.out Hz0.out (dZ _ _) ?_)
  rw [←hW7.out];refine bodyPost_ret (v:=.tuple #[.agg (ay dM cV).toArray,.int .i64 0,.int .i64 (e2:Int)]) (cw (P:=Tryz.prog) (p:=2) (u:=3) (v:=4) rfl _ _ w.heap.size _ _ _ _ rfl B7.out a8 rfl Hz0.out) rfl ?_;unfold fT;rw [hRv.out];exact ⟨HF.out,dM,[],rfl,ea.zero _ _⟩
 subst he2;have hp2:=i7 H2.out;have hbl2:b2.length≤1048576:=hp2.2.2.2;have hn2:n1 + n2≤l.length:=by have:=hp2.2.1;rw [List.length_drop] at this;omega
 have hn20:1≤n2:=hp2.1;clear hp2
 go_wp2_with fail
 refine (tV A4 b2.length c4 b2 w4 rfl Hb4.out (by omega)).mono ?_;rintro e w5 ⟨hb5,hno,hyes⟩;have HG5:=Lib.hid (HG4.out.below hb5);have HA5:=Lib.hid ((HA4.out.below hb5).more hb5.size);obtain ⟨y,st,why,rfl,hso,hcase⟩:∃ y st,∃ why:Int,e=.returned (.tuple #[.agg (dd y st).toArray,.int .i64 why])∧gM w5 w.heap.size y st∧((gT b2=none∧why=3)∨(gT b2=some st∧why=0)):=by
  rcases hg:gT b2 with _ | st
  ·exact ⟨fw,cA,3,hno hg,gM.zero _ _,.inl ⟨rfl,rfl⟩⟩
  ·obtain ⟨y,g1,g2⟩:=hyes st hg
   exact ⟨y,st,0,g1,g2.more HG4.out.bel.size,.inr ⟨rfl,rfl⟩⟩
 have Hcase:=Lib.hid hcase;have Hso:=Lib.hid hso;have Hst:=Lib.hid (nr (x:=y) hso.ok);clear hb5 hno hyes hcase hso HG4 HA4 Hb4;have hth:w5.there bs 56 (dd y st).toArray.size:=HG5.out.box.there (by rw [List.size_toArray,List.size_toArray,ka Hso.out.ok,dJ HG5.out.own.sh];decide);obtain ⟨w6,hw6⟩:∃ v,v=w5.setCells bs 56 (dd y st):=⟨_,rfl⟩
 obtain ⟨xb,hxb⟩:∃ x:kX,x={ x3 with st:=y }:=⟨_,rfl⟩
 obtain ⟨hb,hhb⟩:∃ h:cO,h={ h3 with st:=st }:=⟨_,rfl⟩
 have hg6:w5.grownBy w6 (some bs):=by rw [hw6];exact aN w5 bs 56 _ 56 (World.grownBy.refl _ _)
 have hG6:Dc w w6 bs xb [] hb:=by
  refine ⟨HG5.out.res.grown hg6 (by simpa using hne1),?_,?_,HG5.out.bel.grown hg6 HG5.out.bel.size (fun k hk=>by injection hk with hk;omega),hne1,hne2⟩
  ·have h:=ah.setCells (dd y st) 56 HG5.out.box
   rw [zC HG5.out.own.sh Hso.out.ok] at h;rw [hw6,hxb,hhb];exact h
  ·rw [hxb,hhb]
   exact (HG5.out.own.state Hso.out).other HG5.out.box (by decide) hg6
 have HG6:=Lib.hid hG6;have hb6:∀ k,k<w.heap.size→w6.heap[k]?=w5.heap[k]?:=fun k hk=>hg6.block k (Nat.lt_of_lt_of_le hk HG5.out.bel.size) (by simp;omega)
 have HA6:Hid (BS w6 w.heap.size (some ad) l):=HA0.out.below HG6.out.bel;have Hth:=Lib.hid hth;have Hhb:=Lib.hid hhb;have hev0:hb.evs=[]:=by rw [hhb];exact Hv0.out
 have Hev0:=Lib.hid hev0;have Hzb:=Lib.hid (fx (x:=xb) hG6.own.sh);clear hg6 hG6 hth hxb hhb HG5 HA5 hev0 hb6;go_upto_region 11 with ((with_reducible refine aM 37 ?_);refine wpList_store_mid rfl 37 (.tmp 48) (.tmp 46) rfl bs 56 (dd y st).toArray rfl rfl Hth.out Hst.out (rX _ _) ?_)
 rw [←hw6];clear hw6;have l6:bs<w6.heap.size:=HG6.out.box.lt;rcases Hcase.out with ⟨hsg,rfl⟩ | ⟨hsg,rfl⟩
 ·have hRv:Hid (bu l=(cV,0,3)):=by
   show _=_
   unfold bu;rw [H1.out];simp only;rw [if_neg (by decide),Hgd.out,H2.out];simp only;rw [if_neg (by decide),hsg]
  clear hsg;obtain ⟨W7,hW7,T7,B7,G7⟩:=eS (cs:=ay dM cV) HG6.out.res (by simp);have HF:Hid (Below w.heap.size w W7):=HG6.out.bel.grown G7.out HG6.out.bel.size (fun k hk=>by injection hk with hk;omega)
  go_wp2_with ((with_reducible refine aM 40 ?_);rw [←fz];refine wpList_store_mid rfl 40 (.tmp 2) (.tmp 56) rfl w.heap.size 0 (ay dM cV).toArray rfl rfl T7.out Hz0.out (dZ _ _) ?_)
  rw [←hW7.out];refine bodyPost_ret (v:=.tuple #[.agg (ay dM cV).toArray,.int .i64 0,.int .i64 3]) (cw (P:=Tryz.prog) (p:=2) (u:=3) (v:=4) rfl _ _ w.heap.size _ _ _ _ rfl B7.out a8 rfl Hz0.out) rfl ?_;unfold fT;rw [hRv.out];exact ⟨HF.out,dM,[],rfl,ea.zero _ _⟩
 refine Sd.plain ?_
 repeat ((first | refine po ?_ | refine gs (aj HG6.out.box) l6 a8 Hzb.out ?_ | refine gc (fun u hu=>pR ((HG6.out.own.below hu).held)) ?_ | refine gp ?_ | refine pt ?_);simp only [ld,lg,lf,Nat.reduceAdd])
 refine Sd.done fun w7 hb7=>?_
 have HG7:=Lib.hid (HG6.out.below hb7);clear hb7;have Hsg:=Lib.hid hsg;clear hsg;rcases hbr:iq hb with _ | _
 ·have hRv:Hid (bu l=(cV,0,3)):=by
   show _=_
   unfold bu;rw [H1.out];simp only;rw [if_neg (by decide),Hgd.out,H2.out];simp only;rw [if_neg (by decide),Hsg.out];simp only;rw [←Hhb.out,hbr];rfl
  simp only [hbr,Bool.not_false,Bool.or_true,Bool.false_or];clear hbr;obtain ⟨W7,hW7,T7,B7,G7⟩:=eS (cs:=ay dM cV) HG7.out.res (by simp);have HF:Hid (Below w.heap.size w W7):=HG7.out.bel.grown G7.out HG7.out.bel.size (fun k hk=>by injection hk with hk;omega)
  go_wp2_with ((with_reducible refine aM 40 ?_);rw [←fz];refine wpList_store_mid rfl 40 (.tmp 2) (.tmp 56) rfl w.heap.size 0 (ay dM cV).toArray rfl rfl T7.out Hz0.out (dZ _ _) ?_)
  rw [←hW7.out];refine bodyPost_ret (v:=.tuple #[.agg (ay dM cV).toArray,.int .i64 0,.int .i64 3]) (cw (P:=Tryz.prog) (p:=2) (u:=3) (v:=4) rfl _ _ w.heap.size _ _ _ _ rfl B7.out a8 rfl Hz0.out) rfl ?_;unfold fT;rw [hRv.out];exact ⟨HF.out,dM,[],rfl,ea.zero _ _⟩
 simp only [hbr,Bool.not_true,Bool.or_false,Bool.false_or];have hRv:Hid (bu l=({ hb with evs:=(ed (l.drop (n1 + n2))).1 },n1 + n2 + (ed (l.drop (n1 + n2))).2.1,(ed (l.drop (n1 + n2))).2.2)):=by
  show _=_
  unfold bu;rw [H1.out];simp only;rw [if_neg (by decide),Hgd.out,H2.out];simp only;rw [if_neg (by decide),Hsg.out];simp only;rw [←Hhb.out,hbr];simp only [if_true];rw [Hhb.out]
 have HG0:Hid (Dc w w7 bs xb [] { hb with evs:=[] }):=by
  have h:=HG7.out;have e:({ hb with evs:=[] }:cO)=hb:=by have:=Hev0.out;cases hb;simp only at this;rw [this]
  show Dc _ _ _ _ _ _
  rw [e];exact h
 clear hbr Hsg HG7 HG6 Hgd H2 Hd1;obtain ⟨at0,hat0⟩:∃ a,a=n1 + n2:=⟨_,rfl⟩
 rw [←hat0] at hRv hn2;have Hat0:=Lib.hid hat0
 go_wp2
 go_loopw [6] (fun i wr=>∃ (a:Nat) (xk:kX) (es:List (fL × dR)),a≤l.length∧i=.int .i64 (a:Int)∧16 * es.length≤a∧Hid (Dc w wr bs xk es { hb with evs:=es.map (·.2) })∧Hid (at0≤a∧ed (l.drop at0)=(es.map (·.2) ++ (ed (l.drop a)).1,(a - at0) + (ed (l.drop a)).2.1,(ed (l.drop a)).2.2))) (fun i _=>l.length - (intOf i).toNat)
 case atStart=>exact ⟨at0,xb,[],hn2,by rw [Hat0.out];go_num,by simp,HG0,⟨Nat.le_refl _,by simp⟩⟩
 case round =>
  obtain ⟨a,xk,es,ha,rfl,hes,HK,Hinv⟩:=hrel;rename World=>wr
  by_cases hlt:a<l.length
  ·have hltI:(a:Int)<(l.length:Int):=by omega
   have ha0:(0:Int)≤(a:Int):=by omega
   have hca:c≠a:=by omega
   have hac:a≤c:=by omega
   have Hdl:Hid (l.length - a=(l.drop a).length):=by show _=_;rw [List.length_drop]
   have Hbs:Hid (BS wr wr.heap.size (some (ad.add a)) (l.drop a)):=by
    have:=((HA0.out.below HK.out.bel).more HK.out.bel.size).drop (k:=a) (cap:=c) hc;rw [if_neg hca] at this;exact this
   obtain ⟨b3,n3,e3,h3n⟩:∃ q1 q2 q3,aP (l.drop a)=(q1,q2,q3):=⟨_,_,_,rfl⟩
   have H3n:=Lib.hid h3n;have Hnx:=Lib.hid (jl (some (ad.add a)) (l.length - a) (c - a) (l.drop a) wr Hdl.out Hbs.out (by omega) (by omega));unfold mf at Hnx;rw [h3n] at Hnx;have Hne:Hid (l.drop a≠[]):=by intro e;have:=congrArg List.length e;simp at this;omega
   clear h3n
   go_wp2_with fail
   refine Hnx.out.mono ?_;rintro e wa2 ⟨A8,c8,rfl,hown8,hb8⟩;have HK8:=Lib.hid (HK.out.below hb8);have Hb8:=Lib.hid (BS.of_own hown8).1;clear hown8 hb8 Hnx HK Hbs Hdl;by_cases he3:e3=0
   rotate_left
   ·have he3I:¬ (e3:Int)=0:=by omega
    have hRk:Hid (bu l=({ hb with evs:=es.map (·.2) },a,e3)):=by
     show _=_
     have h:=Hinv.out.2;rw [tx Hne.out H3n.out he3] at h;simp only [List.append_nil,Nat.add_zero] at h;rw [hRv.out,h,show at0 + (a - at0)=a by have:=Hinv.out.1;omega]
    have Hsz:=Lib.hid (fx (x:=xk) HK8.out.own.sh);obtain ⟨W7,hW7,T7,B7,G7⟩:=eS (cs:=ay xk { hb with evs:=es.map (·.2) }) HK8.out.res (by rw [dJ HK8.out.own.sh,List.size_toArray,dJ cT]);have HF:Hid (Below w.heap.size w W7):=HK8.out.bel.grown G7.out HK8.out.bel.size (fun k hk=>by injection hk with hk;omega);have HO:=Lib.hid (HK8.out.own.other HK8.out.res (by decide) G7.out);have RF:=Lib.hid (aj HK8.out.box)
    go_wp2_with (first
     | ((with_reducible refine aI 40 ?_);refine aa (by rfl) 40 (.tmp 8) rfl bs 0 rfl (ay xk { hb with evs:=es.map (·.2) }) _ RF.out a8 rfl Hsz.out ?_)
     | ((with_reducible refine aM 40 ?_);refine wpList_store_mid rfl 40 (.tmp 2) (.tmp 74) rfl w.heap.size 0 (ay xk { hb with evs:=es.map (·.2) }).toArray rfl rfl T7.out Hsz.out (dZ _ _) ?_))
    rw [←hW7.out];refine bodyPost_ret (v:=.tuple #[.agg (ay xk { hb with evs:=es.map (·.2) }).toArray,.int .i64 (a:Int),.int .i64 (e3:Int)]) (cw (P:=Tryz.prog) (p:=2) (u:=3) (v:=4) rfl _ _ w.heap.size _ _ _ _ rfl B7.out a8 rfl Hsz.out) rfl ?_;unfold fT;rw [hRk.out];exact ⟨HF.out,_,es,rfl,HO.out⟩
   subst he3;have hp3:=i7 H3n.out;have hb3l:b3.length≤1048576:=hp3.2.2.2;have hn3:a + n3≤l.length:=by have:=hp3.2.1;rw [List.length_drop] at this;omega
   have hn30:1≤n3:=hp3.1;clear hp3
   go_wp2_with fail
   refine (AU A8 b3.length c8 b3 wa2 rfl Hb8.out (by omega)).mono ?_;rintro e w9 ⟨hb9,hno,hyes⟩;have HK9:=Lib.hid (HK8.out.below hb9);rcases hg:ec b3 with _ | f
   ·obtain rfl:=hno hg
    have hRk:Hid (bu l=({ hb with evs:=es.map (·.2) },a,3)):=by
     show _=_
     have h:=Hinv.out.2;rw [CQ H3n.out hg] at h;simp only [List.append_nil,Nat.add_zero] at h;rw [hRv.out,h,show at0 + (a - at0)=a by have:=Hinv.out.1;omega]
    obtain ⟨xc,wc,Xc,Yc,Tc,Bc,Lc⟩:=ep w9 65 (bm none 0 0 none 0 0 li) (bm none 0 0 none 0 0 li) rfl;rw [ji] at Xc;have Hze:=Lib.hid (kL (A:=none) (n:=0) (c:=0) (A':=none) (n':=0) (c':=0) eB);have HKc:=Lib.hid (HK9.out.below Lc.out);clear hno hyes hb9 hg HK8 HK9 Hb8;go_upto_region 20 with (rw [←Xc.out];(with_reducible refine aM 65 ?_);refine wpList_store_mid rfl 65 (.tmp 11) (.tmp 80) rfl w9.heap.size 0 (bm none 0 0 none 0 0 li).toArray rfl rfl Tc.out Hze.out (nM _ _ _ _ _ _ _) ?_)
    rw [←Yc.out];clear Xc Yc Tc;have Hsz:=Lib.hid (fx (x:=xk) HKc.out.own.sh);obtain ⟨W7,hW7,T7,B7,G7⟩:=eS (cs:=ay xk { hb with evs:=es.map (·.2) }) HKc.out.res (by rw [dJ HKc.out.own.sh,List.size_toArray,dJ cT]);have HF:Hid (Below w.heap.size w W7):=HKc.out.bel.grown G7.out HKc.out.bel.size (fun k hk=>by injection hk with hk;omega);have HO:=Lib.hid (HKc.out.own.other HKc.out.res (by decide) G7.out);have RF:=Lib.hid (aj HKc.out.box)
    go_wp2_with (first
     | ((with_reducible refine aI 40 ?_);refine aa (by rfl) 40 (.tmp 8) rfl bs 0 rfl (ay xk { hb with evs:=es.map (·.2) }) _ RF.out a8 rfl Hsz.out ?_)
     | ((with_reducible refine aM 40 ?_);refine wpList_store_mid rfl 40 (.tmp 2) (.tmp 84) rfl w.heap.size 0 (ay xk { hb with evs:=es.map (·.2) }).toArray rfl rfl T7.out Hsz.out (dZ _ _) ?_))
    rw [←hW7.out];refine bodyPost_ret (v:=.tuple #[.agg (ay xk { hb with evs:=es.map (·.2) }).toArray,.int .i64 (a:Int),.int .i64 3]) (cw (P:=Tryz.prog) (p:=2) (u:=3) (v:=4) rfl _ _ w.heap.size _ _ _ _ rfl B7.out a8 rfl Hsz.out) rfl ?_;unfold fT;rw [hRk.out];exact ⟨HF.out,_,es,rfl,HO.out⟩
   obtain ⟨Af,cf,rfl,hfs,hof⟩:=hyes f hg;have hst3:=nU H3n.out hg;have hge:=Db H3n.out hg;obtain ⟨p,hp⟩:∃ p:fL × dR,p=(⟨Af,cf,none,0⟩,f):=⟨_,rfl⟩
   have hpc:jE p=bm Af f.act.frame.length cf none 0 0 f:=by rw [hp];unfold jE;simp only [qU hg,List.length_nil]
   have hp2:p.2=f:=by rw [hp]
   have Hfo:Hid (w9.ownsRow w.heap.size 5 1 (.slice p.1.f p.2.act.frame.length p.1.cf) p.2.act.frame.length (ab p.2.act.frame)):=by rw [hp];exact bJ hof HK8.out.bel.size
   have Hfs:Hid (aH p.2):=by rw [hp2];exact hfs
   have Hout:Hid (p.2.o.out=[]):=by rw [hp2];exact qU hg
   rw [←hpc];have Hze:=Lib.hid (kY (p:=p) Hfs.out);have Hz42:=Lib.hid (lF (p:=p) Hfs.out);obtain ⟨xc,wc,Xc,Yc,Tc,Bc,Lc⟩:=ep w9 65 (bm none 0 0 none 0 0 li) (jE p) (by rw [Hz42.out];rfl);rw [ji] at Xc;have HKc:=Lib.hid (HK9.out.below Lc.out);have Hfc:=Lib.hid (ax Hfo.out Lc.out);have Hinv2:Hid (at0≤a + n3∧ed (l.drop at0)=((es ++ [p]).map (·.2) ++ (ed (l.drop (a + n3))).1,(a + n3 - at0) + (ed (l.drop (a + n3))).2.1,(ed (l.drop (a + n3))).2.2)):=by
    obtain ⟨i1,i2⟩:=Hinv.out;refine ⟨by omega,?_⟩;rw [i2,hst3,List.drop_drop];simp only [List.map_append,List.map_cons,List.map_nil,List.append_assoc,List.cons_append,List.nil_append,hp2];rw [show a - at0 + (n3 + (ed (List.drop (a + n3) l)).2.1)=a + n3 - at0 + (ed (List.drop (a + n3) l)).2.1 by omega]
   have he3':16≤n3:=hge.1;clear hno hyes hb9 hg HK8 HK9 Hb8 hof hfs hst3 hge hpc hp hp2 Hfo;go_upto_region 21 with (rw [←Xc.out];(with_reducible refine aM 65 ?_);refine wpList_store_mid rfl 65 (.tmp 11) (.tmp 80) rfl w9.heap.size 0 (jE p).toArray rfl rfl Tc.out (by rw [List.size_toArray];exact Hze.out) (oO _) ?_)
   rw [←Yc.out];clear Xc Yc Tc;obtain ⟨sk,hsk⟩:∃ s:cO,s={ hb with evs:=es.map (·.2) }:=⟨_,rfl⟩
   have Hsk:=Lib.hid hsk;rw [←hsk] at HKc;have hln:sk.evs.length=es.length:=HKc.out.own.len;obtain ⟨m,hm⟩:∃ m,m=sk.evs.length:=⟨_,rfl⟩
   have q73:wc.cell? ⟨bs,73,none⟩=some (.slice xk.e m xk.ce):=by rw [hm];exact (lH HKc.out.own.sh HKc.out.box).1
   have hmb:m≤999999:=by omega
   have Hm:=Lib.hid hm;obtain ⟨wd,hwd⟩:∃ v,v=wc.alloc (.cells (jE p).toArray 65):=⟨_,rfl⟩
   have Bd:=Lib.hid (aj (show ah wd wc.heap.size 65 (jE p).toArray by rw [hwd];exact ah.new wc _ _ _ rfl));have hbd:Below wc.heap.size wc wd:=by rw [hwd];exact (Below.refl _ _).alloc (Nat.le_refl _) _
   have HKd:=Lib.hid (HKc.out.below hbd);have Hfd:=Lib.hid (ax Hfc.out hbd);have RE:=Lib.hid (aj Bc.out);obtain ⟨z0,hz0⟩:∃ z,(Tryz.prog.info? 65)=some z:=⟨_,rfl⟩
   obtain ⟨zz,hzz,hzs,hzb,hzc⟩:∃ z,z0.zero=some z∧z0.size=42∧z0.bytes≤1000∧z.cells.size=42:=by
    have e:(Tryz.prog.info? 65).bind (fun i=>i.zero.map (fun z=>(i.size,decide (i.bytes≤1000),z.cells.size)))=some (42,true,42):=by kernel_rfl
    rw [hz0] at e;obtain ⟨z,h1,h2⟩:=Option.map_eq_some_iff.1 (show z0.zero.map _=some _ from e);simp only [Prod.mk.injEq,decide_eq_true_eq] at h2;exact ⟨z,h1,h2.1,h2.2.1,h2.2.2⟩
   have Hoe:Hid (wd.ownsRow w.heap.size 65 42 (.slice xk.e m xk.ce) m (eL jE es)):=by have:=HKd.out.own.evs;rw [←Hm.out] at this;exact this
   have hwb:w.heap.size≤wd.heap.size:=HKd.out.bel.size;have hx63:m + 1≤1000001:=by omega
   clear hbd hsk hm hln;go_upto_region 22 with (first
    | ((with_reducible refine aI 65 ?_);refine aa (by rfl) 65 (.tmp 11) rfl w9.heap.size 0 rfl (jE p) _ RE.out eT rfl Hze.out ?_)
    | ((with_reducible refine tO 1 ?_);refine fQ rfl 38 65 (.tmp 89) rfl (jE p) rfl Tryz.underlying38 Hze.out (by kernel_rfl) (by rw [Hz42.out];decide) (by rw [Hz42.out];decide) ?_;rw [←hwd])
    | (at_builtin;refine wpList_append_own_at (P:=Tryz.prog) wd rfl _ _ 38 rfl w.heap.size 65 z0 zz 42 z0.bytes Tryz.underlying38 hz0 hzz hzs rfl hzc (by decide) (.slice xk.e m xk.ce) m (eL jE es) rfl Hoe.out ⟨wc.heap.size,0,none⟩ 1 1 (jE p) rfl (by rw [Hz42.out]) (fun j u hj=>by rw [show (⟨wc.heap.size,0,none⟩:Addr).add j=⟨wc.heap.size,0 + j,none⟩ by unfold Addr.add;split <;> simp_all];exact Bd.out j u hj) (fun u hu=>Array.all_eq_true_iff_forall_mem.1 (oO p) u (by simpa using hu)) (by unfold maxLen;omega) (Nat.le_trans (Nat.mul_le_mul hx63 hzb) (by decide)) hwb ?_;intro v7 we hown7 hg7 _ _;obtain ⟨A7,c7,hv7,_⟩:=cC hown7;subst hv7;have hbne:=aF Hoe.out HKd.out.box (by decide);have hbox7:=HKd.out.box.grown hg7 (by rcases hbne with h | h;rw [h];simp;exact Ne.symm h);have s73:=(lH HKd.out.own.sh hbox7).1;have f73:=(lH HKd.out.own.sh hbox7).2.1;rw [←Hm.out] at s73))
   obtain ⟨wf,hwf⟩:∃ v,v=we.setCell ⟨bs,73,none⟩ (.slice A7 (m + 1) c7):=⟨_,rfl⟩
   rw [←hwf];have hsn:ea we w.heap.size { xk with e:=A7,ce:=c7 } (es ++ [p]) { sk with evs:=sk.evs ++ [p.2] } :=
    HKd.out.own.snoc (p:=p) (by rw [←Hm.out];exact hg7) (by rw [←Hm.out];exact hown7) Hfd.out Hfs.out Hout.out (by rw [←Hm.out];omega)
   have hrne:=aF Hoe.out HKd.out.res (by decide);have hres7:=HKd.out.res.grown hg7 (by rcases hrne with h | h;rw [h];simp;exact Ne.symm h);have hgs:we.grownBy wf (some bs):=by rw [hwf];exact aT _ _ _
   have hbl:Below w.heap.size w we:=HKd.out.bel.grown hg7 HKd.out.bel.size (fun k hk=>(n0 Hoe.out k hk).1);have hsk2:({ sk with evs:=sk.evs ++ [p.2] }:cO)={ hb with evs:=(es ++ [p]).map (·.2) }:=by rw [Hsk.out];simp
   have hbxf:ah wf bs 40 (ay { xk with e:=A7,ce:=c7 } { sk with evs:=sk.evs ++ [p.2] }).toArray:=by
    rw [hwf,Hm.out];exact (lH HKd.out.own.sh hbox7).2.2 A7 c7 p.2
   have hsnf:=hsn.other hbox7 (by decide) hgs;rw [hsk2] at hbxf hsnf;have HF:Hid (Dc w wf bs { xk with e:=A7,ce:=c7 } (es ++ [p]) { hb with evs:=(es ++ [p]).map (·.2) }) :=
    ⟨hres7.grown hgs (by simpa using hne1),hbxf,hsnf,hbl.grown hgs hbl.size (fun k hk=>by injection hk with hk;omega),hne1,hne2⟩
   clear hwf hsn hrne hres7 hgs hbl hsk2 hbxf hsnf hbne hbox7 s73 f73 hown7 hg7 q73
   go_wp2
   go_roundw
   case rel=>exact ⟨a + n3,_,es ++ [p],hn3,by go_num,by simp;omega,HF,Hinv2⟩
   case measure=>simp [intOf];omega
  ·have hltI:¬ (a:Int)<(l.length:Int):=by omega
   have hRk:Hid (bu l=({ hb with evs:=es.map (·.2) },a,0)):=by
    show _=_
    have h:=Hinv.out.2;have hd:l.drop a=[]:=by rw [List.drop_eq_nil_iff];omega
    rw [hd,pG] at h;simp only [List.append_nil,Nat.add_zero] at h;rw [hRv.out,h,show at0 + (a - at0)=a by have:=Hinv.out.1;omega]
   have Hsz:=Lib.hid (fx (x:=xk) HK.out.own.sh);obtain ⟨W7,hW7,T7,B7,G7⟩:=eS (cs:=ay xk { hb with evs:=es.map (·.2) }) HK.out.res (by rw [dJ HK.out.own.sh,List.size_toArray,dJ cT]);have HF:Hid (Below w.heap.size w W7):=HK.out.bel.grown G7.out HK.out.bel.size (fun k hk=>by injection hk with hk;omega);have HO:=Lib.hid (HK.out.own.other HK.out.res (by decide) G7.out);have RF:=Lib.hid (aj HK.out.box)
   go_wp2_with (first
    | ((with_reducible refine aI 40 ?_);refine aa (by rfl) 40 (.tmp 8) rfl bs 0 rfl (ay xk { hb with evs:=es.map (·.2) }) _ RF.out a8 rfl Hsz.out ?_)
    | ((with_reducible refine aM 40 ?_);refine wpList_store_mid rfl 40 (.tmp 2) (.tmp 96) rfl w.heap.size 0 (ay xk { hb with evs:=es.map (·.2) }).toArray rfl rfl T7.out Hsz.out (dZ _ _) ?_))
   rw [←hW7.out];refine bodyPost_ret (v:=.tuple #[.agg (ay xk { hb with evs:=es.map (·.2) }).toArray,.int .i64 (a:Int),.int .i64 0]) (cw (P:=Tryz.prog) (p:=2) (u:=3) (v:=4) rfl _ _ w.heap.size _ _ _ _ rfl B7.out a8 rfl Hsz.out) rfl ?_;unfold fT;rw [hRk.out];exact ⟨HF.out,_,es,rfl,HO.out⟩
end Go.Proofs.YtaafkokfdgfabaaGreat
namespace Go.Proofs.YtaafkokfdgfabaaGreat
open Go.RowKit
set_option linter.unusedVariables false
set_option linter.unusedSimpArgs false
def cW:bf:={ bg with size:=7,room:=9,rise:=2,fall:=3,six:=(true,List.replicate 16 0),most:=1000,keep:=2,batch:=5 }
def lK:dR:={ li with act:={ da with kind:=4 } }
def iR:cO:={ conf:=cW,first:=9,lost:=2,st:=cA,evs:=[lK] }
theorem gY:lJ iR=true:=by decide +kernel
theorem vT:lJ cV=false:=by decide +kernel
theorem ui:ap cW:={ io with six:=by simp [cW,aQ] }
theorem gZ:aH lK:={ eB with act:={ eB.act with } }
theorem fF:bA iR:=⟨ui,gV,by simp [iR,gZ]⟩
theorem Dd {w:World} {g k:Nat} {t:TypeId} {cs:Array Value} (hk:g≠k) (vs:List Value) (h:ah w g t cs):ah (w.setCells k 0 vs) g t cs:=ah.grown h (aN w k 0 vs 0 (World.grownBy.refl _ _)) (fun e=>hk (Option.some.inj e))
def xW (A:Option Addr):kX:=⟨none,0,fw,A,1⟩
theorem zD (A:Option Addr):Tryz.prog.built 40 [(0,.agg (ai none 0 0 cW).toArray),(1,.int .i64 9),(2,.int .i64 2),(4,.slice A 1 1)]=some (ay (xW A) iR).toArray:=by kernel_rfl
theorem zE:Tryz.prog.built 65 [(0,.agg (aq none 0 0 lK.act).toArray)]=some (jE (⟨none,0,none,0⟩,lK)).toArray:=by kernel_rfl
theorem vU:Tryz.prog.built 60 [(0,.int .i64 4)]=some (aq none 0 0 lK.act).toArray:=by kernel_rfl
theorem xB (ty:TypeId) {ps:Array (Nat × Operand)} {d:Option Tmp} {t:TypeId} {p:String} {af:Array Edge} {gd:Option (Nat × Bool)} {P:Program} {ops:Array Oper} {rest:List Oper} {a:Act} {w:World} {Q:Exit→Act→World→Prop} (k:wpList P ops Q (⟨d,.build ty ps,t,p,af,gd⟩ :: rest) a w):wpList P ops Q (⟨d,.build ty ps,t,p,af,gd⟩ :: rest) a w:=k
theorem iK {P:Program} {ops:Array Oper} {rest:List Oper} {o:Oper} {a:Act} {w:World} {Q:Exit→Act→World→Prop} (hg:o.guard=none) (t:TypeId) (parts:Array (Nat × Operand)) (ho:o.op=.build t parts) (L:List (Nat × Value)) (cells:Array Value) (hc:P.built t L=some cells) (hL:(parts.toList.map fun (i,x)=>(i,a.eval x))=L)
  (h:wpList P ops Q rest (a.put o.dst (.agg cells)) w):wpList P ops Q (o :: rest) a w :=
 wpList_build hg t parts ho (by rw [Array.toList_map,hL,hc];rfl) (by rw [Array.toList_map,hL,hc];exact h)
theorem D7 (A:Option Addr) (w:World) (B:Nat) (h:RW jE 42 w B A [(⟨none,0,none,0⟩,lK)]):fY w B (xW A) [(⟨none,0,none,0⟩,lK)] iR where
 vs:=fun hn=>absurd hn (by decide)
 cv:=⟨Nat.le_refl _,by decide⟩
 st:=⟨⟨RW.nil _ _ _,RW.nil _ _ _,RW.nil _ _ _⟩,gV,⟨Nat.le_refl _,by decide⟩,⟨Nat.le_refl _,by decide⟩,⟨Nat.le_refl _,by decide⟩,by simp [iR,cA],by simp [iR,cA],by simp [iR,cA]⟩
 sh:=fF
 ev:=rfl
 evs:=h
 ce:=⟨Nat.le_refl _,by decide⟩
 fr:=fun p hp=>by
  obtain rfl:p=(⟨none,0,none,0⟩,lK):=by simpa using hp
  exact ⟨BS.nil _ _ _,BS.nil _ _ _⟩
set_option maxRecDepth 100000 in
theorem BY (w:World):Calls Tryz.prog 25 #[] w fun e w'=>∃ A S xs,e=.returned (.agg (ay (xW A) S).toArray)∧S=iR∧fY w' w'.heap.size (xW A) xs S∧xs=[(⟨none,0,none,0⟩,lK)]∧Below w.heap.size w w':=by
 obtain ⟨W,hW⟩:∃ W,W=w.alloc (.cells (ay dM cV).toArray 40):=⟨_,rfl⟩
 have hX:ah W w.heap.size 40 (ay dM cV).toArray:=by rw [hW];exact ah.new w _ _ _ rfl
 have hs:Hid (W.heap.size=w.heap.size + 1):=by rw [hW];show _=_;simp
 have hB:Hid (Below w.heap.size w W):=by rw [hW];exact (Below.refl _ _).alloc (Nat.le_refl _) _
 rw [fz] at hW;obtain ⟨C,hC⟩:∃ C,C=cW:=⟨_,rfl⟩
 obtain ⟨x1,y1,X1,Y1,T1,B1,L1⟩:=ep W 29 (ai none 0 0 bg) (ai none 0 0 C) (by rw [hC];rfl);have hbt:∀ (A:Option Addr),Tryz.prog.built 40 [(0,.agg (ai none 0 0 C).toArray),(1,.int .i64 9),(2,.int .i64 2),(4,.slice A 1 1)]=some (ay (xW A) { iR with conf:=C }).toArray:=fun A=>by rw [hC];exact zD A
 have hcl:(ai none 0 0 C).length=54:=by rw [hC];rfl
 have hc1:(#[.slice none 0 0,.int .i64 7,.int .i64 9]:Array Value)=#[.slice none 0 0,.int .i64 7,.int .i64 9]:=rfl;rw [lG] at X1;have HW:=Lib.hid hW;have HC:=Lib.hid hC;have Hbt:=Lib.hid hbt;have HX:=Lib.hid hX;clear hW hC hbt hX hc1;go_enter Tryz.func25,Tryz.ntmps25
 go_upto_region 1 with fail
 rw [←HW.out];go_upto_region 2 with (first
  | (rw [←X1.out];(with_reducible refine aM 29 ?_);refine wpList_store_mid rfl 29 (.tmp 1) (.tmp 3) rfl W.heap.size 0 (ai none 0 0 C).toArray rfl (by rw [HC.out];rfl) T1.out (by rw [List.size_toArray,hcl];exact dl) (fy none 0 0 C) ?_))
 rw [←Y1.out];have HX1:=Lib.hid (HX.out.below L1.out HX.out.lt);obtain ⟨w3,hw3⟩:∃ u,u=y1.alloc (.cells (jE (⟨none,0,none,0⟩,lK)).toArray 65):=⟨_,rfl⟩
 have B3:Hid (ah w3 y1.heap.size 65 (jE (⟨none,0,none,0⟩,lK)).toArray):=by rw [hw3];exact ah.new _ _ _ _ rfl
 have L3:Hid (Below W.heap.size W w3):=by rw [hw3];exact L1.out.alloc L1.out.size _
 have s3:Hid (w3.heap.size=y1.heap.size + 1):=by rw [hw3];show _=_;simp
 have HX3:=Lib.hid (HX.out.below L3.out HX.out.lt);obtain ⟨w4,W4,T4,B4,G4⟩:=eS (cs:=ay (xW (some ⟨y1.heap.size,0,none⟩)) { iR with conf:=C }) HX3.out (by rw [HC.out];rfl);have B34:Hid (ah w4 y1.heap.size 65 (jE (⟨none,0,none,0⟩,lK)).toArray):=by
  rw [W4.out];exact Dd (by have:=L1.out.size;have:=hs.out;omega) _ B3.out
 have R1:=Lib.hid (aj (B1.out));have Hw3:=Lib.hid hw3;have Hsz:Hid ((Tryz.prog.info? 40).map (·.size)=some (ay (xW (some ⟨y1.heap.size,0,none⟩)) { iR with conf:=C }).toArray.size):=by rw [HC.out];exact tW
 clear hw3
 go_wp2_with (first
  | ((with_reducible refine aI 29 ?_);refine aa (by rfl) 29 (.tmp 1) rfl W.heap.size 0 rfl (ai none 0 0 C) _ R1.out fq rfl (by rw [hcl];exact dl) ?_)
  | ((with_reducible refine xB 60 ?_);refine iK rfl 60 _ rfl _ _ vU rfl ?_)
  | ((with_reducible refine xB 65 ?_);refine iK rfl 65 _ rfl _ _ zE rfl ?_)
  | ((with_reducible refine tO 1 ?_);refine fQ rfl 38 65 (.tmp 6) rfl (jE (⟨none,0,none,0⟩,lK)) rfl Tryz.underlying38 (kY gZ) (by kernel_rfl) (by rw [lF gZ];decide) (by rw [lF gZ];decide) ?_;rw [←Hw3.out])
  | ((with_reducible refine xB 40 ?_);refine iK rfl 40 _ rfl _ _ (Hbt.out (some ⟨y1.heap.size,0,none⟩)) rfl ?_)
  | ((with_reducible refine aM 40 ?_);refine wpList_store_mid rfl 40 (.tmp 0) (.tmp 8) rfl w.heap.size 0 (ay (xW (some ⟨y1.heap.size,0,none⟩)) { iR with conf:=C }).toArray rfl rfl T4.out Hsz.out (dZ _ _) ?_))
 rw [←W4.out];have Bl:Below w.heap.size w w4:=(hB.out.trans (L3.out.mono hB.out.size)).grown G4.out (hB.out.trans (L3.out.mono hB.out.size)).size (fun k hk=>by injection hk with hk;omega);have hrw:RW jE 42 w4 w4.heap.size (some ⟨y1.heap.size,0,none⟩) [(⟨none,0,none,0⟩,lK)]:=fun _=>⟨y1.heap.size,0,rfl,B34.out.lt,fun k v hk=>by
  rcases k with _ | k
  ·simp only [List.getElem?_cons_zero,Option.some.injEq] at hk
   subst hk;exact aj B34.out
  ·simp at hk⟩
 exact bodyPost_ret (v:=.agg (ay (xW (some ⟨y1.heap.size,0,none⟩)) { iR with conf:=C }).toArray) (bV (P:=Tryz.prog) (p:=0) rfl _ _ w.heap.size _ _ _ rfl B4.out a8 rfl Hsz.out) rfl ⟨_,_,rfl,by rw [HC.out];rfl,[(⟨none,0,none,0⟩,lK)],by rw [HC.out];exact D7 _ _ _ hrw,rfl,Bl⟩
end Go.Proofs.YtaafkokfdgfabaaGreat
namespace Go.Proofs.YtaafkokfdgfabaaGreat
open Go.RowKit
set_option linter.unusedVariables false
set_option linter.unusedSimpArgs false
theorem BZ:jj lK=lK:=by
 have h:=iz;simp [jj,oh,mX,lK,li,da,dt,h]
theorem B0:bu (cB iR)=(iR,(cB iR).length,0):=by
 rw [BX fF gY];have e:vR iR=iR:=by
  unfold vR;rw [show iR.evs=[lK] from rfl,List.map_cons,BZ];rfl
 rw [e]
theorem xC:(cB iR).length=(dc iR).length + (ca lK).length∧5≤(ca lK).length∧(cB iR).length≤15000000:=by
 have h0:cB iR=dc iR ++ (ca lK ++ []):=rfl;have h1:(cB iR).length=(dc iR).length + (ca lK).length:=by rw [h0,List.append_nil,List.length_append]
 have h2:=pX fF (nA fF gY).1;have h3:=pY gZ (by decide +kernel);have h4:=cL (bG lK);have h5:1≤(aE (bG lK).length).length:=ii _;refine ⟨h1,?_,by omega⟩;unfold ca;omega
theorem De:bu ((cB iR).take ((cB iR).length - 1))=({ iR with evs:=[] },(dc iR).length,2):=by
 obtain ⟨h1,h2,h3⟩:=xC;obtain ⟨k,k1,k2,k3,k4⟩:=zA fF gY (j:=(cB iR).length - 1) (by omega) (by omega);have hk:k=0:=by
  have:iR.evs.length=1:=rfl;omega
 subst hk;rw [k4];simp only [List.take_zero,List.map_nil,List.flatMap_nil,List.length_nil,Nat.add_zero,Prod.mk.injEq,true_and];rw [if_neg (by omega)]
theorem Ca:bu []=(cV,0,2):=by kernel_rfl
theorem D8:em 12 1=([48,48,48,48,49,50,46,108,111,103],true):=by decide +kernel
theorem Df:em 1000000 1=([],false):=by decide +kernel
theorem D9:gO [48,48,48,48,49,50,46,99,97,112]=(12,2,true):=by decide +kernel
theorem Ea:gO [49,50,46,99,97,112]=(0,0,false):=by decide +kernel
theorem Cb:kz iR iR=true:=by decide +kernel
def Bx (w:World) (g:Nat) (x:kX) (xs:List (fL × dR)) (s:cO):Prop:=ah w g 40 (ay x s).toArray∧fY w w.heap.size x xs s
theorem Bx.on {w w':World} {g:Nat} {x:kX} {xs:List (fL × dR)} {s:cO} (h:Bx w g x xs s) (hb:Below w.heap.size w w'):Bx w' g x xs s:=⟨ah.below h.1 hb h.1.lt,h.2.on hb⟩
theorem xD (w:World) (x:kX) (s:cO) (hs:bA s):∃ u v,Hid (u=w.alloc (.cells Tryz.zeroCells40 40))∧Hid (v=u.setCells w.heap.size 0 (ay x s))∧Hid (u.there w.heap.size 0 (ay x s).toArray.size)∧Hid (Below w.heap.size w v)∧Hid (∀ xs,fY w w.heap.size x xs s→Bx v w.heap.size x xs s):=by
 obtain ⟨u,v,h1,h2,h3,h4,h5⟩:=ep w 40 (ay dM cV) (ay x s) (by rw [dJ hs,dJ cT]);rw [fz] at h1;exact ⟨u,v,h1,h2,h3,h5,fun xs h=>⟨h4.out,h.on h5.out⟩⟩
theorem oQ {x:kX} {s:cO} (h:bA s):(Tryz.prog.info? 40).map (·.size)=some (ay x s).toArray.size:=by rw [List.size_toArray];exact fx h
theorem p7 {w:World} {b:Bool} {m:List UInt8} {e:Ending} {w':World} (h:fW w b m e w') (hb:b=true):∃ A c,e=.returned (.tuple #[.slice A m.length c,.int .i64 0])∧BS w' w'.heap.size A m∧m.length≤c∧Below w.heap.size w w':=by
 obtain ⟨A,c,h1,h2⟩:=h.2.2 hb;exact ⟨A,c,h1,(BS.of_own h2).1,ix h2,h.1⟩
theorem EC (x:kX) (xs:List (fL × dR)) (S:cO) (hS:S=iR) (n:Nat) (P:List UInt8) (hP:P=cB iR) (hn:n=P.length) (w:World) (h:fY w w.heap.size x xs S):Calls Tryz.prog 11 #[.agg (ay x S).toArray] w fun e w'=>∃ A c,e=.returned (.tuple #[.slice A n c,.int .i64 0])∧BS w' w'.heap.size A P∧n≤c∧Below w.heap.size w w':=by
 subst hS hn hP;exact (pZ h).mono fun e w' he=>p7 he gY
theorem Er (x:kX) (xs:List (fL × dR)) (S:cO) (hS:S=iR) (n:Nat) (P:List UInt8) (hP:P=dc iR) (hn:n=P.length) (w:World) (h:fY w w.heap.size x xs S):Calls Tryz.prog 12 #[.agg (ay x S).toArray] w fun e w'=>∃ A c,e=.returned (.tuple #[.slice A n c,.int .i64 0])∧BS w' w'.heap.size A P∧n≤c∧Below w.heap.size w w':=by
 subst hS hn hP;exact (oy h).mono fun e w' he=>p7 he (nA fF gY).1
theorem Eb (n:Nat) (P:List UInt8) (hP:P=ca lK) (hn:n=P.length) (w:World):Calls Tryz.prog 20 #[.agg (jE (⟨none,0,none,0⟩,lK)).toArray] w fun e w'=>∃ A c,e=.returned (.tuple #[.slice A n c,.int .i64 0])∧BS w' w'.heap.size A P∧n≤c∧Below w.heap.size w w':=by
 subst hn hP;exact (nw (⟨none,0,none,0⟩,lK) gZ w (BS.nil _ _ _)).mono fun e w' he=>p7 he ((nA fF gY).2 lK (by simp [iR])).2
theorem ED (w:World):Calls Tryz.prog 11 #[.agg (ay dM cV).toArray] w fun e w'=>e=.returned (.tuple #[.slice none 0 0,.int .i64 1])∧Below w.heap.size w w' :=
 (pZ (ea.zero w w.heap.size).held).mono fun e w' he=>⟨he.2.1 vT,he.1⟩
theorem Cc (A:Option Addr) (n c:Nat) (l:List UInt8) (w:World) (hn:n=l.length) (hb:BS w w.heap.size A l) (hl:n≤15000000) (hc:n≤c) (S:cO) (m f:Nat) (zm zf:Int) (hr:bu l=(S,m,f)) (hm:(m:Int)=zm) (hf:(f:Int)=zf) :
  Calls Tryz.prog 18 #[.slice A n c] w fun e w'=>∃ x xs,e=.returned (.tuple #[.agg (ay x S).toArray,.int .i64 zm,.int .i64 zf])∧fY w' w'.heap.size x xs S∧Below w.heap.size w w':=by
 subst hf hm;refine (uh A n c l w hn hb hl hc).mono ?_;rintro e w' ⟨hb2,x,xs,rfl,ho⟩;rw [hr] at ho ⊢;exact ⟨x,xs,rfl,ho.held,hb2⟩
theorem Es {x y:kX} {xs ys:List (fL × dR)} {S T:cO} (hS:S=iR) (hT:T=iR) {w:World} (hx:fY w w.heap.size x xs S) (hy:fY w w.heap.size y ys T):Calls Tryz.prog 19 #[.agg (ay x S).toArray,.agg (ay y T).toArray] w fun e w'=>e=.returned (.bool true)∧Below w.heap.size w w':=by
 subst hS hT;have:=qk hx hy;rwa [Cb] at this
theorem Cd {x:kX} {xs:List (fL × dR)} {S:cO} (hS:S=iR) {w:World} (hx:fY w w.heap.size x xs S):Calls Tryz.prog 13 #[.agg (ay x S).toArray] w fun e w'=>e=.returned (.bool true)∧Below w.heap.size w w':=by
 subst hS;have:=nu hx;rwa [gY] at this
theorem vV:Tryz.prog.built 40 []=some (ay dM cV).toArray:=by kernel_rfl
theorem Dg (w:World):Calls Tryz.prog 21 #[.int .i64 12,.int .i64 1] w fun e w'=>e=.returned (.tuple #[.string ⟨#[48,48,48,48,49,50,46,108,111,103]⟩,.bool true])∧Below w.heap.size w w':=by
 have:=kW 12 1 w;rwa [D8] at this
theorem Ce (w:World):Calls Tryz.prog 21 #[.int .i64 1000000,.int .i64 1] w fun e w'=>e=.returned (.tuple #[.string ⟨#[]⟩,.bool false])∧Below w.heap.size w w':=by
 have:=kW 1000000 1 w;rwa [Df] at this
theorem Dh (w:World):Calls Tryz.prog 23 #[.string ⟨#[48,48,48,48,49,50,46,99,97,112]⟩] w fun e w'=>e=.returned (.tuple #[.int .i64 12,.int .i64 2,.bool true])∧Below w.heap.size w w':=by
 have:=fS [48,48,48,48,49,50,46,99,97,112] (by decide) w;rwa [D9] at this
theorem Di (w:World):Calls Tryz.prog 23 #[.string ⟨#[49,50,46,99,97,112]⟩] w fun e w'=>e=.returned (.tuple #[.int .i64 0,.int .i64 0,.bool false])∧Below w.heap.size w w':=by
 have:=fS [49,50,46,99,97,112] (by decide) w;rwa [Ea] at this
end Go.Proofs.YtaafkokfdgfabaaGreat
