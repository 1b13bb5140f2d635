import Derived.Test.YtaafkokfdgfabaaGreatP13
import Derived.Test.YtaafkokfdgfabaaGreatP23
import Derived.Test.YtaafkokfdgfabaaGreatP24
import Derived.Test.YtaafkokfdgfabaaGreatP30
import Derived.Test.YtaafkokfdgfabaaGreatP31
import Derived.Test.YtaafkokfdgfabaaGreatP32
import Derived.Test.YtaafkokfdgfabaaGreatP34
set_option maxHeartbeats 8000000
namespace Go.Proofs.YtaafkokfdgfabaaGreat
open Go.RowKit
set_option linter.unusedVariables false
set_option linter.unusedSimpArgs false
def nD (p q:lS):Bool:=p.version == q.version && sr bw p.backs q.backs
def lB (a b:bh):Bool:=nD a.pool b.pool && (sr fV a.healths b.healths && (sr i9 a.flows b.flows && (a.tick == b.tick && (a.no == b.no && a.count == b.count))))
set_option maxRecDepth 100000 in
theorem tU (A:Option Addr) (n c:Nat) (p:lS) (A':Option Addr) (n' c':Nat) (q:lS) (w:World) (hn:n=p.backs.length) (hn':n'=q.backs.length) (hnc:n≤c) (hnc':n'≤c') (ha:RW ag 27 w w.heap.size A p.backs) (hb:RW ag 27 w w.heap.size A' q.backs) (hl:n≤1000000) (hl':n'≤1000000) (hs:∀ b ∈ p.backs,au b) (hs2:∀ b ∈ q.backs,au b) :
  Calls Tryz.prog 107 #[.agg (fN A n c p).toArray,.agg (fN A' n' c' q).toArray] w fun e w'=>e=.returned (.bool (nD p q))∧Below w.heap.size w w':=by
 obtain ⟨W1,W,HW1,HW,Hs1,HX,HY,HB⟩:=k7 w 32 32 (fN A n c p).toArray (fN A' n' c' q).toArray;have HA:=Lib.hid ((ha.below HB.out).more HB.out.size);have HA':=Lib.hid ((hb.below HB.out).more HB.out.size);have Hn:=Lib.hid hn;have Hn':=Lib.hid hn';have Hs:=Lib.hid hs;have Hs2:=Lib.hid hs2;have b0:W.cell? ⟨w.heap.size,0,none⟩=some (.int .i64 p.version):=HX.out.cell 0;have b1:W.cell? ⟨w.heap.size,1,none⟩=some (.slice A n c):=HX.out.cell 1;have d0:W.cell? ⟨w.heap.size + 1,0,none⟩=some (.int .i64 q.version):=HY.out.cell 0;have d1:W.cell? ⟨w.heap.size + 1,1,none⟩=some (.slice A' n' c'):=HY.out.cell 1;have l0:w.heap.size<W.heap.size:=HX.out.lt;have l1:w.heap.size + 1<W.heap.size:=HY.out.lt;obtain ⟨r,hr⟩:∃ r,r=nD p q:=⟨_,rfl⟩
 rw [←hr];have Hr:=Lib.hid hr;clear ha hb hn hn' hs hs2 hr;go_enter Tryz.func107,Tryz.ntmps107
 go_upto_region 1 with fail
 rw [←HW1.out,←HW.out];obtain ⟨T,hT⟩:∃ T,T=((p.version != q.version) || ((n:Int) != (n':Int))):=⟨_,rfl⟩
 refine Sd.plain ?_
 repeat ((first | refine po ?_ | refine gp ?_ | refine pt ?_);simp only [ld,lg,lf,Nat.reduceAdd])
 rw [←hT];refine Sd.done fun w2 hb2=>?_
 have Hb2:=Lib.hid hb2;have HT:=Lib.hid hT;clear hb2 hT HW HW1;rcases T with _ | _
 rotate_left
 ·have hf:Hid (r=false):=by
   show _=_
   rw [Hr.out];have:=HT.out;unfold nD;rcases hv:(p.version == q.version) with _ | _
   ·rfl
   ·rw [oJ,Bool.and_false]
    rw [←Hn.out,←Hn'.out];intro e;rw [e] at this;simp [bne,hv] at this
  go_wp2
  go_ret
  exact ⟨by rw [hf.out];rfl,HB.out.trans (Hb2.out.mono HB.out.size)⟩
 have hq:(p.version == q.version)=true∧n=n':=by
  have:=HT.out;simp only [Bool.false_eq,Bool.or_eq_false_iff,bne_eq_false_iff_eq] at this;exact ⟨by simp [this.1],by omega⟩
 obtain ⟨hver,rfl⟩:=hq;have Hver:=Lib.hid hver;clear hver HT
 go_wp2
 go_loopw [5] (fun i wr=>∃ k:Nat,k≤n∧i=.int .i64 (k:Int)∧Hid (Below W.heap.size W wr)∧Hid (∀ (i:Nat) a b,i<k→p.backs[i]?=some a→q.backs[i]?=some b→bw a b=true)) (fun i _=>n - (intOf i).toNat)
 case atStart=>exact ⟨0,by omega,rfl,Hb2,fun i a b h=>absurd h (by omega)⟩
 case round =>
  obtain ⟨k,hk,rfl,hbel,hat⟩:=hrel;rename World=>wr
  have r1:=(dc hbel.out _ 1 l0).trans b1;have s1:=(dc hbel.out _ 1 l1).trans d1;by_cases hlt:k<n
  ·have hltI:(k:Int)<(n:Int):=by omega
   have hk0:(0:Int)≤(k:Int):=by omega
   obtain ⟨c1,o1,rfl,hb1,hc1⟩:=(HA.out.below hbel.out) (by rw [←Hn.out];omega);obtain ⟨c2,o2,rfl,hb2,hc2⟩:=(HA'.out.below hbel.out) (by rw [←Hn'.out];omega);obtain ⟨x,hx⟩:∃ x,p.backs[k]?=some x:=⟨_,List.getElem?_eq_getElem (by rw [←Hn.out];exact hlt)⟩
   obtain ⟨y,hy⟩:∃ y,q.backs[k]?=some y:=⟨_,List.getElem?_eq_getElem (by rw [←Hn'.out];exact hlt)⟩
   have Hx:=Lib.hid (hc1 k x hx);have Hy:=Lib.hid (hc2 k y hy);have m1:c1<wr.heap.size:=Nat.lt_of_lt_of_le hb1 hbel.out.size;have m2:c2<wr.heap.size:=Nat.lt_of_lt_of_le hb2 hbel.out.size;have m3:w.heap.size<wr.heap.size:=Nat.lt_of_lt_of_le l0 hbel.out.size;have m4:w.heap.size + 1<wr.heap.size:=Nat.lt_of_lt_of_le l1 hbel.out.size;have Hxo:=Lib.hid (Hs.out x (List.mem_of_getElem? hx));have Hyo:=Lib.hid (Hs2.out y (List.mem_of_getElem? hy));have Hno:Hid (bw x y=false→r=false):=fun h=>by rw [Hr.out];unfold nD;rw [qZ k hx hy h,Bool.and_false]
   have Hyes:Hid (bw x y=true→∀ (i:Nat) a b,i<k + 1→p.backs[i]?=some a→q.backs[i]?=some b→bw a b=true):=fun h i a b hi ha hb=>by
    rcases Nat.lt_or_ge i k with h1 | h1
    ·exact hat.out i a b h1 ha hb
    ·obtain rfl:i=k:=by omega
     rw [hx] at ha;rw [hy] at hb;injection ha with ha
     injection hb with hb
     rw [←ha,←hb];exact h
   clear hc1 hc2 hx hy hat b1 d1;go_upto_region 6 with fail
   refine Sd.start ?_
   repeat ((first | refine sl Hx.out m1 bW (by rw [bq Hxo.out];exact oY) ?_ | refine sl Hy.out m2 bW (by rw [bq Hyo.out];exact oY) ?_ | refine cl (fun u hu=>pv x y Hxo.out Hyo.out u) ?_ | refine pt ?_);simp only [ld,lg,lf,Nat.reduceAdd])
   refine Sd.done fun w3 hb3=>?_
   have Hb3:=Lib.hid (hbel.out.trans (hb3.mono hbel.out.size));clear hb3 hbel r1 s1;rcases hv:bw x y with _ | _
   ·have hf:=Lib.hid (Hno.out hv)
    simp only [hv,Bool.not_false];clear hv
    go_wp2
    go_ret
    exact ⟨by rw [hf.out];rfl,HB.out.trans (Hb3.out.mono HB.out.size)⟩
   ·have hf:=Lib.hid (Hyes.out hv)
    simp only [hv,Bool.not_true];clear hv
    go_wp2
    go_roundw
    case rel=>exact ⟨k + 1,by omega,by go_num,Hb3,hf⟩
    case measure=>simp [intOf];omega
  ·have hltI:¬ (k:Int)<(n:Int):=by omega
   have hf:Hid (r=true):=by
    show _=_
    rw [Hr.out];unfold nD;rw [Hver.out,Bool.true_and];exact qY (Hn.out.symm.trans Hn'.out) fun i a b ha hb=>hat.out i a b (by have:=(List.getElem?_eq_some_iff.1 ha).1;rw [←Hn.out] at this;omega) ha hb
   go_wp2
   go_ret
   exact ⟨by rw [hf.out];rfl,HB.out.trans (hbel.out.mono HB.out.size)⟩
theorem EJ {P:Program} {op:Oper} {a:Act} {ty tz:TypeId} {x y:Operand} (xs ys:Array Value) (r:Bool) (w:World) (hm:P.eqGuardType P.depth ty=false) (he:(Op.equalIn 10000 ty (.agg xs) (.agg ys)).run P w=.ok r w) (ho:op.op=.binOp .eql ty x y tz) (hx:a.eval x=.agg xs) (hy:a.eval y=.agg ys):(execOp a.eval op).run P w=.ok (.value (.bool r)) w:=by
 unfold execOp;simp only [ho,hx,hy,Sem.run_bind,run_eqGuard_agg w _ _ _ _ _ _ hm,Result.andThen_ok,run_eql_struct,he,Sem.run_pure]
theorem ss:Tryz.prog.underlying 35=some (.array 11 3):=Tryz.underlying35
theorem vG:(Tryz.prog.info? 35).map (·.size)=some 11:=by kernel_rfl
theorem By:Tryz.prog.eqGuardType Tryz.prog.depth 35=false:=by kernel_rfl
set_option maxRecDepth 100000 in
theorem rC (x:nG) (s:bh) (y:nG) (t:bh) (w:World) (hs:mJ w w.heap.size x s) (ht:mJ w w.heap.size y t) :
  Calls Tryz.prog 48 #[.agg (dh x s).toArray,.agg (dh y t).toArray] w fun e w'=>e=.returned (.bool (lB s t))∧Below w.heap.size w w':=by
 obtain ⟨W1,W,HW1,HW,Hs1,HX,HY,HB⟩:=k7 w 37 37 (dh x s).toArray (dh y t).toArray;have HS:=Lib.hid (hs.on HB.out);have HT:=Lib.hid (ht.on HB.out);have a1:W.cell? ⟨w.heap.size,2,none⟩=some (.slice x.h s.healths.length x.ch):=HX.out.cell 2;have a2:W.cell? ⟨w.heap.size,3,none⟩=some (.slice x.f s.flows.length x.cf):=HX.out.cell 3;have a3:W.cell? ⟨w.heap.size,4,none⟩=some (.int .i64 s.tick):=HX.out.cell 4;have a4:W.cell? ⟨w.heap.size,5,none⟩=some (.int .i64 s.no):=HX.out.cell 5;have b1:W.cell? ⟨w.heap.size + 1,2,none⟩=some (.slice y.h t.healths.length y.ch):=HY.out.cell 2;have b2:W.cell? ⟨w.heap.size + 1,3,none⟩=some (.slice y.f t.flows.length y.cf):=HY.out.cell 3;have b3:W.cell? ⟨w.heap.size + 1,4,none⟩=some (.int .i64 t.tick):=HY.out.cell 4;have b4:W.cell? ⟨w.heap.size + 1,5,none⟩=some (.int .i64 t.no):=HY.out.cell 5;have l0:w.heap.size<W.heap.size:=HX.out.lt;have l1:w.heap.size + 1<W.heap.size:=HY.out.lt;have Hc1:=Lib.hid HS.out.ok.count;have Hc2:=Lib.hid HT.out.ok.count;have hcs:(s.count.map zv).length=11:=by rw [List.length_map];exact Hc1.out
 have hct:(t.count.map zv).length=11:=by rw [List.length_map];exact Hc2.out
 have Hcs:=Lib.hid hcs;have Hct:=Lib.hid hct;clear hs ht hcs hct;go_enter Tryz.func48,Tryz.ntmps48
 go_upto_region 1 with fail
 rw [←HW1.out,←HW.out];refine Sd.plain ?_
 repeat ((first
  | refine pa ?_
  | refine sl (pW HX.out) l0 lr mD ?_
  | refine sl (pW HY.out) l1 lr mD ?_
  | refine gs (oG HX.out) l0 ss (by rw [Hcs.out];exact vG) ?_
  | refine gs (oG HY.out) l1 ss (by rw [Hct.out];exact vG) ?_
  | refine cl (fun u hu=>tU x.b s.pool.backs.length x.cb s.pool y.b t.pool.backs.length y.cb t.pool u rfl rfl HS.out.cb.1 HT.out.cb.1 (HS.out.on hu).held.backs (HT.out.on hu).held.backs HS.out.cb.2 HT.out.cb.2 HS.out.ok.backs HT.out.ok.backs) ?_
  | refine gc (fun u hu=>tS x.h s.healths.length x.ch s.healths y.h t.healths.length y.ch t.healths u rfl rfl HS.out.ch.1 HT.out.ch.1 (HS.out.on hu).held.healths (HT.out.on hu).held.healths HS.out.ch.2 HT.out.ch.2) ?_
  | refine gc (fun u hu=>tT x.f s.flows.length x.cf s.flows y.f t.flows.length y.cf t.flows u rfl rfl HS.out.cf.1 HT.out.cf.1 (HS.out.on hu).held.flows (HT.out.on hu).held.flows HS.out.cf.2 HT.out.cf.2 HS.out.ok.flows HT.out.ok.flows) ?_
  | refine gp ?_ | refine pt ?_);simp only [ld,lg,lf,Nat.reduceAdd])
 refine gp (v:=.bool (s.count == t.count)) ?_ (hv:=?_);rotate_left
 ·intro hb u _
  simp only [lU hb];exact EJ _ _ _ u By (kM (P:=Tryz.prog) u 9998 35 3 11 Tryz.underlying35 Tryz.underlying3 gZ s.count t.count Hc1.out Hc2.out) rfl rfl rfl
 simp only [ld,lg,lf,Nat.reduceAdd]
 repeat ((first | refine pa ?_ | refine pt ?_);simp only [ld,lg,lf,Nat.reduceAdd])
 refine Sd.done fun w2 hb2=>?_
 have Hb2:=Lib.hid hb2;clear hb2
 go_wp2
 go_ret
 exact ⟨by simp only [lB,Bool.and_assoc];rfl,HB.out.trans (Hb2.out.mono HB.out.size)⟩
end Go.Proofs.YtaafkokfdgfabaaGreat
namespace Go.Proofs.YtaafkokfdgfabaaGreat
open Go.RowKit
set_option linter.unusedVariables false
set_option linter.unusedSimpArgs false
def eV (a b:bT):Bool:=mN a.conf b.conf && (a.first == b.first && (a.lost == b.lost && (lB a.st b.st && sr gF a.evs b.evs)))
set_option maxRecDepth 100000 in
theorem mW {x:jM} {xs:List (dL × da)} {s:bT} {y:jM} {ys:List (dL × da)} {t:bT} {w:World} (hx:eF w w.heap.size x xs s) (hy:eF w w.heap.size y ys t) :
  Calls Tryz.prog 19 #[.agg (ar x s).toArray,.agg (ar y t).toArray] w fun e w'=>e=.returned (.bool (eV s t))∧Below w.heap.size w w':=by
 obtain ⟨W1,W,HW1,HW,Hs1,HX,HY,HB⟩:=k7 w 40 40 (ar x s).toArray (ar y t).toArray;have HS:=Lib.hid (hx.on HB.out);have HT:=Lib.hid (hy.on HB.out);have Hsh:=Lib.hid hx.sh;have Hth:=Lib.hid hy.sh;obtain ⟨n,hn⟩:∃ n,n=s.evs.length:=⟨_,rfl⟩
 obtain ⟨n',hn'⟩:∃ n,n=t.evs.length:=⟨_,rfl⟩
 have Hnx:Hid (n=xs.length):=by show _=_;rw [hn,hx.len]
 have Hny:Hid (n'=ys.length):=by show _=_;rw [hn',hy.len]
 have Hn:=Lib.hid hn;have Hn':=Lib.hid hn';have a0:W.cell? ⟨w.heap.size,54,none⟩=some (.int .i64 s.first):=gB hx.sh HX.out 0;have a1:W.cell? ⟨w.heap.size,55,none⟩=some (.int .i64 s.lost):=gB hx.sh HX.out 1;have a2:W.cell? ⟨w.heap.size,73,none⟩=some (.slice x.e n x.ce):=by rw [hn];exact ip hx.sh HX.out
 have b0:W.cell? ⟨w.heap.size + 1,54,none⟩=some (.int .i64 t.first):=gB hy.sh HY.out 0;have b1:W.cell? ⟨w.heap.size + 1,55,none⟩=some (.int .i64 t.lost):=gB hy.sh HY.out 1;have b2:W.cell? ⟨w.heap.size + 1,73,none⟩=some (.slice y.e n' y.ce):=by rw [hn'];exact ip hy.sh HY.out
 have l0:w.heap.size<W.heap.size:=HX.out.lt;have l1:w.heap.size + 1<W.heap.size:=HY.out.lt;have hnc:n≤x.ce:=by rw [hn];exact hx.ce.1
 have hnc':n'≤y.ce:=by rw [hn'];exact hy.ce.1
 have hnl:n≤1000000:=by rw [hn];exact hx.ce.2
 have hnl':n'≤1000000:=by rw [hn'];exact hy.ce.2
 have Hsz:=Lib.hid (dl (x:=x) hx.sh);obtain ⟨r,hr⟩:∃ r,r=eV s t:=⟨_,rfl⟩
 rw [←hr];have Hr:=Lib.hid hr;have He:Hid (∀ (i:Nat) (p q:dL × da),xs[i]?=some p→ys[i]?=some q→s.evs[i]?=some p.2∧t.evs[i]?=some q.2):=fun i p q h1 h2=>by
  rw [hx.ev,hy.ev,List.getElem?_map,List.getElem?_map,h1,h2];exact ⟨rfl,rfl⟩
 clear hx hy hn hn' hr;go_enter Tryz.func19,Tryz.ntmps19
 go_upto_region 1 with fail
 rw [←HW1.out,←HW.out];obtain ⟨T,hT⟩:∃ T,T=(!mN s.conf t.conf || s.first != t.first || s.lost != t.lost || !lB s.st t.st || (n:Int) != (n':Int)):=⟨_,rfl⟩
 refine Sd.plain ?_
 repeat ((first
  | refine po ?_
  | refine sl (kL Hsh.out HX.out) l0 eL (by rw [dH Hsh.out.conf];exact cV) ?_
  | refine sl (kL Hth.out HY.out) l1 eL (by rw [dH Hth.out.conf];exact cV) ?_
  | refine gs (nC Hsh.out HX.out) l0 fh (ma Hsh.out.st) ?_
  | refine gs (nC Hth.out HY.out) l1 fh (ma Hth.out.st) ?_
  | refine cl (fun u hu=>vD x.v s.conf.vips.length x.cv s.conf y.v t.conf.vips.length y.cv t.conf Hsh.out.conf Hth.out.conf u rfl rfl ((HS.out.on hu).vs) ((HT.out.on hu).vs) HS.out.cv.2 HT.out.cv.2) ?_
  | refine gc (fun u hu=>rC x.st s.st y.st t.st u (HS.out.on hu).st (HT.out.on hu).st) ?_
  | refine gp ?_ | refine pt ?_);simp only [ld,lg,lf,Nat.reduceAdd])
 rw [←hT];refine Sd.done fun w2 hb2=>?_
 have Hb2:=Lib.hid hb2;have HQ:=Lib.hid hT;clear hb2 hT HW HW1;rcases T with _ | _
 rotate_left
 ·have hf:Hid (r=false):=by
   show _=_
   rw [Hr.out];have h1:=HQ.out.symm;rcases hv:eV s t with _ | _
   ·rfl
   ·unfold eV at hv
    simp only [Bool.and_eq_true,beq_iff_eq] at hv;obtain ⟨c1,c2,c3,c4,c5⟩:=hv;have c6:n=n':=Decidable.by_contra fun h=>by
     rw [oJ (by rw [←Hn.out,←Hn'.out];exact h)] at c5;exact Bool.noConfusion c5
    simp [c1,c2,c3,c4,c6] at h1
  go_wp2
  go_ret
  exact ⟨by rw [hf.out];rfl,HB.out.trans (Hb2.out.mono HB.out.size)⟩
 have hq:(mN s.conf t.conf=true∧s.first=t.first∧s.lost=t.lost∧lB s.st t.st=true)∧n=n':=by
  have h1:=HQ.out;simp only [Bool.false_eq,Bool.or_eq_false_iff,bne_eq_false_iff_eq,Bool.not_eq_false'] at h1;obtain ⟨⟨⟨⟨c1,c2⟩,c3⟩,c4⟩,c5⟩:=h1;exact ⟨⟨c1,c2,c3,c4⟩,by omega⟩
 obtain ⟨hver,rfl⟩:=hq;have Hver:=Lib.hid hver;clear hver HQ
 go_wp2
 go_loopw [5] (fun i wr=>∃ k:Nat,k≤n∧i=.int .i64 (k:Int)∧Hid (Below W.heap.size W wr)∧Hid (∀ (i:Nat) a b,i<k→s.evs[i]?=some a→t.evs[i]?=some b→gF a b=true)) (fun i _=>n - (intOf i).toNat)
 case atStart=>exact ⟨0,by omega,rfl,Hb2,fun i a b h=>absurd h (by omega)⟩
 case round =>
  obtain ⟨k,hk,rfl,hbel,hat⟩:=hrel;rename World=>wr
  have r2:=(dc hbel.out _ 73 l0).trans a2;have s2:=(dc hbel.out _ 73 l1).trans b2;by_cases hlt:k<n
  ·have hltI:(k:Int)<(n:Int):=by omega
   have hk0:(0:Int)≤(k:Int):=by omega
   obtain ⟨c1,o1,h1,hb1,hc1⟩:=(HS.out.evs.below hbel.out) (by rw [←Hnx.out];omega);obtain ⟨c2,o2,h2,hb2,hc2⟩:=(HT.out.evs.below hbel.out) (by rw [←Hny.out];omega);rw [h1] at r2;rw [h2] at s2;obtain ⟨p,hp⟩:∃ p,xs[k]?=some p:=⟨_,List.getElem?_eq_getElem (by rw [←Hnx.out];exact hlt)⟩
   obtain ⟨q,hq⟩:∃ q,ys[k]?=some q:=⟨_,List.getElem?_eq_getElem (by rw [←Hny.out];exact hlt)⟩
   have Hp:=Lib.hid (hc1 k p hp);have Hq:=Lib.hid (hc2 k q hq);have m1:c1<wr.heap.size:=Nat.lt_of_lt_of_le hb1 hbel.out.size;have m2:c2<wr.heap.size:=Nat.lt_of_lt_of_le hb2 hbel.out.size;have m3:w.heap.size<wr.heap.size:=Nat.lt_of_lt_of_le l0 hbel.out.size;have m4:w.heap.size + 1<wr.heap.size:=Nat.lt_of_lt_of_le l1 hbel.out.size;have Hpo:=Lib.hid (HS.out.shp (List.mem_of_getElem? hp));have Hqo:=Lib.hid (HT.out.shp (List.mem_of_getElem? hq));have Hpf:=Lib.hid ((HS.out.on hbel.out).fr p (List.mem_of_getElem? hp));have Hqf:=Lib.hid ((HT.out.on hbel.out).fr q (List.mem_of_getElem? hq));have Hpq:=Lib.hid (He.out k p q hp hq);have Hno:Hid (gF p.2 q.2=false→r=false):=fun h=>by
    rw [Hr.out];unfold eV;rw [qZ k Hpq.out.1 Hpq.out.2 h];simp only [Bool.and_false]
   have Hyes:Hid (gF p.2 q.2=true→∀ (i:Nat) a b,i<k + 1→s.evs[i]?=some a→t.evs[i]?=some b→gF a b=true):=fun h i a b hi ha hb=>by
    rcases Nat.lt_or_ge i k with h1 | h1
    ·exact hat.out i a b h1 ha hb
    ·obtain rfl:i=k:=by omega
     rw [Hpq.out.1] at ha;rw [Hpq.out.2] at hb;injection ha with ha
     injection hb with hb
     rw [←ha,←hb];exact h
   clear hc1 hc2 hp hq hat a2 b2 h1 h2;go_upto_region 6 with fail
   refine Sd.start ?_
   repeat ((first | refine sl Hp.out m1 dz (jL Hpo.out) ?_ | refine sl Hq.out m2 dz (jL Hqo.out) ?_ | refine cl (fun u hu=>s8 p.1.f p.1.cf p.1.o p.1.co p.2 q.1.f q.1.cf q.1.o q.1.co q.2 Hpo.out Hqo.out u ((Hpf.out.1.below hu).more hu.size) ((Hqf.out.1.below hu).more hu.size) ((Hpf.out.2.below hu).more hu.size) ((Hqf.out.2.below hu).more hu.size)) ?_ | refine pt ?_);simp only [ld,lg,lf,Nat.reduceAdd])
   refine Sd.done fun w3 hb3=>?_
   have Hb3:=Lib.hid (hbel.out.trans (hb3.mono hbel.out.size));clear hb3 hbel r2 s2;rcases hv:gF p.2 q.2 with _ | _
   ·have hf:=Lib.hid (Hno.out hv)
    simp only [hv,Bool.not_false];clear hv
    go_wp2
    go_ret
    exact ⟨by rw [hf.out];rfl,HB.out.trans (Hb3.out.mono HB.out.size)⟩
   ·have hf:=Lib.hid (Hyes.out hv)
    simp only [hv,Bool.not_true];clear hv
    go_wp2
    go_roundw
    case rel=>exact ⟨k + 1,by omega,by go_num,Hb3,hf⟩
    case measure=>simp [intOf];omega
  ·have hltI:¬ (k:Int)<(n:Int):=by omega
   have hf:Hid (r=true):=by
    show _=_
    rw [Hr.out];unfold eV;rw [Hver.out.1,Hver.out.2.1,Hver.out.2.2.1,Hver.out.2.2.2,beq_self_eq_true,beq_self_eq_true,Bool.true_and,Bool.true_and,Bool.true_and,Bool.true_and];exact qY (Hn.out.symm.trans Hn'.out) fun i a b ha hb=>hat.out i a b (by have:=(List.getElem?_eq_some_iff.1 ha).1;rw [←Hn.out] at this;omega) ha hb
   go_wp2
   go_ret
   exact ⟨by rw [hf.out];rfl,HB.out.trans (hbel.out.mono HB.out.size)⟩
end Go.Proofs.YtaafkokfdgfabaaGreat
namespace Go.Proofs.YtaafkokfdgfabaaGreat
open Go.RowKit
set_option linter.unusedVariables false
set_option linter.unusedSimpArgs false
theorem DE {s:bT} (hs:bf s) (h:gY s=true):(bF s).length≤1048576∧(eu s.st).length≤1048576:=by
 have h1:=oI hs h;have h2:=cP (bF s);have h3:=cP (eu s.st);unfold cj at h1;rw [List.length_append] at h1;omega
theorem yp {b x y:List UInt8} {n m:Nat} {h:bT} {st:bh} (n1:aH b=(x,n,0)) (g1:fp x=some h) (n2:aH (b.drop n)=(y,m,0)) (g2:gN y=some st) (hb:gY { h with st:=st }=true) :
  aR b=({ h with st:=st,evs:=(dU (b.drop (n + m))).1 },n + m + (dU (b.drop (n + m))).2.1,(dU (b.drop (n + m))).2.2):=by
 unfold aR;rw [n1];simp only [ne_eq,not_true,if_false,g1,n2,g2,hb,if_true]
theorem vH {s:bT} (hs:bf s) (h:gY s=true) (m:List UInt8):aR (cj s ++ m)=({ s with evs:=(dU m).1 },(cj s).length + (dU m).2.1,(dU m).2.2):=by
 have hb:=DE hs h;obtain ⟨he,hsn,hf,hl⟩:=mf h;have n1:aH (cj s ++ m)=(bF s,(dE (bF s)).length,0):=by unfold cj;rw [List.append_assoc];exact lY hb.1 _
 have d1:(cj s ++ m).drop (dE (bF s)).length=dE (eu s.st) ++ m:=by unfold cj;rw [List.append_assoc,List.drop_left]
 have n2:=lY hb.2 m;rw [←d1] at n2;have hlen:(cj s).length=(dE (bF s)).length + (dE (eu s.st)).length:=by unfold cj;rw [List.length_append]
 have d2:(cj s ++ m).drop ((dE (bF s)).length + (dE (eu s.st)).length)=m:=by rw [←hlen,List.drop_left]
 have g1:fp (bF s)=_:=Gn hs.conf (fQ.1 (mC.1 he).conf) hf ⟨hl.1,by omega⟩;have h1:=yp n1 g1 n2 (xy hs.st hsn) h;rw [d2,←hlen] at h1;exact h1
theorem ji {s:bT} (hs:bf s) (h:i7 s=true):gY s=true∧∀ e ∈ s.evs,aB e∧aL e=true:=by
 unfold i7 at h;rw [Bool.and_eq_true,List.all_eq_true] at h;exact ⟨h.2,fun e he=>⟨hs.evs e he,h.1 e he⟩⟩
def lC (s:bT):bT:={ s with evs:=s.evs.map fG }
theorem rf {s:bT} (hs:bf s) (h:i7 s=true) (m:List UInt8):aR (bA s ++ m)=({ s with evs:=s.evs.map fG ++ (dU m).1 },(bA s).length + (dU m).2.1,(dU m).2.2):=by
 obtain ⟨hb,he⟩:=ji hs h;unfold bA;rw [List.append_assoc,vH hs hb,Di _ he,List.length_append,Nat.add_assoc]
theorem vI {s:bT} (hs:bf s) (h:i7 s=true):aR (bA s)=(lC s,(bA s).length,0):=by
 have h1:=rf hs h [];rw [List.append_nil,oD,List.append_nil] at h1;exact h1
theorem Bz {s:bT} (hs:bf s) (h:gY s=true) (m:List UInt8) {j:Nat} (hj:j<(cj s).length):aR ((cj s ++ m).take j)=(cM,0,2):=by
 have hb:=DE hs h;obtain ⟨he,hsn,hf,hl⟩:=mf h;have hlen:(cj s).length=(dE (bF s)).length + (dE (eu s.st)).length:=by unfold cj;rw [List.length_append]
 rw [List.take_append_of_le_length (by omega)];by_cases hc:j<(dE (bF s)).length
 ·have n1:aH ((cj s).take j)=([],0,2):=by
   unfold cj;rw [List.take_append_of_le_length (by omega)];exact qG hb.1 hc
  unfold aR;rw [n1];rfl
 ·have et:(cj s).take j=dE (bF s) ++ (dE (eu s.st)).take (j - (dE (bF s)).length):=by
   unfold cj;rw [List.take_append,List.take_of_length_le (by omega)]
  have g1:fp (bF s)=_:=Gn hs.conf (fQ.1 (mC.1 he).conf) hf ⟨hl.1,by omega⟩;have n2:=qG hb.2 (j:=j - (dE (bF s)).length) (by omega);rw [et];unfold aR;rw [lY hb.1];simp only [ne_eq,not_true,if_false,g1,List.drop_left,n2,Nat.reduceEqDiff,not_false_eq_true,if_true]
theorem sw {s:bT} (hs:bf s) (h:i7 s=true) {j:Nat} (h1:(cj s).length≤j) (h2:j<(bA s).length) :
  ∃ k,k<s.evs.length∧(cj s).length + ((s.evs.take k).flatMap bC).length≤j∧j<(cj s).length + ((s.evs.take (k + 1)).flatMap bC).length ∧
   aR ((bA s).take j)=({ s with evs:=(s.evs.take k).map fG },(cj s).length + ((s.evs.take k).flatMap bC).length,if j=(cj s).length + ((s.evs.take k).flatMap bC).length then 0 else 2):=by
 obtain ⟨hb,he⟩:=ji hs h;have hl:(bA s).length=(cj s).length + (s.evs.flatMap bC).length:=by unfold bA;rw [List.length_append]
 obtain ⟨k,k1,k2,k3,k4⟩:=zj s.evs he (j - (cj s).length) (by omega);refine ⟨k,k1,by omega,by omega,?_⟩;have et:(bA s).take j=cj s ++ (s.evs.flatMap bC).take (j - (cj s).length):=by
  unfold bA;rw [List.take_append,List.take_of_length_le h1]
 rw [et,vH hs hb,k4];simp only [Prod.mk.injEq,true_and];by_cases hq:j - (cj s).length=((s.evs.take k).flatMap bC).length
 ·rw [if_pos hq,if_pos (by omega)]
 ·rw [if_neg hq,if_neg (by omega)]
theorem DF (b:List UInt8):(aR b).2.1=0∧(aR b).1=cM∨0<(aR b).2.1∧(aR b).2.1≤b.length∧i7 (aR b).1=true∧b.take (aR b).2.1=bA (aR b).1:=by
 unfold aR;split
 ·exact .inl ⟨rfl,rfl⟩
 ·rename_i hw
  split
  ·exact .inl ⟨rfl,rfl⟩
  ·rename_i h hh
   split
   ·exact .inl ⟨rfl,rfl⟩
   ·rename_i hw2
    split
    ·exact .inl ⟨rfl,rfl⟩
    ·rename_i st hst
     split
     ·rename_i hb
      refine .inr ?_;obtain ⟨he,hsn,hf,hl⟩:=mf hb;simp only at hf hl hsn he;have hp1:=gA (l:=b) (body:=(aH b).1) (n:=(aH b).2.1) (Prod.ext rfl (Prod.ext rfl (by simpa using hw)));have hp2:=gA (l:=b.drop (aH b).2.1) (body:=(aH (b.drop (aH b).2.1)).1) (n:=(aH (b.drop (aH b).2.1)).2.1) (Prod.ext rfl (Prod.ext rfl (by simpa using hw2)));obtain ⟨e1,e2,e3,e4,e5,e6,e7⟩:=Gy hh hf.2 (by omega);obtain ⟨f1,f2,f3⟩:=xz hst;have hev:dU (b.drop ((aH b).2.1 + (aH (b.drop (aH b).2.1)).2.1))=((dU (b.drop ((aH b).2.1 + (aH (b.drop (aH b).2.1)).2.1))).1,(dU (b.drop ((aH b).2.1 + (aH (b.drop (aH b).2.1)).2.1))).2.1,(dU (b.drop ((aH b).2.1 + (aH (b.drop (aH b).2.1)).2.1))).2.2):=rfl;obtain ⟨i1,i2,i3,i4⟩:=FF hev;rw [List.length_drop] at i1 hp2;simp only;refine ⟨by omega,by omega,?_,?_⟩
      ·unfold i7
       rw [Bool.and_eq_true,List.all_eq_true];exact ⟨fun e he=>(i4 e he).1,hb⟩
      ·rw [List.take_add,List.take_add,hp1.2.2.1,hp2.2.2.1,i2,e1,f1]
       rfl
     ·exact .inl ⟨rfl,rfl⟩
end Go.Proofs.YtaafkokfdgfabaaGreat
namespace Go.Proofs.YtaafkokfdgfabaaGreat
open Go.RowKit
set_option linter.unusedVariables false
set_option linter.unusedSimpArgs false
theorem yq (e:da):11≤(bP e).length:=by
 have h1:=iP e.o.version.toNat;have h2:=iP e.o.name.length;have h3:=iP e.len.toNat;simp only [bP,aZ,bI,List.length_append,aw,dd];omega
theorem EK {l body:List UInt8} {n:Nat} {f:da} (h:aH l=(body,n,0)) (hf:eD body=some f):16≤n∧n≤l.length:=by
 obtain ⟨m,j,_,h2,h3,h4,_,h6,h7,h8⟩:=uP h;have:=yq f;rw [←(rZ.1 hf).1] at this;omega
theorem BA {l:List UInt8} {h:bT} (hh:fp l=some h):h.st=cI∧h.evs=[]∧gM h.conf∧ak h.conf:=by
 unfold fp at hh;split at hh
 ·split at hh
  ·rename_i c hc
   split at hh
   ·injection hh with hh
    obtain ⟨_,c2,c3⟩:=lZ.1 hc;rw [←hh];exact ⟨rfl,rfl,c2,c3⟩
   ·cases hh
  ·cases hh
 ·cases hh
theorem BB {x:jM} {h:bT} {y:nG} {st:bh} (hs:bf h) (hst:gG st):mY (ar x h).toArray 56 (dh y st)=(ar { x with st:=y } { h with st:=st }).toArray:=by
 have h1:=dH (A:=x.v) (n:=h.conf.vips.length) (c:=x.cv) hs.conf;have h2:=kb (x:=x.st) hs.st;have h3:=kb (x:=y) hst;rw [gQ _ _ _ (by rw [h3,d9 hs];decide),h3];have e:ar x h=(aj x.v h.conf.vips.length x.cv h.conf ++ [zv h.first,zv h.lost]) ++ (dh x.st h.st ++ [.slice x.e h.evs.length x.ce]):=by simp [ar]
 rw [e,List.take_left' (by simp [h1]),show 56 + 17=56 + 17 from rfl,←List.drop_drop,List.drop_left' (by simp [h1]),List.drop_left' h2];simp [ar]
theorem mH {x:jM} {h:bT} (hs:bf h) {w:World} {g:Nat} {T:TypeId} (hb:ah w g T (ar x h).toArray):w.cell? ⟨g,73,none⟩=some (.slice x.e h.evs.length x.ce)∧w.frozen? ⟨g,73,none⟩=false ∧
  ∀ (A:Option Addr) (c:Nat) (f:da),ah (w.setCell ⟨g,73,none⟩ (.slice A (h.evs.length + 1) c)) g T (ar { x with e:=A,ce:=c } { h with evs:=h.evs ++ [f] }).toArray:=by
 have h1:=dH (A:=x.v) (n:=h.conf.vips.length) (c:=x.cv) hs.conf;have h2:=kb (x:=x.st) hs.st;obtain ⟨a,b,k⟩:=kK (n:=73) (pre:=aj x.v h.conf.vips.length x.cv h.conf ++ (zv h.first :: zv h.lost :: dh x.st h.st)) (u:=.slice x.e h.evs.length x.ce) (post:=[]) hb (by simp [ar]) (by simp [h1,h2]);refine ⟨a,b,fun A c f=>?_⟩;have e:ar { x with e:=A,ce:=c } { h with evs:=h.evs ++ [f] }=(aj x.v h.conf.vips.length x.cv h.conf ++ (zv h.first :: zv h.lost :: dh x.st h.st)) ++ .slice A (h.evs.length + 1) c :: []:=by simp [ar]
 rw [e];exact k _
structure EL (w wr:World) (bs:Nat) (x:jM) (xs:List (dL × da)) (s:bT):Prop where
 res:ah wr w.heap.size 40 (ar dX cM).toArray
 box:ah wr bs 40 (ar x s).toArray
 own:ee wr w.heap.size x xs s
 bel:Below w.heap.size w wr
 ne:w.heap.size≠bs∧w.heap.size≤bs
section
variable {w wr w':World} {bs:Nat} {x:jM} {xs:List (dL × da)} {s:bT}
theorem EL.below (h:EL w wr bs x xs s) (hb:Below wr.heap.size wr w'):EL w w' bs x xs s :=
 ⟨h.res.below hb h.res.lt,h.box.below hb h.box.lt,h.own.below hb,h.bel.trans (hb.mono h.bel.size),h.ne⟩
end
set_option maxRecDepth 100000 in
theorem vJ (A:Option Addr) (n c:Nat) (l:List UInt8) (w:World) (hn:n=l.length) (hb:BS w w.heap.size A l) (hl:n≤15000000) (hc:n≤c) :
  Calls Tryz.prog 18 #[.slice A n c] w (gD w l):=by
 subst hn;obtain ⟨W,hW⟩:∃ W,W=w.alloc (.cells (ar dX cM).toArray 40):=⟨_,rfl⟩
 have HY:Hid (ah W w.heap.size 40 (ar dX cM).toArray):=by rw [hW];exact ah.new w _ _ _ rfl
 have HB:Hid (Below w.heap.size w W):=by rw [hW];exact (Below.refl _ _).alloc (Nat.le_refl _) _
 have HA:=Lib.hid ((hb.below HB.out).more HB.out.size);have HA0:=Lib.hid hb;rw [fU] at hW;have HW:=Lib.hid hW;have Hz0:=Lib.hid (dl (x:=dX) cZ);obtain ⟨R,hR⟩:∃ R,R=aR l:=⟨_,rfl⟩
 have HR:=Lib.hid hR;obtain ⟨bd,n1,e1,h1⟩:∃ a b c,aH l=(a,b,c):=⟨_,_,_,rfl⟩
 have H1:=Lib.hid h1;have Hnx:=Lib.hid (jX A l.length c l W rfl HA.out (by omega) hc);unfold nt at Hnx;rw [h1] at Hnx;clear hW hb hR h1;go_enter Tryz.func18,Tryz.ntmps18
 go_upto_region 1 with fail
 rw [←HW.out];clear HW
 go_wp2_with fail
 refine Hnx.out.mono ?_;rintro e w2 ⟨A2,c2,rfl,hown2,hb2⟩;have HY2:=Lib.hid (HY.out.below hb2 HY.out.lt);have HB2:=Lib.hid (HB.out.trans (hb2.mono HB.out.size));have HA2:=Lib.hid ((HA.out.below hb2).more hb2.size);have Hbd:=Lib.hid (BS.of_own hown2).1;clear hown2 hb2 Hnx HY HB HA;by_cases he1:e1=0
 rotate_left
 ·have he1I:¬ (e1:Int)=0:=by omega
  have hRv:Hid (aR l=(cM,0,e1)):=by show _=_;unfold aR;rw [H1.out];simp only;rw [if_pos he1]
  obtain ⟨W7,hW7,T7,B7,G7⟩:=fx (cs:=ar dX cM) HY2.out (by simp);have HF:Hid (Below w.heap.size w W7):=HB2.out.grown G7.out HB2.out.size (fun k hk=>by injection hk with hk;omega)
  go_wp2_with ((with_reducible refine aM 40 ?_);rw [←fU];refine wpList_store_mid rfl 40 (.tmp 2) (.tmp 21) rfl w.heap.size 0 (ar dX cM).toArray rfl rfl T7.out Hz0.out (cQ _ _) ?_)
  rw [←hW7.out];refine bodyPost_ret (v:=.tuple #[.agg (ar dX cM).toArray,.int .i64 0,.int .i64 (e1:Int)]) (cJ (P:=Tryz.prog) (p:=2) (u:=3) (v:=4) rfl _ _ w.heap.size _ _ _ _ rfl B7.out az rfl Hz0.out) rfl ?_;unfold gD;rw [hRv.out];exact ⟨HF.out,dX,[],rfl,ee.zero _ _⟩
 subst he1;have hp1:=gA H1.out;have hbl:bd.length≤1048576:=hp1.2.2.2
 go_wp2_with fail
 refine (Bt A2 bd.length c2 bd w2 rfl Hbd.out (by omega)).mono ?_;rintro e w3 ⟨hb3,x3,h3,rfl,hsh3,hyes⟩;have HY3:=Lib.hid (HY2.out.below hb3 HY2.out.lt);have HB3:=Lib.hid (HB2.out.trans (hb3.mono HB2.out.size));have HA3:=Lib.hid ((HA2.out.below hb3).more hb3.size);have Hsh3:=Lib.hid hsh3;have Hz3:=Lib.hid (dl (x:=x3) hsh3);obtain ⟨xa,wa,Xa,Ya,Ta,Ba,La⟩:=eQ w3 40 (ar dX cM) (ar x3 h3) (by rw [d9 hsh3,d9 cZ]);rw [fU] at Xa;have HYa:=Lib.hid (HY3.out.below La.out HY3.out.lt);have HBa:=Lib.hid (HB3.out.trans (La.out.mono HB3.out.size));have HAa:=Lib.hid ((HA3.out.below La.out).more La.out.size);have hle:w.heap.size<w3.heap.size:=HY3.out.lt;obtain ⟨bs,hbs⟩:∃ b,b=w3.heap.size:=⟨_,rfl⟩
 have hne1:w.heap.size≠bs:=by omega
 have hne2:w.heap.size≤bs:=by omega
 have Hyes:Hid (∀ h',fp bd=some h'→h3=h'∧i8 wa w.heap.size x3.v x3.cv h3.conf.vips∧x3.st=fS∧x3.e=none∧x3.ce=0):=fun h' he=>by
  obtain ⟨g1,g2,_,g4,g5,g6⟩:=hyes h' he;have g3:=g2.below La.out;exact ⟨g1,⟨bV g3.1 HB2.out.size,g3.2⟩,g4,g5,g6⟩
 obtain ⟨ok,hok⟩:∃ b,b=(fp bd).isSome:=⟨_,rfl⟩
 have Hok:=Lib.hid hok;rw [←hok];clear hb3 hyes hsh3 hok HY2 HB2 HA2 Hbd HA3 HY3 HB3;go_upto_region 5 with (first
  | (rw [←Xa.out];(with_reducible refine aM 40 ?_);refine wpList_store_mid rfl 40 (.tmp 8) (.tmp 26) rfl w3.heap.size 0 (ar x3 h3).toArray rfl rfl Ta.out (by rw [List.size_toArray];exact Hz3.out) (cQ _ _) ?_))
 rw [←Ya.out,←hbs];rw [←hbs] at Ba;clear Xa Ya Ta La hbs hle;rcases ok with _ | _
 ·have hRv:Hid (aR l=(cM,0,3)):=by
   show _=_
   rcases hg:fp bd with _ | h
   ·unfold aR;rw [H1.out];simp only;rw [if_neg (by decide),hg]
   ·have:=Hok.out;rw [hg] at this;cases this
  obtain ⟨W7,hW7,T7,B7,G7⟩:=fx (cs:=ar dX cM) HYa.out (by simp);have HF:Hid (Below w.heap.size w W7):=HBa.out.grown G7.out HBa.out.size (fun k hk=>by injection hk with hk;omega)
  go_wp2_with ((with_reducible refine aM 40 ?_);rw [←fU];refine wpList_store_mid rfl 40 (.tmp 2) (.tmp 30) rfl w.heap.size 0 (ar dX cM).toArray rfl rfl T7.out Hz0.out (cQ _ _) ?_)
  rw [←hW7.out];refine bodyPost_ret (v:=.tuple #[.agg (ar dX cM).toArray,.int .i64 0,.int .i64 3]) (cJ (P:=Tryz.prog) (p:=2) (u:=3) (v:=4) rfl _ _ w.heap.size _ _ _ _ rfl B7.out az rfl Hz0.out) rfl ?_;unfold gD;rw [hRv.out];exact ⟨HF.out,dX,[],rfl,ee.zero _ _⟩
 have hgd:fp bd=some h3:=by
  rcases hg:fp bd with _ | h
  ·have:=Hok.out;rw [hg] at this;cases this
  ·rw [(Hyes.out h hg).1]
 obtain ⟨_,hvo,hst0,he0,hce0⟩:=Hyes.out h3 hgd;have Hgd:=Lib.hid hgd;have Hvo:=Lib.hid hvo;obtain ⟨hs0,hv0,hrc,hcs⟩:=BA hgd;have Hs0:=Lib.hid hs0;have Hv0:=Lib.hid hv0;have hG:EL w wa bs x3 [] h3:=by
  refine ⟨HYa.out,Ba.out,⟨hvo,?_,?_,Hsh3.out,by rw [hv0];rfl,?_,by rw [hv0];decide,by simp⟩,HBa.out,hne1,hne2⟩
  ·have:=(nw hcs hrc).1;omega
  ·rw [hst0,hs0];exact io.zero _ _
  ·rw [hv0,he0,hce0];exact World.ownsRow_nil _ _ _ _
 have HG:=Lib.hid hG;obtain ⟨ad,hA,_,_⟩:=HAa.out (by omega);subst hA;have hn1:n1≤l.length:=hp1.2.1;have hn0:1≤n1:=hp1.1;have hn1c:n1≤c:=by omega
 have Hp1:=Lib.hid hp1;clear hG hgd hvo hst0 he0 hce0 hs0 hv0 hrc hcs HYa HBa Ba hp1 Hsh3 Hz3 Hyes;by_cases hcn:c=n1
 ·have hd0:l.drop n1=[]:=by rw [List.drop_eq_nil_iff];omega
  have hRv:Hid (aR l=(cM,0,2)):=by
   show _=_
   unfold aR;rw [H1.out];simp only;rw [if_neg (by decide),Hgd.out,hd0];rfl
  have hz:l.length - n1=0:=by omega
  have Hz:=Lib.hid hz;have Hnx:=Lib.hid (jX (some ad) 0 0 [] wa rfl (BS.nil _ _ _) (by decide) (by decide));unfold nt at Hnx;rw [show aH []=([],0,2) from rfl] at Hnx;subst hcn;clear hz hd0
  go_wp2_with fail
  refine Hnx.out.mono ?_;rintro e w4 ⟨A4,c4,rfl,hown4,hb4⟩;have HG4:=Lib.hid (HG.out.below hb4);clear hown4 hb4 Hnx HG HAa;obtain ⟨W7,hW7,T7,B7,G7⟩:=fx (cs:=ar dX cM) HG4.out.res (by simp);have HF:Hid (Below w.heap.size w W7):=HG4.out.bel.grown G7.out HG4.out.bel.size (fun k hk=>by injection hk with hk;omega)
  go_wp2_with ((with_reducible refine aM 40 ?_);rw [←fU];refine wpList_store_mid rfl 40 (.tmp 2) (.tmp 41) rfl w.heap.size 0 (ar dX cM).toArray rfl rfl T7.out Hz0.out (cQ _ _) ?_)
  rw [←hW7.out];refine bodyPost_ret (v:=.tuple #[.agg (ar dX cM).toArray,.int .i64 0,.int .i64 2]) (cJ (P:=Tryz.prog) (p:=2) (u:=3) (v:=4) rfl _ _ w.heap.size _ _ _ _ rfl B7.out az rfl Hz0.out) rfl ?_;unfold gD;rw [hRv.out];exact ⟨HF.out,dX,[],rfl,ee.zero _ _⟩
 have Hd1:Hid (l.length - n1=(l.drop n1).length):=by show _=_;rw [List.length_drop]
 have Hbs1:Hid (BS wa wa.heap.size (some (ad.add n1)) (l.drop n1)):=by
  have:=HAa.out.drop (k:=n1) (cap:=c) hc;rw [if_neg hcn] at this;exact this
 go_wp2_with fail
 obtain ⟨b2,n2,e2,h2⟩:∃ a b c,aH (l.drop n1)=(a,b,c):=⟨_,_,_,rfl⟩
 have H2:=Lib.hid h2;have Hnx:=Lib.hid (jX (some (ad.add n1)) (l.length - n1) (c - n1) (l.drop n1) wa Hd1.out Hbs1.out (by omega) (by omega));unfold nt at Hnx;rw [h2] at Hnx;clear h2;refine Hnx.out.mono ?_;rintro e w4 ⟨A4,c4,rfl,hown4,hb4⟩;have HG4:=Lib.hid (HG.out.below hb4);have HA4:=Lib.hid ((HAa.out.below hb4).more hb4.size);have Hb4:=Lib.hid (BS.of_own hown4).1;clear hown4 hb4 Hnx HG HAa Hbs1;by_cases he2:e2=0
 rotate_left
 ·have he2I:¬ (e2:Int)=0:=by omega
  have hRv:Hid (aR l=(cM,0,e2)):=by
   show _=_
   unfold aR;rw [H1.out];simp only;rw [if_neg (by decide),Hgd.out,H2.out];simp only;rw [if_pos he2]
  obtain ⟨W7,hW7,T7,B7,G7⟩:=fx (cs:=ar dX cM) HG4.out.res (by simp);have HF:Hid (Below w.heap.size w W7):=HG4.out.bel.grown G7.out HG4.out.bel.size (fun k hk=>by injection hk with hk;omega)
  go_wp2_with ((with_reducible refine aM 40 ?_);rw [←fU];refine wpList_store_mid rfl 40 (.tmp 2) (.tmp 41) rfl w.heap.size 0 (ar dX cM).toArray rfl rfl T7.out Hz0.out (cQ _ _) ?_)
  rw [←hW7.out];refine bodyPost_ret (v:=.tuple #[.agg (ar dX cM).toArray,.int .i64 0,.int .i64 (e2:Int)]) (cJ (P:=Tryz.prog) (p:=2) (u:=3) (v:=4) rfl _ _ w.heap.size _ _ _ _ rfl B7.out az rfl Hz0.out) rfl ?_;unfold gD;rw [hRv.out];exact ⟨HF.out,dX,[],rfl,ee.zero _ _⟩
 subst he2;have hp2:=gA H2.out;have hbl2:b2.length≤1048576:=hp2.2.2.2;have hn2:n1 + n2≤l.length:=by have:=hp2.2.1;rw [List.length_drop] at this;omega
 have hn20:1≤n2:=hp2.1;clear hp2
 go_wp2_with fail
 refine (vv A4 b2.length c4 b2 w4 rfl Hb4.out (by omega)).mono ?_;rintro e w5 ⟨hb5,hno,hyes⟩;have HG5:=Lib.hid (HG4.out.below hb5);have HA5:=Lib.hid ((HA4.out.below hb5).more hb5.size);obtain ⟨y,st,why,rfl,hso,hcase⟩:∃ y st,∃ why:Int,e=.returned (.tuple #[.agg (dh y st).toArray,.int .i64 why])∧io w5 w.heap.size y st∧((gN b2=none∧why=3)∨(gN b2=some st∧why=0)):=by
  rcases hg:gN b2 with _ | st
  ·exact ⟨fS,cI,3,hno hg,io.zero _ _,.inl ⟨rfl,rfl⟩⟩
  ·obtain ⟨y,g1,g2⟩:=hyes st hg
   exact ⟨y,st,0,g1,g2.more HG4.out.bel.size,.inr ⟨rfl,rfl⟩⟩
 have Hcase:=Lib.hid hcase;have Hso:=Lib.hid hso;have Hst:=Lib.hid (ma (x:=y) hso.ok);clear hb5 hno hyes hcase hso HG4 HA4 Hb4;have hth:w5.there bs 56 (dh y st).toArray.size:=HG5.out.box.there (by rw [List.size_toArray,List.size_toArray,kb Hso.out.ok,d9 HG5.out.own.sh];decide);obtain ⟨w6,hw6⟩:∃ v,v=w5.setCells bs 56 (dh y st):=⟨_,rfl⟩
 obtain ⟨xb,hxb⟩:∃ x:jM,x={ x3 with st:=y }:=⟨_,rfl⟩
 obtain ⟨hb,hhb⟩:∃ h:bT,h={ h3 with st:=st }:=⟨_,rfl⟩
 have hg6:w5.grownBy w6 (some bs):=by rw [hw6];exact aT w5 bs 56 _ 56 (World.grownBy.refl _ _)
 have hG6:EL w w6 bs xb [] hb:=by
  refine ⟨HG5.out.res.grown hg6 (by simpa using hne1),?_,?_,HG5.out.bel.grown hg6 HG5.out.bel.size (fun k hk=>by injection hk with hk;omega),hne1,hne2⟩
  ·have h:=ah.setCells (dh y st) 56 HG5.out.box
   rw [BB HG5.out.own.sh Hso.out.ok] at h;rw [hw6,hxb,hhb];exact h
  ·rw [hxb,hhb]
   exact (HG5.out.own.state Hso.out).other HG5.out.box (by decide) hg6
 have HG6:=Lib.hid hG6;have hb6:∀ k,k<w.heap.size→w6.heap[k]?=w5.heap[k]?:=fun k hk=>hg6.block k (Nat.lt_of_lt_of_le hk HG5.out.bel.size) (by simp;omega)
 have HA6:Hid (BS w6 w.heap.size (some ad) l):=HA0.out.below HG6.out.bel;have Hth:=Lib.hid hth;have Hhb:=Lib.hid hhb;have hev0:hb.evs=[]:=by rw [hhb];exact Hv0.out
 have Hev0:=Lib.hid hev0;have Hzb:=Lib.hid (dl (x:=xb) hG6.own.sh);clear hg6 hG6 hth hxb hhb HG5 HA5 hev0 hb6;go_upto_region 11 with ((with_reducible refine aM 37 ?_);refine wpList_store_mid rfl 37 (.tmp 48) (.tmp 46) rfl bs 56 (dh y st).toArray rfl rfl Hth.out Hst.out (tK _ _) ?_)
 rw [←hw6];clear hw6;have l6:bs<w6.heap.size:=HG6.out.box.lt;rcases Hcase.out with ⟨hsg,rfl⟩ | ⟨hsg,rfl⟩
 ·have hRv:Hid (aR l=(cM,0,3)):=by
   show _=_
   unfold aR;rw [H1.out];simp only;rw [if_neg (by decide),Hgd.out,H2.out];simp only;rw [if_neg (by decide),hsg]
  clear hsg;obtain ⟨W7,hW7,T7,B7,G7⟩:=fx (cs:=ar dX cM) HG6.out.res (by simp);have HF:Hid (Below w.heap.size w W7):=HG6.out.bel.grown G7.out HG6.out.bel.size (fun k hk=>by injection hk with hk;omega)
  go_wp2_with ((with_reducible refine aM 40 ?_);rw [←fU];refine wpList_store_mid rfl 40 (.tmp 2) (.tmp 56) rfl w.heap.size 0 (ar dX cM).toArray rfl rfl T7.out Hz0.out (cQ _ _) ?_)
  rw [←hW7.out];refine bodyPost_ret (v:=.tuple #[.agg (ar dX cM).toArray,.int .i64 0,.int .i64 3]) (cJ (P:=Tryz.prog) (p:=2) (u:=3) (v:=4) rfl _ _ w.heap.size _ _ _ _ rfl B7.out az rfl Hz0.out) rfl ?_;unfold gD;rw [hRv.out];exact ⟨HF.out,dX,[],rfl,ee.zero _ _⟩
 refine Sd.plain ?_
 repeat ((first | refine po ?_ | refine gs (ae HG6.out.box) l6 az Hzb.out ?_ | refine gc (fun u hu=>qS ((HG6.out.own.below hu).held)) ?_ | refine gp ?_ | refine pt ?_);simp only [ld,lg,lf,Nat.reduceAdd])
 refine Sd.done fun w7 hb7=>?_
 have HG7:=Lib.hid (HG6.out.below hb7);clear hb7;have Hsg:=Lib.hid hsg;clear hsg;rcases hbr:gY hb with _ | _
 ·have hRv:Hid (aR l=(cM,0,3)):=by
   show _=_
   unfold aR;rw [H1.out];simp only;rw [if_neg (by decide),Hgd.out,H2.out];simp only;rw [if_neg (by decide),Hsg.out];simp only;rw [←Hhb.out,hbr];rfl
  simp only [hbr,Bool.not_false,Bool.or_true,Bool.false_or];clear hbr;obtain ⟨W7,hW7,T7,B7,G7⟩:=fx (cs:=ar dX cM) HG7.out.res (by simp);have HF:Hid (Below w.heap.size w W7):=HG7.out.bel.grown G7.out HG7.out.bel.size (fun k hk=>by injection hk with hk;omega)
  go_wp2_with ((with_reducible refine aM 40 ?_);rw [←fU];refine wpList_store_mid rfl 40 (.tmp 2) (.tmp 56) rfl w.heap.size 0 (ar dX cM).toArray rfl rfl T7.out Hz0.out (cQ _ _) ?_)
  rw [←hW7.out];refine bodyPost_ret (v:=.tuple #[.agg (ar dX cM).toArray,.int .i64 0,.int .i64 3]) (cJ (P:=Tryz.prog) (p:=2) (u:=3) (v:=4) rfl _ _ w.heap.size _ _ _ _ rfl B7.out az rfl Hz0.out) rfl ?_;unfold gD;rw [hRv.out];exact ⟨HF.out,dX,[],rfl,ee.zero _ _⟩
 simp only [hbr,Bool.not_true,Bool.or_false,Bool.false_or];have hRv:Hid (aR l=({ hb with evs:=(dU (l.drop (n1 + n2))).1 },n1 + n2 + (dU (l.drop (n1 + n2))).2.1,(dU (l.drop (n1 + n2))).2.2)):=by
  show _=_
  unfold aR;rw [H1.out];simp only;rw [if_neg (by decide),Hgd.out,H2.out];simp only;rw [if_neg (by decide),Hsg.out];simp only;rw [←Hhb.out,hbr];simp only [if_true];rw [Hhb.out]
 have HG0:Hid (EL w w7 bs xb [] { hb with evs:=[] }):=by
  have h:=HG7.out;have e:({ hb with evs:=[] }:bT)=hb:=by have:=Hev0.out;cases hb;simp only at this;rw [this]
  show EL _ _ _ _ _ _
  rw [e];exact h
 clear hbr Hsg HG7 HG6 Hgd H2 Hd1;obtain ⟨at0,hat0⟩:∃ a,a=n1 + n2:=⟨_,rfl⟩
 rw [←hat0] at hRv hn2;have Hat0:=Lib.hid hat0
 go_wp2
 go_loopw [6] (fun i wr=>∃ (a:Nat) (xk:jM) (es:List (dL × da)),a≤l.length∧i=.int .i64 (a:Int)∧16 * es.length≤a∧Hid (EL w wr bs xk es { hb with evs:=es.map (·.2) })∧Hid (at0≤a∧dU (l.drop at0)=(es.map (·.2) ++ (dU (l.drop a)).1,(a - at0) + (dU (l.drop a)).2.1,(dU (l.drop a)).2.2))) (fun i _=>l.length - (intOf i).toNat)
 case atStart=>exact ⟨at0,xb,[],hn2,by rw [Hat0.out];go_num,by simp,HG0,⟨Nat.le_refl _,by simp⟩⟩
 case round =>
  obtain ⟨a,xk,es,ha,rfl,hes,HK,Hinv⟩:=hrel;rename World=>wr
  by_cases hlt:a<l.length
  ·have hltI:(a:Int)<(l.length:Int):=by omega
   have ha0:(0:Int)≤(a:Int):=by omega
   have hca:c≠a:=by omega
   have hac:a≤c:=by omega
   have Hdl:Hid (l.length - a=(l.drop a).length):=by show _=_;rw [List.length_drop]
   have Hbs:Hid (BS wr wr.heap.size (some (ad.add a)) (l.drop a)):=by
    have:=((HA0.out.below HK.out.bel).more HK.out.bel.size).drop (k:=a) (cap:=c) hc;rw [if_neg hca] at this;exact this
   obtain ⟨b3,n3,e3,h3n⟩:∃ q1 q2 q3,aH (l.drop a)=(q1,q2,q3):=⟨_,_,_,rfl⟩
   have H3n:=Lib.hid h3n;have Hnx:=Lib.hid (jX (some (ad.add a)) (l.length - a) (c - a) (l.drop a) wr Hdl.out Hbs.out (by omega) (by omega));unfold nt at Hnx;rw [h3n] at Hnx;have Hne:Hid (l.drop a≠[]):=by intro e;have:=congrArg List.length e;simp at this;omega
   clear h3n
   go_wp2_with fail
   refine Hnx.out.mono ?_;rintro e wa2 ⟨A8,c8,rfl,hown8,hb8⟩;have HK8:=Lib.hid (HK.out.below hb8);have Hb8:=Lib.hid (BS.of_own hown8).1;clear hown8 hb8 Hnx HK Hbs Hdl;by_cases he3:e3=0
   rotate_left
   ·have he3I:¬ (e3:Int)=0:=by omega
    have hRk:Hid (aR l=({ hb with evs:=es.map (·.2) },a,e3)):=by
     show _=_
     have h:=Hinv.out.2;rw [uX Hne.out H3n.out he3] at h;simp only [List.append_nil,Nat.add_zero] at h;rw [hRv.out,h,show at0 + (a - at0)=a by have:=Hinv.out.1;omega]
    have Hsz:=Lib.hid (dl (x:=xk) HK8.out.own.sh);obtain ⟨W7,hW7,T7,B7,G7⟩:=fx (cs:=ar xk { hb with evs:=es.map (·.2) }) HK8.out.res (by rw [d9 HK8.out.own.sh,List.size_toArray,d9 cZ]);have HF:Hid (Below w.heap.size w W7):=HK8.out.bel.grown G7.out HK8.out.bel.size (fun k hk=>by injection hk with hk;omega);have HO:=Lib.hid (HK8.out.own.other HK8.out.res (by decide) G7.out);have RF:=Lib.hid (ae HK8.out.box)
    go_wp2_with (first
     | ((with_reducible refine aE 40 ?_);refine aa (by rfl) 40 (.tmp 8) rfl bs 0 rfl (ar xk { hb with evs:=es.map (·.2) }) _ RF.out az rfl Hsz.out ?_)
     | ((with_reducible refine aM 40 ?_);refine wpList_store_mid rfl 40 (.tmp 2) (.tmp 74) rfl w.heap.size 0 (ar xk { hb with evs:=es.map (·.2) }).toArray rfl rfl T7.out Hsz.out (cQ _ _) ?_))
    rw [←hW7.out];refine bodyPost_ret (v:=.tuple #[.agg (ar xk { hb with evs:=es.map (·.2) }).toArray,.int .i64 (a:Int),.int .i64 (e3:Int)]) (cJ (P:=Tryz.prog) (p:=2) (u:=3) (v:=4) rfl _ _ w.heap.size _ _ _ _ rfl B7.out az rfl Hsz.out) rfl ?_;unfold gD;rw [hRk.out];exact ⟨HF.out,_,es,rfl,HO.out⟩
   subst he3;have hp3:=gA H3n.out;have hb3l:b3.length≤1048576:=hp3.2.2.2;have hn3:a + n3≤l.length:=by have:=hp3.2.1;rw [List.length_drop] at this;omega
   have hn30:1≤n3:=hp3.1;clear hp3
   go_wp2_with fail
   refine (CR A8 b3.length c8 b3 wa2 rfl Hb8.out (by omega)).mono ?_;rintro e w9 ⟨hb9,hno,hyes⟩;have HK9:=Lib.hid (HK8.out.below hb9);rcases hg:eD b3 with _ | f
   ·obtain rfl:=hno hg
    have hRk:Hid (aR l=({ hb with evs:=es.map (·.2) },a,3)):=by
     show _=_
     have h:=Hinv.out.2;rw [Eo H3n.out hg] at h;simp only [List.append_nil,Nat.add_zero] at h;rw [hRv.out,h,show at0 + (a - at0)=a by have:=Hinv.out.1;omega]
    obtain ⟨xc,wc,Xc,Yc,Tc,Bc,Lc⟩:=eQ w9 65 (bm none 0 0 none 0 0 mo) (bm none 0 0 none 0 0 mo) rfl;rw [jV] at Xc;have Hze:=Lib.hid (lG (A:=none) (n:=0) (c:=0) (A':=none) (n':=0) (c':=0) eY);have HKc:=Lib.hid (HK9.out.below Lc.out);clear hno hyes hb9 hg HK8 HK9 Hb8;go_upto_region 20 with (rw [←Xc.out];(with_reducible refine aM 65 ?_);refine wpList_store_mid rfl 65 (.tmp 11) (.tmp 80) rfl w9.heap.size 0 (bm none 0 0 none 0 0 mo).toArray rfl rfl Tc.out Hze.out (oZ _ _ _ _ _ _ _) ?_)
    rw [←Yc.out];clear Xc Yc Tc;have Hsz:=Lib.hid (dl (x:=xk) HKc.out.own.sh);obtain ⟨W7,hW7,T7,B7,G7⟩:=fx (cs:=ar xk { hb with evs:=es.map (·.2) }) HKc.out.res (by rw [d9 HKc.out.own.sh,List.size_toArray,d9 cZ]);have HF:Hid (Below w.heap.size w W7):=HKc.out.bel.grown G7.out HKc.out.bel.size (fun k hk=>by injection hk with hk;omega);have HO:=Lib.hid (HKc.out.own.other HKc.out.res (by decide) G7.out);have RF:=Lib.hid (ae HKc.out.box)
    go_wp2_with (first
     | ((with_reducible refine aE 40 ?_);refine aa (by rfl) 40 (.tmp 8) rfl bs 0 rfl (ar xk { hb with evs:=es.map (·.2) }) _ RF.out az rfl Hsz.out ?_)
     | ((with_reducible refine aM 40 ?_);refine wpList_store_mid rfl 40 (.tmp 2) (.tmp 84) rfl w.heap.size 0 (ar xk { hb with evs:=es.map (·.2) }).toArray rfl rfl T7.out Hsz.out (cQ _ _) ?_))
    rw [←hW7.out];refine bodyPost_ret (v:=.tuple #[.agg (ar xk { hb with evs:=es.map (·.2) }).toArray,.int .i64 (a:Int),.int .i64 3]) (cJ (P:=Tryz.prog) (p:=2) (u:=3) (v:=4) rfl _ _ w.heap.size _ _ _ _ rfl B7.out az rfl Hsz.out) rfl ?_;unfold gD;rw [hRk.out];exact ⟨HF.out,_,es,rfl,HO.out⟩
   obtain ⟨Af,cf,rfl,hfs,hof⟩:=hyes f hg;have hst3:=pk H3n.out hg;have hge:=EK H3n.out hg;obtain ⟨p,hp⟩:∃ p:dL × da,p=(⟨Af,cf,none,0⟩,f):=⟨_,rfl⟩
   have hpc:eJ p=bm Af f.act.frame.length cf none 0 0 f:=by rw [hp];unfold eJ;simp only [sq hg,List.length_nil]
   have hp2:p.2=f:=by rw [hp]
   have Hfo:Hid (w9.ownsRow w.heap.size 5 1 (.slice p.1.f p.2.act.frame.length p.1.cf) p.2.act.frame.length (ab p.2.act.frame)):=by rw [hp];exact bV hof HK8.out.bel.size
   have Hfs:Hid (aB p.2):=by rw [hp2];exact hfs
   have Hout:Hid (p.2.o.out=[]):=by rw [hp2];exact sq hg
   rw [←hpc];have Hze:=Lib.hid (jL (p:=p) Hfs.out);have Hz42:=Lib.hid (ex (p:=p) Hfs.out);obtain ⟨xc,wc,Xc,Yc,Tc,Bc,Lc⟩:=eQ w9 65 (bm none 0 0 none 0 0 mo) (eJ p) (by rw [Hz42.out];rfl);rw [jV] at Xc;have HKc:=Lib.hid (HK9.out.below Lc.out);have Hfc:=Lib.hid (ay Hfo.out Lc.out);have Hinv2:Hid (at0≤a + n3∧dU (l.drop at0)=((es ++ [p]).map (·.2) ++ (dU (l.drop (a + n3))).1,(a + n3 - at0) + (dU (l.drop (a + n3))).2.1,(dU (l.drop (a + n3))).2.2)):=by
    obtain ⟨i1,i2⟩:=Hinv.out;refine ⟨by omega,?_⟩;rw [i2,hst3,List.drop_drop];simp only [List.map_append,List.map_cons,List.map_nil,List.append_assoc,List.cons_append,List.nil_append,hp2];rw [show a - at0 + (n3 + (dU (List.drop (a + n3) l)).2.1)=a + n3 - at0 + (dU (List.drop (a + n3) l)).2.1 by omega]
   have he3':16≤n3:=hge.1;clear hno hyes hb9 hg HK8 HK9 Hb8 hof hfs hst3 hge hpc hp hp2 Hfo;go_upto_region 21 with (rw [←Xc.out];(with_reducible refine aM 65 ?_);refine wpList_store_mid rfl 65 (.tmp 11) (.tmp 80) rfl w9.heap.size 0 (eJ p).toArray rfl rfl Tc.out (by rw [List.size_toArray];exact Hze.out) (mF _) ?_)
   rw [←Yc.out];clear Xc Yc Tc;obtain ⟨sk,hsk⟩:∃ s:bT,s={ hb with evs:=es.map (·.2) }:=⟨_,rfl⟩
   have Hsk:=Lib.hid hsk;rw [←hsk] at HKc;have hln:sk.evs.length=es.length:=HKc.out.own.len;obtain ⟨m,hm⟩:∃ m,m=sk.evs.length:=⟨_,rfl⟩
   have q73:wc.cell? ⟨bs,73,none⟩=some (.slice xk.e m xk.ce):=by rw [hm];exact (mH HKc.out.own.sh HKc.out.box).1
   have hmb:m≤999999:=by omega
   have Hm:=Lib.hid hm;obtain ⟨wd,hwd⟩:∃ v,v=wc.alloc (.cells (eJ p).toArray 65):=⟨_,rfl⟩
   have Bd:=Lib.hid (ae (show ah wd wc.heap.size 65 (eJ p).toArray by rw [hwd];exact ah.new wc _ _ _ rfl));have hbd:Below wc.heap.size wc wd:=by rw [hwd];exact (Below.refl _ _).alloc (Nat.le_refl _) _
   have HKd:=Lib.hid (HKc.out.below hbd);have Hfd:=Lib.hid (ay Hfc.out hbd);have RE:=Lib.hid (ae Bc.out);obtain ⟨z0,hz0⟩:∃ z,(Tryz.prog.info? 65)=some z:=⟨_,rfl⟩
   obtain ⟨zz,hzz,hzs,hzb,hzc⟩:∃ z,z0.zero=some z∧z0.size=42∧z0.bytes≤1000∧z.cells.size=42:=by
    have e:(Tryz.prog.info? 65).bind (fun i=>i.zero.map (fun z=>(i.size,decide (i.bytes≤1000),z.cells.size)))=some (42,true,42):=by kernel_rfl
    rw [hz0] at e;obtain ⟨z,h1,h2⟩:=Option.map_eq_some_iff.1 (show z0.zero.map _=some _ from e);simp only [Prod.mk.injEq,decide_eq_true_eq] at h2;exact ⟨z,h1,h2.1,h2.2.1,h2.2.2⟩
   have Hoe:Hid (wd.ownsRow w.heap.size 65 42 (.slice xk.e m xk.ce) m (cA eJ es)):=by have:=HKd.out.own.evs;rw [←Hm.out] at this;exact this
   have hwb:w.heap.size≤wd.heap.size:=HKd.out.bel.size;have hx63:m + 1≤1000001:=by omega
   clear hbd hsk hm hln;go_upto_region 22 with (first
    | ((with_reducible refine aE 65 ?_);refine aa (by rfl) 65 (.tmp 11) rfl w9.heap.size 0 rfl (eJ p) _ RE.out dz rfl Hze.out ?_)
    | ((with_reducible refine si 1 ?_);refine fF rfl 38 65 (.tmp 89) rfl (eJ p) rfl Tryz.underlying38 Hze.out (by kernel_rfl) (by rw [Hz42.out];decide) (by rw [Hz42.out];decide) ?_;rw [←hwd])
    | (at_builtin;refine wpList_append_own_at (P:=Tryz.prog) wd rfl _ _ 38 rfl w.heap.size 65 z0 zz 42 z0.bytes Tryz.underlying38 hz0 hzz hzs rfl hzc (by decide) (.slice xk.e m xk.ce) m (cA eJ es) rfl Hoe.out ⟨wc.heap.size,0,none⟩ 1 1 (eJ p) rfl (by rw [Hz42.out]) (fun j u hj=>by rw [show (⟨wc.heap.size,0,none⟩:Addr).add j=⟨wc.heap.size,0 + j,none⟩ by unfold Addr.add;split <;> simp_all];exact Bd.out j u hj) (fun u hu=>Array.all_eq_true_iff_forall_mem.1 (mF p) u (by simpa using hu)) (by unfold maxLen;omega) (Nat.le_trans (Nat.mul_le_mul hx63 hzb) (by decide)) hwb ?_;intro v7 we hown7 hg7 _ _;obtain ⟨A7,c7,hv7,_⟩:=cE hown7;subst hv7;have hbne:=aK Hoe.out HKd.out.box (by decide);have hbox7:=HKd.out.box.grown hg7 (by rcases hbne with h | h;rw [h];simp;exact Ne.symm h);have s73:=(mH HKd.out.own.sh hbox7).1;have f73:=(mH HKd.out.own.sh hbox7).2.1;rw [←Hm.out] at s73))
   obtain ⟨wf,hwf⟩:∃ v,v=we.setCell ⟨bs,73,none⟩ (.slice A7 (m + 1) c7):=⟨_,rfl⟩
   rw [←hwf];have hsn:ee we w.heap.size { xk with e:=A7,ce:=c7 } (es ++ [p]) { sk with evs:=sk.evs ++ [p.2] } :=
    HKd.out.own.snoc (p:=p) (by rw [←Hm.out];exact hg7) (by rw [←Hm.out];exact hown7) Hfd.out Hfs.out Hout.out (by rw [←Hm.out];omega)
   have hrne:=aK Hoe.out HKd.out.res (by decide);have hres7:=HKd.out.res.grown hg7 (by rcases hrne with h | h;rw [h];simp;exact Ne.symm h);have hgs:we.grownBy wf (some bs):=by rw [hwf];exact aV _ _ _
   have hbl:Below w.heap.size w we:=HKd.out.bel.grown hg7 HKd.out.bel.size (fun k hk=>(pq Hoe.out k hk).1);have hsk2:({ sk with evs:=sk.evs ++ [p.2] }:bT)={ hb with evs:=(es ++ [p]).map (·.2) }:=by rw [Hsk.out];simp
   have hbxf:ah wf bs 40 (ar { xk with e:=A7,ce:=c7 } { sk with evs:=sk.evs ++ [p.2] }).toArray:=by
    rw [hwf,Hm.out];exact (mH HKd.out.own.sh hbox7).2.2 A7 c7 p.2
   have hsnf:=hsn.other hbox7 (by decide) hgs;rw [hsk2] at hbxf hsnf;have HF:Hid (EL w wf bs { xk with e:=A7,ce:=c7 } (es ++ [p]) { hb with evs:=(es ++ [p]).map (·.2) }) :=
    ⟨hres7.grown hgs (by simpa using hne1),hbxf,hsnf,hbl.grown hgs hbl.size (fun k hk=>by injection hk with hk;omega),hne1,hne2⟩
   clear hwf hsn hrne hres7 hgs hbl hsk2 hbxf hsnf hbne hbox7 s73 f73 hown7 hg7 q73
   go_wp2
   go_roundw
   case rel=>exact ⟨a + n3,_,es ++ [p],hn3,by go_num,by simp;omega,HF,Hinv2⟩
   case measure=>simp [intOf];omega
  ·have hltI:¬ (a:Int)<(l.length:Int):=by omega
   have hRk:Hid (aR l=({ hb with evs:=es.map (·.2) },a,0)):=by
    show _=_
    have h:=Hinv.out.2;have hd:l.drop a=[]:=by rw [List.drop_eq_nil_iff];omega
    rw [hd,oD] at h;simp only [List.append_nil,Nat.add_zero] at h;rw [hRv.out,h,show at0 + (a - at0)=a by have:=Hinv.out.1;omega]
   have Hsz:=Lib.hid (dl (x:=xk) HK.out.own.sh);obtain ⟨W7,hW7,T7,B7,G7⟩:=fx (cs:=ar xk { hb with evs:=es.map (·.2) }) HK.out.res (by rw [d9 HK.out.own.sh,List.size_toArray,d9 cZ]);have HF:Hid (Below w.heap.size w W7):=HK.out.bel.grown G7.out HK.out.bel.size (fun k hk=>by injection hk with hk;omega);have HO:=Lib.hid (HK.out.own.other HK.out.res (by decide) G7.out);have RF:=Lib.hid (ae HK.out.box)
   go_wp2_with (first
    | ((with_reducible refine aE 40 ?_);refine aa (by rfl) 40 (.tmp 8) rfl bs 0 rfl (ar xk { hb with evs:=es.map (·.2) }) _ RF.out az rfl Hsz.out ?_)
    | ((with_reducible refine aM 40 ?_);refine wpList_store_mid rfl 40 (.tmp 2) (.tmp 96) rfl w.heap.size 0 (ar xk { hb with evs:=es.map (·.2) }).toArray rfl rfl T7.out Hsz.out (cQ _ _) ?_))
   rw [←hW7.out];refine bodyPost_ret (v:=.tuple #[.agg (ar xk { hb with evs:=es.map (·.2) }).toArray,.int .i64 (a:Int),.int .i64 0]) (cJ (P:=Tryz.prog) (p:=2) (u:=3) (v:=4) rfl _ _ w.heap.size _ _ _ _ rfl B7.out az rfl Hsz.out) rfl ?_;unfold gD;rw [hRk.out];exact ⟨HF.out,_,es,rfl,HO.out⟩
end Go.Proofs.YtaafkokfdgfabaaGreat
namespace Go.Proofs.YtaafkokfdgfabaaGreat
open Go.RowKit
set_option linter.unusedVariables false
set_option linter.unusedSimpArgs false
def cW:bc:={ bn with size:=7,room:=9,rise:=2,fall:=3,six:=(true,List.replicate 16 0),most:=1000,keep:=2,batch:=5 }
def mK:da:={ mo with act:={ dC with kind:=4 } }
def jp:bT:={ conf:=cW,first:=9,lost:=2,st:=cI,evs:=[mK] }
theorem iF:i7 jp=true:=by decide +kernel
theorem yr:i7 cM=false:=by decide +kernel
theorem vK:ak cW:={ gW with six:=by simp [cW,aS] }
theorem iG:aB mK:={ eY with act:={ eY.act with } }
theorem ga:bf jp:=⟨vK,gX,by simp [jp,iG]⟩
theorem EM {w:World} {g k:Nat} {t:TypeId} {cs:Array Value} (hk:g≠k) (vs:List Value) (h:ah w g t cs):ah (w.setCells k 0 vs) g t cs:=ah.grown h (aT w k 0 vs 0 (World.grownBy.refl _ _)) (fun e=>hk (Option.some.inj e))
def xW (A:Option Addr):jM:=⟨none,0,fS,A,1⟩
theorem BC (A:Option Addr):Tryz.prog.built 40 [(0,.agg (aj none 0 0 cW).toArray),(1,.int .i64 9),(2,.int .i64 2),(4,.slice A 1 1)]=some (ar (xW A) jp).toArray:=by kernel_rfl
theorem BD:Tryz.prog.built 65 [(0,.agg (aq none 0 0 mK.act).toArray)]=some (eJ (⟨none,0,none,0⟩,mK)).toArray:=by kernel_rfl
theorem yt:Tryz.prog.built 60 [(0,.int .i64 4)]=some (aq none 0 0 mK.act).toArray:=by kernel_rfl
theorem vL (ty:TypeId) {ps:Array (Nat × Operand)} {d:Option Tmp} {t:TypeId} {p:String} {af:Array Edge} {gd:Option (Nat × Bool)} {P:Program} {ops:Array Oper} {rest:List Oper} {a:Act} {w:World} {Q:Exit→Act→World→Prop} (k:wpList P ops Q (⟨d,.build ty ps,t,p,af,gd⟩ :: rest) a w):wpList P ops Q (⟨d,.build ty ps,t,p,af,gd⟩ :: rest) a w:=k
theorem iq {P:Program} {ops:Array Oper} {rest:List Oper} {o:Oper} {a:Act} {w:World} {Q:Exit→Act→World→Prop} (hg:o.guard=none) (t:TypeId) (parts:Array (Nat × Operand)) (ho:o.op=.build t parts) (L:List (Nat × Value)) (cells:Array Value) (hc:P.built t L=some cells) (hL:(parts.toList.map fun (i,x)=>(i,a.eval x))=L)
  (h:wpList P ops Q rest (a.put o.dst (.agg cells)) w):wpList P ops Q (o :: rest) a w :=
 wpList_build hg t parts ho (by rw [Array.toList_map,hL,hc];rfl) (by rw [Array.toList_map,hL,hc];exact h)
theorem Fsx (A:Option Addr) (w:World) (B:Nat) (h:RW eJ 42 w B A [(⟨none,0,none,0⟩,mK)]):eF w B (xW A) [(⟨none,0,none,0⟩,mK)] jp where
 vs:=fun hn=>absurd hn (by decide)
 cv:=⟨Nat.le_refl _,by decide⟩
 st:=⟨⟨RW.nil _ _ _,RW.nil _ _ _,RW.nil _ _ _⟩,gX,⟨Nat.le_refl _,by decide⟩,⟨Nat.le_refl _,by decide⟩,⟨Nat.le_refl _,by decide⟩,by simp [jp,cI],by simp [jp,cI],by simp [jp,cI]⟩
 sh:=ga
 ev:=rfl
 evs:=h
 ce:=⟨Nat.le_refl _,by decide⟩
 fr:=fun p hp=>by
  obtain rfl:p=(⟨none,0,none,0⟩,mK):=by simpa using hp
  exact ⟨BS.nil _ _ _,BS.nil _ _ _⟩
set_option maxRecDepth 100000 in
theorem DG (w:World):Calls Tryz.prog 25 #[] w fun e w'=>∃ A S xs,e=.returned (.agg (ar (xW A) S).toArray)∧S=jp∧eF w' w'.heap.size (xW A) xs S∧xs=[(⟨none,0,none,0⟩,mK)]∧Below w.heap.size w w':=by
 obtain ⟨W,hW⟩:∃ W,W=w.alloc (.cells (ar dX cM).toArray 40):=⟨_,rfl⟩
 have hX:ah W w.heap.size 40 (ar dX cM).toArray:=by rw [hW];exact ah.new w _ _ _ rfl
 have hs:Hid (W.heap.size=w.heap.size + 1):=by rw [hW];show _=_;simp
 have hB:Hid (Below w.heap.size w W):=by rw [hW];exact (Below.refl _ _).alloc (Nat.le_refl _) _
 rw [fU] at hW;obtain ⟨C,hC⟩:∃ C,C=cW:=⟨_,rfl⟩
 obtain ⟨x1,y1,X1,Y1,T1,B1,L1⟩:=eQ W 29 (aj none 0 0 bn) (aj none 0 0 C) (by rw [hC];rfl);have hbt:∀ (A:Option Addr),Tryz.prog.built 40 [(0,.agg (aj none 0 0 C).toArray),(1,.int .i64 9),(2,.int .i64 2),(4,.slice A 1 1)]=some (ar (xW A) { jp with conf:=C }).toArray:=fun A=>by rw [hC];exact BC A
 have hcl:(aj none 0 0 C).length=54:=by rw [hC];rfl
 have hc1:(#[.slice none 0 0,.int .i64 7,.int .i64 9]:Array Value)=#[.slice none 0 0,.int .i64 7,.int .i64 9]:=rfl;rw [mG] at X1;have HW:=Lib.hid hW;have HC:=Lib.hid hC;have Hbt:=Lib.hid hbt;have HX:=Lib.hid hX;clear hW hC hbt hX hc1;go_enter Tryz.func25,Tryz.ntmps25
 go_upto_region 1 with fail
 rw [←HW.out];go_upto_region 2 with (first
  | (rw [←X1.out];(with_reducible refine aM 29 ?_);refine wpList_store_mid rfl 29 (.tmp 1) (.tmp 3) rfl W.heap.size 0 (aj none 0 0 C).toArray rfl (by rw [HC.out];rfl) T1.out (by rw [List.size_toArray,hcl];exact cV) (fT none 0 0 C) ?_))
 rw [←Y1.out];have HX1:=Lib.hid (HX.out.below L1.out HX.out.lt);obtain ⟨w3,hw3⟩:∃ u,u=y1.alloc (.cells (eJ (⟨none,0,none,0⟩,mK)).toArray 65):=⟨_,rfl⟩
 have B3:Hid (ah w3 y1.heap.size 65 (eJ (⟨none,0,none,0⟩,mK)).toArray):=by rw [hw3];exact ah.new _ _ _ _ rfl
 have L3:Hid (Below W.heap.size W w3):=by rw [hw3];exact L1.out.alloc L1.out.size _
 have s3:Hid (w3.heap.size=y1.heap.size + 1):=by rw [hw3];show _=_;simp
 have HX3:=Lib.hid (HX.out.below L3.out HX.out.lt);obtain ⟨w4,W4,T4,B4,G4⟩:=fx (cs:=ar (xW (some ⟨y1.heap.size,0,none⟩)) { jp with conf:=C }) HX3.out (by rw [HC.out];rfl);have B34:Hid (ah w4 y1.heap.size 65 (eJ (⟨none,0,none,0⟩,mK)).toArray):=by
  rw [W4.out];exact EM (by have:=L1.out.size;have:=hs.out;omega) _ B3.out
 have R1:=Lib.hid (ae (B1.out));have Hw3:=Lib.hid hw3;have Hsz:Hid ((Tryz.prog.info? 40).map (·.size)=some (ar (xW (some ⟨y1.heap.size,0,none⟩)) { jp with conf:=C }).toArray.size):=by rw [HC.out];exact vw
 clear hw3
 go_wp2_with (first
  | ((with_reducible refine aE 29 ?_);refine aa (by rfl) 29 (.tmp 1) rfl W.heap.size 0 rfl (aj none 0 0 C) _ R1.out eL rfl (by rw [hcl];exact cV) ?_)
  | ((with_reducible refine vL 60 ?_);refine iq rfl 60 _ rfl _ _ yt rfl ?_)
  | ((with_reducible refine vL 65 ?_);refine iq rfl 65 _ rfl _ _ BD rfl ?_)
  | ((with_reducible refine si 1 ?_);refine fF rfl 38 65 (.tmp 6) rfl (eJ (⟨none,0,none,0⟩,mK)) rfl Tryz.underlying38 (jL iG) (by kernel_rfl) (by rw [ex iG];decide) (by rw [ex iG];decide) ?_;rw [←Hw3.out])
  | ((with_reducible refine vL 40 ?_);refine iq rfl 40 _ rfl _ _ (Hbt.out (some ⟨y1.heap.size,0,none⟩)) rfl ?_)
  | ((with_reducible refine aM 40 ?_);refine wpList_store_mid rfl 40 (.tmp 0) (.tmp 8) rfl w.heap.size 0 (ar (xW (some ⟨y1.heap.size,0,none⟩)) { jp with conf:=C }).toArray rfl rfl T4.out Hsz.out (cQ _ _) ?_))
 rw [←W4.out];have Bl:Below w.heap.size w w4:=(hB.out.trans (L3.out.mono hB.out.size)).grown G4.out (hB.out.trans (L3.out.mono hB.out.size)).size (fun k hk=>by injection hk with hk;omega);have hrw:RW eJ 42 w4 w4.heap.size (some ⟨y1.heap.size,0,none⟩) [(⟨none,0,none,0⟩,mK)]:=fun _=>⟨y1.heap.size,0,rfl,B34.out.lt,fun k v hk=>by
  rcases k with _ | k
  ·simp only [List.getElem?_cons_zero,Option.some.injEq] at hk
   subst hk;exact ae B34.out
  ·simp at hk⟩
 exact bodyPost_ret (v:=.agg (ar (xW (some ⟨y1.heap.size,0,none⟩)) { jp with conf:=C }).toArray) (cw (P:=Tryz.prog) (p:=0) rfl _ _ w.heap.size _ _ _ rfl B4.out az rfl Hsz.out) rfl ⟨_,_,rfl,by rw [HC.out];rfl,[(⟨none,0,none,0⟩,mK)],by rw [HC.out];exact Fsx _ _ _ hrw,rfl,Bl⟩
end Go.Proofs.YtaafkokfdgfabaaGreat
namespace Go.Proofs.YtaafkokfdgfabaaGreat
open Go.RowKit
set_option linter.unusedVariables false
set_option linter.unusedSimpArgs false
theorem DH:fG mK=mK:=by
 have h:=i6;simp [fG,ov,mR,mK,mo,dC,dN,h]
theorem DI:aR (bA jp)=(jp,(bA jp).length,0):=by
 rw [vI ga iF];have e:lC jp=jp:=by
  unfold lC;rw [show jp.evs=[mK] from rfl,List.map_cons,DH];rfl
 rw [e]
theorem zD:(bA jp).length=(cj jp).length + (bC mK).length∧5≤(bC mK).length∧(bA jp).length≤15000000:=by
 have h0:bA jp=cj jp ++ (bC mK ++ []):=rfl;have h1:(bA jp).length=(cj jp).length + (bC mK).length:=by rw [h0,List.append_nil,List.length_append]
 have h2:=oI ga (ji ga iF).1;have h3:=kN iG (by decide +kernel);have h4:=cP (bP mK);have h5:1≤(aI (bP mK).length).length:=iP _;refine ⟨h1,?_,by omega⟩;unfold bC;omega
theorem EN:aR ((bA jp).take ((bA jp).length - 1))=({ jp with evs:=[] },(cj jp).length,2):=by
 obtain ⟨h1,h2,h3⟩:=zD;obtain ⟨k,k1,k2,k3,k4⟩:=sw ga iF (j:=(bA jp).length - 1) (by omega) (by omega);have hk:k=0:=by
  have:jp.evs.length=1:=rfl;omega
 subst hk;rw [k4];simp only [List.take_zero,List.map_nil,List.flatMap_nil,List.length_nil,Nat.add_zero,Prod.mk.injEq,true_and];rw [if_neg (by omega)]
theorem DJ:aR []=(cM,0,2):=by kernel_rfl
theorem FT:eN 12 1=([48,48,48,48,49,50,46,108,111,103],true):=by decide +kernel
theorem EO:eN 1000000 1=([],false):=by decide +kernel
theorem FU:iw [48,48,48,48,49,50,46,99,97,112]=(12,2,true):=by decide +kernel
theorem FV:iw [49,50,46,99,97,112]=(0,0,false):=by decide +kernel
theorem DK:eV jp jp=true:=by decide +kernel
def Bx (w:World) (g:Nat) (x:jM) (xs:List (dL × da)) (s:bT):Prop:=ah w g 40 (ar x s).toArray∧eF w w.heap.size x xs s
theorem Bx.on {w w':World} {g:Nat} {x:jM} {xs:List (dL × da)} {s:bT} (h:Bx w g x xs s) (hb:Below w.heap.size w w'):Bx w' g x xs s:=⟨ah.below h.1 hb h.1.lt,h.2.on hb⟩
theorem lL (w:World) (x:jM) (s:bT) (hs:bf s):∃ u v,Hid (u=w.alloc (.cells Tryz.zeroCells40 40))∧Hid (v=u.setCells w.heap.size 0 (ar x s))∧Hid (u.there w.heap.size 0 (ar x s).toArray.size)∧Hid (Below w.heap.size w v)∧Hid (∀ xs,eF w w.heap.size x xs s→Bx v w.heap.size x xs s):=by
 obtain ⟨u,v,h1,h2,h3,h4,h5⟩:=eQ w 40 (ar dX cM) (ar x s) (by rw [d9 hs,d9 cZ]);rw [fU] at h1;exact ⟨u,v,h1,h2,h3,h5,fun xs h=>⟨h4.out,h.on h5.out⟩⟩
theorem gH {x:jM} {s:bT} (h:bf s):(Tryz.prog.info? 40).map (·.size)=some (ar x s).toArray.size:=by rw [List.size_toArray];exact dl h
theorem kR {w:World} {b:Bool} {m:List UInt8} {e:Ending} {w':World} (h:gL w b m e w') (hb:b=true):∃ A c,e=.returned (.tuple #[.slice A m.length c,.int .i64 0])∧BS w' w'.heap.size A m∧m.length≤c∧Below w.heap.size w w':=by
 obtain ⟨A,c,h1,h2⟩:=h.2.2 hb;exact ⟨A,c,h1,(BS.of_own h2).1,gI h2,h.1⟩
theorem GB (x:jM) (xs:List (dL × da)) (S:bT) (hS:S=jp) (n:Nat) (P:List UInt8) (hP:P=bA jp) (hn:n=P.length) (w:World) (h:eF w w.heap.size x xs S):Calls Tryz.prog 11 #[.agg (ar x S).toArray] w fun e w'=>∃ A c,e=.returned (.tuple #[.slice A n c,.int .i64 0])∧BS w' w'.heap.size A P∧n≤c∧Below w.heap.size w w':=by
 subst hS hn hP;exact (lz h).mono fun e w' he=>kR he iF
theorem Gq (x:jM) (xs:List (dL × da)) (S:bT) (hS:S=jp) (n:Nat) (P:List UInt8) (hP:P=cj jp) (hn:n=P.length) (w:World) (h:eF w w.heap.size x xs S):Calls Tryz.prog 12 #[.agg (ar x S).toArray] w fun e w'=>∃ A c,e=.returned (.tuple #[.slice A n c,.int .i64 0])∧BS w' w'.heap.size A P∧n≤c∧Below w.heap.size w w':=by
 subst hS hn hP;exact (j6 h).mono fun e w' he=>kR he (ji ga iF).1
theorem FW (n:Nat) (P:List UInt8) (hP:P=bC mK) (hn:n=P.length) (w:World):Calls Tryz.prog 20 #[.agg (eJ (⟨none,0,none,0⟩,mK)).toArray] w fun e w'=>∃ A c,e=.returned (.tuple #[.slice A n c,.int .i64 0])∧BS w' w'.heap.size A P∧n≤c∧Below w.heap.size w w':=by
 subst hn hP;exact (jh (⟨none,0,none,0⟩,mK) iG w (BS.nil _ _ _)).mono fun e w' he=>kR he ((ji ga iF).2 mK (by simp [jp])).2
theorem GC (w:World):Calls Tryz.prog 11 #[.agg (ar dX cM).toArray] w fun e w'=>e=.returned (.tuple #[.slice none 0 0,.int .i64 1])∧Below w.heap.size w w' :=
 (lz (ee.zero w w.heap.size).held).mono fun e w' he=>⟨he.2.1 yr,he.1⟩
theorem oK (A:Option Addr) (n c:Nat) (l:List UInt8) (w:World) (hn:n=l.length) (hb:BS w w.heap.size A l) (hl:n≤15000000) (hc:n≤c) (S:bT) (m f:Nat) (zm zf:Int) (hr:aR l=(S,m,f)) (hm:(m:Int)=zm) (hf:(f:Int)=zf) :
  Calls Tryz.prog 18 #[.slice A n c] w fun e w'=>∃ x xs,e=.returned (.tuple #[.agg (ar x S).toArray,.int .i64 zm,.int .i64 zf])∧eF w' w'.heap.size x xs S∧Below w.heap.size w w':=by
 subst hf hm;refine (vJ A n c l w hn hb hl hc).mono ?_;rintro e w' ⟨hb2,x,xs,rfl,ho⟩;rw [hr] at ho ⊢;exact ⟨x,xs,rfl,ho.held,hb2⟩
theorem Gr {x y:jM} {xs ys:List (dL × da)} {S T:bT} (hS:S=jp) (hT:T=jp) {w:World} (hx:eF w w.heap.size x xs S) (hy:eF w w.heap.size y ys T):Calls Tryz.prog 19 #[.agg (ar x S).toArray,.agg (ar y T).toArray] w fun e w'=>e=.returned (.bool true)∧Below w.heap.size w w':=by
 subst hS hT;have:=mW hx hy;rwa [DK] at this
theorem DL {x:jM} {xs:List (dL × da)} {S:bT} (hS:S=jp) {w:World} (hx:eF w w.heap.size x xs S):Calls Tryz.prog 13 #[.agg (ar x S).toArray] w fun e w'=>e=.returned (.bool true)∧Below w.heap.size w w':=by
 subst hS;have:=jg hx;rwa [iF] at this
theorem rg:Tryz.prog.built 40 []=some (ar dX cM).toArray:=by kernel_rfl
theorem EP (w:World):Calls Tryz.prog 21 #[.int .i64 12,.int .i64 1] w fun e w'=>e=.returned (.tuple #[.string ⟨#[48,48,48,48,49,50,46,108,111,103]⟩,.bool true])∧Below w.heap.size w w':=by
 have:=me 12 1 w;rwa [FT] at this
theorem DM (w:World):Calls Tryz.prog 21 #[.int .i64 1000000,.int .i64 1] w fun e w'=>e=.returned (.tuple #[.string ⟨#[]⟩,.bool false])∧Below w.heap.size w w':=by
 have:=me 1000000 1 w;rwa [EO] at this
theorem EQ (w:World):Calls Tryz.prog 23 #[.string ⟨#[48,48,48,48,49,50,46,99,97,112]⟩] w fun e w'=>e=.returned (.tuple #[.int .i64 12,.int .i64 2,.bool true])∧Below w.heap.size w w':=by
 have:=gC [48,48,48,48,49,50,46,99,97,112] (by decide) w;rwa [FU] at this
theorem ER (w:World):Calls Tryz.prog 23 #[.string ⟨#[49,50,46,99,97,112]⟩] w fun e w'=>e=.returned (.tuple #[.int .i64 0,.int .i64 0,.bool false])∧Below w.heap.size w w':=by
 have:=gC [49,50,46,99,97,112] (by decide) w;rwa [FV] at this
end Go.Proofs.YtaafkokfdgfabaaGreat
