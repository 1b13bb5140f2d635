import Derived.Test.YtaafkokfdgfabaaGreatP15
import Derived.Test.YtaafkokfdgfabaaGreatP16
import Derived.Test.YtaafkokfdgfabaaGreatP20
import Derived.Test.YtaafkokfdgfabaaGreatP24
import Derived.Test.YtaafkokfdgfabaaGreatP28
import Derived.Test.YtaafkokfdgfabaaGreatP30
set_option maxHeartbeats 8000000
namespace Go.Proofs.YtaafkokfdgfabaaGreat
open Go.RowKit
set_option linter.unusedVariables false
set_option linter.unusedSimpArgs false
structure dL where
 f:Option Addr
 cf:Nat
 o:Option Addr
 co:Nat
def eJ (p:dL × da):List Value:=bm p.1.f p.2.act.frame.length p.1.cf p.1.o p.2.o.out.length p.1.co p.2
structure jM where
 v:Option Addr
 cv:Nat
 st:nG
 e:Option Addr
 ce:Nat
def ar (x:jM) (s:bT):List Value:=aj x.v s.conf.vips.length x.cv s.conf ++ (zv s.first :: zv s.lost :: (dh x.st s.st ++ [.slice x.e s.evs.length x.ce]))
structure eF (w:World) (B:Nat) (x:jM) (xs:List (dL × da)) (s:bT):Prop where
 vs:VS w B x.v s.conf.vips
 cv:s.conf.vips.length≤x.cv∧s.conf.vips.length≤1000000
 st:mJ w B x.st s.st
 sh:bf s
 ev:s.evs=xs.map (·.2)
 evs:RW eJ 42 w B x.e xs
 ce:s.evs.length≤x.ce∧s.evs.length≤1000000
 fr:∀ p ∈ xs,BS w B p.1.f p.2.act.frame∧BS w B p.1.o p.2.o.out
theorem eF.below {w w':World} {B:Nat} {x:jM} {xs:List (dL × da)} {s:bT} (h:eF w B x xs s) (hb:Below B w w'):eF w' B x xs s :=
 ⟨h.vs.below hb,h.cv,h.st.below hb,h.sh,h.ev,h.evs.below hb,h.ce,fun p hp=>⟨(h.fr p hp).1.below hb,(h.fr p hp).2.below hb⟩⟩
theorem eF.more {w:World} {B B':Nat} {x:jM} {xs:List (dL × da)} {s:bT} (h:eF w B x xs s) (hb:B≤B'):eF w B' x xs s :=
 ⟨h.vs.more hb,h.cv,h.st.more hb,h.sh,h.ev,h.evs.more hb,h.ce,fun p hp=>⟨(h.fr p hp).1.more hb,(h.fr p hp).2.more hb⟩⟩
theorem eF.on {w w':World} {x:jM} {xs:List (dL × da)} {s:bT} (h:eF w w.heap.size x xs s) (hb:Below w.heap.size w w'):eF w' w'.heap.size x xs s:=(h.below hb).more hb.size
theorem d9 {x:jM} {s:bT} (h:bf s):(ar x s).length=74:=by
 simp [ar,dH h.conf,kb h.st]
section
variable {w:World} {g:Nat} {t:TypeId} {x:jM} {s:bT}
theorem kL (h:bf s) (hb:ah w g t (ar x s).toArray):w.rangeAt g 0 (aj x.v s.conf.vips.length x.cv s.conf):=fun j v hj=>by
 rw [hb.cell,List.getElem?_toArray,ar,List.getElem?_append_left (by have:=(List.getElem?_eq_some_iff.1 hj).1;omega),Nat.zero_add];exact hj
theorem gB (h:bf s) (hb:ah w g t (ar x s).toArray) (j:Nat):w.cell? ⟨g,54 + j,none⟩=(zv s.first :: zv s.lost :: (dh x.st s.st ++ [.slice x.e s.evs.length x.ce]))[j]?:=by
 have h1:=dH (A:=x.v) (n:=s.conf.vips.length) (c:=x.cv) h.conf;rw [hb.cell,List.getElem?_toArray,ar,List.getElem?_append_right (by omega),h1,Nat.add_sub_cancel_left]
theorem nC (h:bf s) (hb:ah w g t (ar x s).toArray):w.rangeAt g 56 (dh x.st s.st):=fun j v hj=>by
 have:=gB h hb (2 + j);rw [show 54 + (2 + j)=56 + j by omega] at this;rw [this,show 2 + j=(j + 1) + 1 by omega,List.getElem?_cons_succ,List.getElem?_cons_succ,List.getElem?_append_left (List.getElem?_eq_some_iff.1 hj).1];exact hj
theorem ip (h:bf s) (hb:ah w g t (ar x s).toArray):w.cell? ⟨g,73,none⟩=some (.slice x.e s.evs.length x.ce):=by
 have:=gB h hb 19;rw [this,List.getElem?_cons_succ,List.getElem?_cons_succ,List.getElem?_append_right (by rw [kb h.st];omega),kb h.st];rfl
end
theorem az:Tryz.prog.underlying 40=some (.struct (Tryz.prog.fieldsOf 40)):=by kernel_rfl
theorem vw:(Tryz.prog.info? 40).map (·.size)=some 74:=by kernel_rfl
theorem dl {x:jM} {s:bT} (h:bf s):(Tryz.prog.info? 40).map (·.size)=some (ar x s).length:=by rw [d9 h];exact vw
set_option maxRecDepth 100000 in
theorem qS {x:jM} {xs:List (dL × da)} {s:bT} {w:World} (h:eF w w.heap.size x xs s) :
  Calls Tryz.prog 29 #[.agg (ar x s).toArray] w fun e w'=>e=.returned (.bool (gY s))∧Below w.heap.size w w':=by
 obtain ⟨W,hW⟩:∃ W,W=w.alloc (.cells (ar x s).toArray 40):=⟨_,rfl⟩
 have HY:Hid (ah W w.heap.size 40 (ar x s).toArray):=by rw [hW];exact ah.new w _ _ _ rfl
 have HB:Hid (Below w.heap.size w W):=by rw [hW];exact (Below.refl _ _).alloc (Nat.le_refl _) _
 have HS:=Lib.hid (h.on HB.out);have HW:=Lib.hid hW;have l1:w.heap.size<W.heap.size:=HY.out.lt;have Hsh:=Lib.hid h.sh;have b0:W.cell? ⟨w.heap.size,54,none⟩=some (zv s.first):=gB Hsh.out HY.out 0;have b1:W.cell? ⟨w.heap.size,55,none⟩=some (zv s.lost):=gB Hsh.out HY.out 1;unfold zv at b0 b1;clear hW h;go_enter Tryz.func29,Tryz.ntmps29
 go_upto_region 1 with fail
 rw [←HW.out];clear HW;obtain ⟨T,hT⟩:∃ T,T=(pi s.conf s.st && fk s.st && decide (0≤s.first) && decide (s.first≤1152921504606846976) && decide (0≤s.lost) && decide (s.lost≤s.first)):=⟨_,rfl⟩
 refine Sd.plain ?_
 repeat ((first | refine pa ?_ | refine sl (kL Hsh.out HY.out) l1 eL (by rw [dH Hsh.out.conf];exact cV) ?_ | refine sl (nC Hsh.out HY.out) l1 fh (ma Hsh.out.st) ?_ | refine gs (nC Hsh.out HY.out) l1 fh (ma Hsh.out.st) ?_ | refine cl (fun u hu=>tD x.v s.conf.vips.length x.cv s.conf x.st s.st Hsh.out.conf u rfl HS.out.cv.1 ((HS.out.on hu).vs) HS.out.cv.2 (HS.out.on hu).st) ?_ | refine gc (fun u hu=>iO x.st s.st u (HS.out.on hu).st) ?_ | refine gp ?_ | refine pt ?_);simp only [ld,lg,lf,Nat.reduceAdd])
 rw [←hT];refine Sd.done fun w2 hb2=>?_
 have Hb2:=Lib.hid (HB.out.trans (hb2.mono HB.out.size));have HT:Hid (gY s=T):=by show _=_;rw [hT];unfold gY ez;simp only [Bool.and_assoc]
 clear hb2 hT
 go_wp2
 go_ret
 exact ⟨by rw [HT.out];rfl,Hb2.out⟩
end Go.Proofs.YtaafkokfdgfabaaGreat
namespace Go.Proofs.YtaafkokfdgfabaaGreat
open Go.RowKit
set_option linter.unusedVariables false
set_option linter.unusedSimpArgs false
theorem ex {p:dL × da} (h:aB p.2):(eJ p).length=42:=jt h
theorem jL {p:dL × da} (h:aB p.2):(Tryz.prog.info? 65).map (·.size)=some (eJ p).length:=lG h
theorem mF (p:dL × da):(eJ p).toArray.all (·.oneCell')=true:=oZ _ _ _ _ _ _ _
section
variable {w:World} {B:Nat} {x:jM} {xs:List (dL × da)} {s:bT}
theorem eF.len (h:eF w B x xs s):s.evs.length=xs.length:=by rw [h.ev,List.length_map]
theorem eF.shp (h:eF w B x xs s) {p:dL × da} (hp:p ∈ xs):aB p.2:=h.sh.evs _ (by rw [h.ev];exact List.mem_map_of_mem hp)
end
theorem vx {α:Type} {f:α→Bool} {xs:List α} {k:Nat} {x:α} (h:(xs.take k).all f=true) (hx:xs[k]?=some x) (hf:f x=true):(xs.take (k + 1)).all f=true:=by
 rw [List.take_add_one,hx,List.all_append,h];simp [hf]
set_option maxRecDepth 100000 in
theorem jg {x:jM} {xs:List (dL × da)} {s:bT} {w:World} (h:eF w w.heap.size x xs s) :
  Calls Tryz.prog 13 #[.agg (ar x s).toArray] w fun e w'=>e=.returned (.bool (i7 s))∧Below w.heap.size w w':=by
 obtain ⟨W,hW⟩:∃ W,W=w.alloc (.cells (ar x s).toArray 40):=⟨_,rfl⟩
 have HY:Hid (ah W w.heap.size 40 (ar x s).toArray):=by rw [hW];exact ah.new w _ _ _ rfl
 have HB:Hid (Below w.heap.size w W):=by rw [hW];exact (Below.refl _ _).alloc (Nat.le_refl _) _
 have HS:=Lib.hid (h.on HB.out);have HW:=Lib.hid hW;have l1:w.heap.size<W.heap.size:=HY.out.lt;obtain ⟨n,hn⟩:∃ n,n=s.evs.length:=⟨_,rfl⟩
 have hnx:Hid (n=xs.length):=by show _=_;rw [hn,h.len]
 have b0:W.cell? ⟨w.heap.size,73,none⟩=some (.slice x.e n x.ce):=by rw [hn];exact ip h.sh HY.out
 have hn1:n≤x.ce:=by rw [hn];exact h.ce.1
 have hn2:n≤1000000:=by rw [hn];exact h.ce.2
 have Hsz:=Lib.hid (dl (x:=x) h.sh);have Hsb:Hid (i7 s=(xs.all (fun p=>aL p.2) && gY s)):=by show _=_;unfold i7;rw [h.ev,List.all_map];rfl
 clear hW h hn;go_enter Tryz.func13,Tryz.ntmps13
 go_upto_region 1 with fail
 rw [←HW.out];clear HW
 go_wp2
 go_loopw [8] (fun i wr=>∃ k:Nat,k≤n∧i=.int .i64 (k:Int)∧Hid (Below W.heap.size W wr)∧Hid ((xs.take k).all (fun p=>aL p.2)=true)) (fun i _=>n - (intOf i).toNat)
 case atStart=>exact ⟨0,by omega,rfl,Below.refl _ _,by simp [Hid]⟩
 case round =>
  obtain ⟨k,hk,rfl,hbel,hat⟩:=hrel;rename World=>wr
  by_cases hlt:k<n
  ·have hltI:(k:Int)<(n:Int):=by omega
   have hk0:(0:Int)≤(k:Int):=by omega
   obtain ⟨b,o,hA,hbB,hc⟩:=(HS.out.evs.below hbel.out) (by rw [←hnx.out];omega);obtain ⟨p,hp⟩:∃ p,xs[k]?=some p:=⟨_,List.getElem?_eq_getElem (by rw [←hnx.out];exact hlt)⟩
   have hpm:p ∈ xs:=List.mem_of_getElem? hp;have Hrg:=Lib.hid (hc k p hp);have Hps:=Lib.hid (HS.out.shp hpm);have Hz:=Lib.hid (jL (p:=p) Hps.out);obtain ⟨x1,y1,X1,Y1,T1,B1,L1⟩:=eQ wr 65 (bm none 0 0 none 0 0 mo) (eJ p) (by rw [ex Hps.out];rfl);rw [jV] at X1;have HB1:Hid (Below W.heap.size W y1):=hbel.out.trans (L1.out.mono hbel.out.size);have hfr:=(HS.out.on HB1.out).fr p hpm;have Hfr:=Lib.hid hfr.1;have Hat:Hid (aL p.2=true→(xs.take (k + 1)).all (fun p=>aL p.2)=true):=fun hr=>vx hat.out hp hr
   have Hno:Hid (aL p.2=false→i7 s=false):=fun hr=>by
    rw [Hsb.out,List.all_eq_false.2 ⟨p,hpm,by simp [hr]⟩];rfl
   clear hc hp hpm hfr hat;rw [hA];clear hA b0;go_upto_region 4 with (first
    | ((with_reducible refine aE 65 ?_);refine aa (by rfl) 65 (.tmp 10) rfl b (o + k * 42) rfl (eJ p) _ Hrg.out dz rfl Hz.out ?_)
    | (rw [←X1.out];(with_reducible refine aM 65 ?_);refine wpList_store_mid rfl 65 (.tmp 4) (.tmp 11) rfl wr.heap.size 0 (eJ p).toArray rfl rfl T1.out (by rw [List.size_toArray];exact Hz.out) (mF _) ?_))
   rw [←Y1.out];have l3:wr.heap.size<y1.heap.size:=B1.out.lt;refine Sd.plain ?_;simp only [Act.put]
   repeat ((first | refine sl (ae B1.out) l3 dz Hz.out ?_ | refine cl (fun u hu=>nk p.1.f p.1.cf p.1.o p.1.co p.2 Hps.out u ((Hfr.out.below hu).more hu.size)) ?_ | refine pt ?_);simp only [ld,lg,lf,Nat.reduceAdd])
   refine Sd.done fun w2 hb2=>?_
   have Hb2:=Lib.hid (HB1.out.trans (hb2.mono HB1.out.size));clear hb2 X1 Y1 T1 HB1 hbel Hrg;rcases hv:aL p.2 with _ | _
   ·have Hr:=Lib.hid (Hno.out hv)
    simp only [hv,Bool.not_false,Bool.not_true];clear hv
    go_wp2
    go_ret
    exact ⟨by rw [Hr.out];rfl,HB.out.trans (Hb2.out.mono HB.out.size)⟩
   ·have Hr:=Lib.hid (Hat.out hv)
    simp only [hv,Bool.not_false,Bool.not_true];clear hv
    go_wp2
    go_roundw
    case rel=>exact ⟨k + 1,by omega,by go_num,Hb2,Hr⟩
    case measure=>simp [intOf];omega
  ·have hltI:¬ (k:Int)<(n:Int):=by omega
   have Hall:Hid (xs.all (fun p=>aL p.2)=true):=by
    show _=_
    have:=hat.out;rw [List.take_of_length_le (by rw [←hnx.out];omega)] at this;exact this
   have Hyr:=Lib.hid (HY.out.below hbel.out l1);have l2:w.heap.size<wr.heap.size:=Hyr.out.lt;clear b0 hat;go_upto_region 7 with fail
   refine Sd.plain ?_
   repeat ((first | refine sl (ae Hyr.out) l2 az Hsz.out ?_ | refine cl (fun u hu=>qS ((HS.out.on hbel.out).on hu)) ?_ | refine pt ?_);simp only [ld,lg,lf,Nat.reduceAdd])
   refine Sd.done fun w2 hb2=>?_
   have Hb2:=Lib.hid (HB.out.trans ((hbel.out.trans (hb2.mono hbel.out.size)).mono HB.out.size));clear hb2
   go_wp2
   go_ret
   exact ⟨by rw [Hsb.out,Hall.out];rfl,Hb2.out⟩
set_option maxRecDepth 100000 in
theorem jh (p:dL × da) (hp:aB p.2) (w:World) (hf:BS w w.heap.size p.1.f p.2.act.frame) :
  Calls Tryz.prog 20 #[.agg (eJ p).toArray] w (gL w (aL p.2) (bC p.2)):=by
 obtain ⟨W,hW⟩:∃ W,W=w.alloc (.cells (eJ p).toArray 65):=⟨_,rfl⟩
 have HY:Hid (ah W w.heap.size 65 (eJ p).toArray):=by rw [hW];exact ah.new w _ _ _ rfl
 have HB:Hid (Below w.heap.size w W):=by rw [hW];exact (Below.refl _ _).alloc (Nat.le_refl _) _
 have Hf:=Lib.hid ((hf.below HB.out).more HB.out.size);have HW:=Lib.hid hW;have Hp:=Lib.hid hp;have RF:=Lib.hid (ae HY.out);have Hz:=Lib.hid (jL (p:=p) hp);clear hW hf hp;go_enter Tryz.func20,Tryz.ntmps20
 go_upto_region 1 with fail
 rw [←HW.out];clear HW
 go_wp2_with ((with_reducible refine aE 65 ?_);refine aa (by rfl) 65 (.tmp 1) rfl w.heap.size 0 rfl (eJ p) _ RF.out dz rfl Hz.out ?_)
 refine (CE p.1.f p.1.cf p.1.o p.1.co p.2 Hp.out W Hf.out).mono ?_;rintro e w2 ⟨hb2,hno,hyes⟩;have Hb2:=Lib.hid (HB.out.trans (hb2.mono HB.out.size));rcases hr:aL p.2 with _ | _
 ·obtain rfl:=hno hr
  clear hno hyes hb2
  go_wp2
  go_ret2
  unfold gL;rw [hr];exact ⟨Hb2.out,fun _=>rfl,fun h=>(by cases h)⟩
 ·obtain ⟨A2,c2,rfl,hown⟩:=hyes hr
  have hlen:=iU Hp.out hr;obtain ⟨m,hm⟩:∃ m,m=bP p.2:=⟨_,rfl⟩
  have Hm:=Lib.hid hm;rw [←hm] at hown hlen ⊢;have Hb:=Lib.hid (BS.of_own hown).1;have hl:m.length≤1048576:=by omega
  have Hr:=Lib.hid hr;clear hno hyes hb2 hown hm hlen hr
  go_wp2_with fail
  refine (qF A2 m.length c2 m w2 rfl Hb.out hl).mono ?_;rintro e w3 ⟨A3,c3,rfl,hown,hb3⟩;have Hb3:=Lib.hid (Hb2.out.trans (hb3.mono Hb2.out.size));have Ho3:=Lib.hid (bV hown Hb2.out.size);clear hown hb3
  go_wp2
  go_ret2
  unfold gL bC;rw [Hr.out];refine ⟨Hb3.out,fun h=>(by cases h),fun _=>?_⟩;rw [←Hm.out];exact ⟨A3,c3,rfl,Ho3.out⟩
end Go.Proofs.YtaafkokfdgfabaaGreat
namespace Go.Proofs.YtaafkokfdgfabaaGreat
open Go.RowKit
set_option linter.unusedVariables false
set_option linter.unusedSimpArgs false
def iY (c:UInt8):Bool:=decide (48≤c.toNat) && decide (c.toNat≤57)
def fZ (l:List UInt8):Nat:=l.foldl (fun n c=>n * 10 + (c.toNat - 48)) 0
def ea (l:List UInt8) (k:Nat):Option (Nat × Nat × Bool) :=
 if Lib.hasSuffix l (fB k)=true∧(Lib.trimSuffix l (fB k)).length=6 then some (if (Lib.trimSuffix l (fB k)).all iY then (fZ (Lib.trimSuffix l (fB k)),k,true) else (0,0,false)) else none
def iw (l:List UInt8):Nat × Nat × Bool:=(ea l 1).getD ((ea l 2).getD (0,0,false))
theorem EC (l:List UInt8) (hl:l.length≤1000000000) (k:Nat) (w:World) :
  Calls Tryz.prog 53 #[.string ⟨l.toArray⟩,.string ⟨(fB k).toArray⟩] w fun e w'=>e=.returned (.tuple #[.string ⟨(Lib.trimSuffix l (fB k)).toArray⟩,.bool (Lib.hasSuffix l (fB k))])∧w=w':=by
 refine (Tryz.strings_CutSuffix ⟨l.toArray⟩ ⟨(fB k).toArray⟩ w (by show l.toArray.size≤_;simp;omega)).mono ?_;rintro e w' ⟨h1,h2⟩;exact ⟨h1,h2.symm⟩
theorem AY (l:List UInt8) (k:Nat) (h:k<l.length):fZ (l.take (k + 1))=fZ (l.take k) * 10 + (l[k].toNat - 48):=by
 unfold fZ;rw [List.take_add_one,List.getElem?_eq_getElem h,List.foldl_append];rfl
theorem zw:∀ (l:List UInt8) (n:Nat),l.all iY=true→l.foldl (fun n c=>n * 10 + (c.toNat - 48)) n<(n + 1) * 10 ^ l.length
 | [],n,_=>by simp
 | c :: l,n,h=>by
  rw [List.all_cons,Bool.and_eq_true] at h;have h1:=zw l (n * 10 + (c.toNat - 48)) h.2;have h2:=h.1;simp only [iY,Bool.and_eq_true,decide_eq_true_eq] at h2;rw [List.foldl_cons,List.length_cons];have h3:(n * 10 + (c.toNat - 48) + 1) * 10 ^ l.length≤(n * 10 + 10) * 10 ^ l.length:=Nat.mul_le_mul_right _ (by omega);have h4:(n * 10 + 10) * 10 ^ l.length=(n + 1) * 10 ^ (l.length + 1):=by rw [show n * 10 + 10=(n + 1) * 10 by omega,Nat.pow_succ,Nat.mul_assoc,Nat.mul_comm 10]
  omega
theorem tL {l:List UInt8} (h:l.all iY=true):fZ l<10 ^ l.length:=by
 have:=zw l 0 h;unfold fZ;omega
set_option maxRecDepth 100000 in
theorem gC (l:List UInt8) (hl:l.length≤1000000) (w:World):Calls Tryz.prog 23 #[.string ⟨l.toArray⟩] w fun e w'=>e=.returned (.tuple #[.int .i64 ((iw l).1:Int),.int .i64 ((iw l).2.1:Int),.bool (iw l).2.2])∧Below w.heap.size w w':=by
 go_enter Tryz.func23,Tryz.ntmps23
 go_wp2
 go_loopw [5] (fun i wr=>∃ k:Nat,i=.int .i64 (k:Int)∧((k=1∧True)∨(k=2∧ea l 1=none)∨(k=3∧ea l 1=none∧ea l 2=none))∧Hid (Below w.heap.size w wr)) (fun i _=>3 - (intOf i).toNat)
 case atStart=>exact ⟨1,rfl,.inl ⟨rfl,trivial⟩,Below.refl _ _⟩
 case round =>
  obtain ⟨k,rfl,hc,HB⟩:=hrel;rename World=>wr
  have Hc:=Lib.hid hc;by_cases hk3:k=3
  ·subst hk3
   have hr:Hid (iw l=(0,0,false)):=by
    show _=_
    rcases Hc.out with ⟨h,_⟩ | ⟨h,_⟩ | ⟨_,h1,h2⟩
    ·omega
    ·omega
    ·unfold iw;rw [h1,h2];rfl
   clear hc
   go_wp2
   go_ret3
   exact ⟨by rw [hr.out];rfl,HB.out⟩
  ·have hk12:k=1∨k=2:=by rcases Hc.out with ⟨h,_⟩ | ⟨h,_⟩ | ⟨h,_⟩ <;> omega
   have hkle:(k:Int)≤2:=by omega
   have hk0:(0:Int)≤(k:Int):=by omega
   have Hnext:Hid (ea l k=none→(k + 1=1∧True)∨(k + 1=2∧ea l 1=none)∨(k + 1=3∧ea l 1=none∧ea l 2=none)):=fun hn=>by
    rcases Hc.out with ⟨h,_⟩ | ⟨h,h1⟩ | ⟨h,_⟩
    ·subst h;exact .inr (.inl ⟨rfl,hn⟩)
    ·subst h;exact .inr (.inr ⟨rfl,h1,hn⟩)
    ·omega
   have Hgot:Hid (∀ r,ea l k=some r→iw l=r):=fun r hr=>by
    rcases Hc.out with ⟨h,_⟩ | ⟨h,h1⟩ | ⟨h,_⟩
    ·subst h;unfold iw;rw [hr];rfl
    ·subst h;unfold iw;rw [h1,hr];rfl
    ·omega
   obtain ⟨tr,htr⟩:∃ t,t=Lib.trimSuffix l (fB k):=⟨_,rfl⟩
   obtain ⟨sf,hsf⟩:∃ t,t=Lib.hasSuffix l (fB k):=⟨_,rfl⟩
   have Hone:Hid (ea l k=if sf=true∧tr.length=6 then some (if tr.all iY then (fZ tr,k,true) else (0,0,false)) else none):=by show _=_;unfold ea;rw [←htr,←hsf]
   have Hcut:=Lib.hid (fun w=>EC l (by omega) k w);rw [←htr,←hsf] at Hcut;have htl:tr.length≤1000000:=by
    rw [htr];unfold Lib.trimSuffix;split
    ·rw [List.length_take];omega
    ·omega
   clear hc hk3 htr hsf
   go_wp2_with fail
   refine (vo k hk12 wr).mono ?_;rintro e _ ⟨rfl,rfl⟩
   go_wp2_with fail
   refine (Hcut.out wr).mono ?_;rintro e _ ⟨rfl,rfl⟩;rcases sf with _ | _
   ·have Hn:=Lib.hid (Hnext.out (by rw [Hone.out];simp))
    go_wp2
    go_roundw
    case rel=>exact ⟨k + 1,by go_num,Hn.out,HB⟩
    case measure=>simp [intOf];omega
   by_cases h6:tr.length=6
   rotate_left
   ·have Hn:=Lib.hid (Hnext.out (by rw [Hone.out];simp [h6]))
    have h6I:((tr.length:Int) != 6)=true:=by simp;omega
    clear h6
    go_wp2
    go_roundw
    case rel=>exact ⟨k + 1,by go_num,Hn.out,HB⟩
    case measure=>simp [intOf];omega
   have Hone2:Hid (ea l k=some (if tr.all iY then (fZ tr,k,true) else (0,0,false))):=by show _=_;rw [Hone.out,if_pos ⟨rfl,h6⟩]
   have H6:=Lib.hid h6;have h6I:((tr.length:Int) != 6)=false:=by simp;omega
   have hcv:=iA wr tr;have Hbw:=Lib.hid (eh wr 5 ⟨tr.toArray⟩);have Hbs:=Lib.hid (fD wr 5 tr);obtain ⟨v,hv⟩:∃ v,v=Lib.bytesWorld wr 5 ⟨tr.toArray⟩:=⟨_,rfl⟩
   rw [←hv] at Hbw Hbs hcv;clear hv h6 Hnext Hone Hcut
   go_wp2_with fail
   go_loopw [8,32] (fun vn vi wq=>∃ j:Nat,j≤tr.length∧vi=.int .i64 (j:Int)∧vn=.int .i64 ((fZ (tr.take j):Nat):Int)∧Hid (Below v.heap.size v wq)∧Hid ((tr.take j).all iY=true)) (fun _ vi _=>tr.length - (intOf vi).toNat)
   case atStart=>exact ⟨0,by omega,rfl,by simp [fZ],Below.refl _ _,by simp [Hid]⟩
   case round =>
    obtain ⟨j,hj,rfl,rfl,hbq,hat⟩:=hrel;rename World=>wq
    have HBq:Hid (Below w.heap.size w wq):=HB.out.trans ((Hbw.out.trans (hbq.out.mono Hbw.out.size)).mono HB.out.size);by_cases hlt:j<tr.length
    ·have hltI:(j:Int)<(tr.length:Int):=by omega
     have hj0:(0:Int)≤(j:Int):=by omega
     obtain ⟨ad,hA,hadb,hcell⟩:=(Hbs.out.below hbq.out).at_ hlt;injection hA with hA
     subst hA;obtain ⟨z,hz⟩:∃ z,z=tr[j].toNat:=⟨_,rfl⟩
     rw [←hz,show (⟨wr.heap.size,0,none⟩:Addr).add j=⟨wr.heap.size,j,none⟩ by unfold Addr.add;split <;> simp_all] at hcell;have hz2:z<256:=by rw [hz];exact tr[j].toNat_lt
     have Hbad:Hid (¬ (48≤z∧z≤57)→iw l=(0,0,false)):=fun hn=>by
      have hx:tr.all iY=false:=by
       rw [List.all_eq_false];refine ⟨tr[j],List.getElem_mem hlt,?_⟩;simp only [iY,Bool.and_eq_true,decide_eq_true_eq,←hz];exact hn
      rw [Hgot.out _ Hone2.out,hx];rfl
     have Hgood:Hid (48≤z∧z≤57→(tr.take (j + 1)).all iY=true∧fZ (tr.take (j + 1))=fZ (tr.take j) * 10 + (z - 48)):=fun hn=>by
      refine ⟨vx hat.out (List.getElem?_eq_getElem hlt) (by simp only [iY,Bool.and_eq_true,decide_eq_true_eq,←hz];exact hn),?_⟩;rw [AY _ _ hlt,hz]
     have hnl:fZ (tr.take j)<1000000:=by
      have h1:=tL hat.out;have h2:(tr.take j).length≤6:=by rw [List.length_take];have:=H6.out;omega
      have h3:=Nat.pow_le_pow_right (n:=10) (by decide) h2;omega
     obtain ⟨q,hq⟩:∃ q,q=fZ (tr.take j):=⟨_,rfl⟩
     rw [←hq] at hnl Hgood ⊢;clear hz hq hadb hat;by_cases a1:z<48
     ·have a1I:(z:Int)<48:=by omega
      have hr:=Lib.hid (Hbad.out (by omega))
      go_wp2_with fail
      go_ret3
      exact ⟨by rw [hr.out];rfl,HBq.out⟩
     ·by_cases a2:z≤57
      rotate_left
      ·have a1I:¬ (z:Int)<48:=by omega
       have a2I:(57:Int)<(z:Int):=by omega
       have hr:=Lib.hid (Hbad.out (by omega))
       go_wp2_with fail
       go_ret3
       exact ⟨by rw [hr.out];rfl,HBq.out⟩
      ·have a1I:¬ (z:Int)<48:=by omega
       have a2I:¬ (57:Int)<(z:Int):=by omega
       have hg:=Hgood.out ⟨by omega,a2⟩;have Hg1:=Lib.hid hg.1;have Hg2:=Lib.hid hg.2;have a3:48≤z:=by omega
       clear hg
       go_wp2_with fail
       go_roundw
       case rel=>exact ⟨j + 1,by omega,by go_num,by rw [Hg2.out];congr 1;omega,hbq,Hg1⟩
       case measure=>simp [intOf];omega
    ·have hltI:¬ (j:Int)<(tr.length:Int):=by omega
     have hall:tr.all iY=true:=by have:=hat.out;rw [List.take_of_length_le (by omega)] at this;exact this
     have hr:Hid (iw l=(fZ tr,k,true)):=by show _=_;rw [Hgot.out _ Hone2.out,hall];rfl
     have hq:tr.take j=tr:=List.take_of_length_le (by omega);rw [hq];clear hq hall hat
     go_wp2
     go_ret3
     exact ⟨by rw [hr.out];rfl,HBq.out⟩
end Go.Proofs.YtaafkokfdgfabaaGreat
namespace Go.Proofs.YtaafkokfdgfabaaGreat
open Go.RowKit
set_option linter.unusedVariables false
set_option linter.unusedSimpArgs false
theorem FQ {l s:List UInt8} (h:Lib.hasSuffix l s=true):∃ t,l=t ++ s:=by
 unfold Lib.hasSuffix at h;obtain ⟨t,ht⟩:=List.isSuffixOf_iff_suffix.1 h;exact ⟨t,ht.symm⟩
theorem zx (t s:List UInt8):Lib.hasSuffix (t ++ s) s=true:=by
 unfold Lib.hasSuffix;exact List.isSuffixOf_iff_suffix.2 ⟨t,rfl⟩
theorem vy (t s:List UInt8):Lib.trimSuffix (t ++ s) s=t:=by
 unfold Lib.trimSuffix;rw [if_pos (zx t s),List.length_append,Nat.add_sub_cancel,List.take_left]
theorem Dr {k:Nat}:(fB k).length=4:=by unfold fB;split <;> rfl
theorem iE {t:List UInt8} (ht:t.length=6) (k:Nat):ea (t ++ fB k) k=some (if t.all iY then (fZ t,k,true) else (0,0,false)):=by
 unfold ea;rw [vy,if_pos ⟨zx _ _,ht⟩]
theorem pm {l:List UInt8} {k:Nat} {r:Nat × Nat × Bool} (h:ea l k=some r):∃ t,l=t ++ fB k∧t.length=6:=by
 unfold ea at h;split at h
 ·rename_i hc
  obtain ⟨t,rfl⟩:=FQ hc.1;rw [vy] at hc;exact ⟨t,rfl,hc.2⟩
 ·cases h
theorem AZ {t:List UInt8} (ht:t.length=6):ea (t ++ fB 2) 1=none:=by
 rcases h:ea (t ++ fB 2) 1 with _ | r
 ·rfl
 ·obtain ⟨u,hu,hl⟩:=pm h
  have:=(List.append_inj hu (by rw [ht,hl])).2;simp [fB] at this
def ly (l:List UInt8):Bool:=(l.take 6).all iY && (l.drop 6 == fB 1 || l.drop 6 == fB 2)
theorem xP (l:List UInt8):(∃ t k,(k=1∨k=2)∧l=t ++ fB k∧t.length=6∧t.all iY=true∧iw l=(fZ t,k,true))∨(iw l=(0,0,false)∧(l.length=10→ly l=false)):=by
 unfold iw;rcases h1:ea l 1 with _ | r
 ·rcases h2:ea l 2 with _ | r
  ·refine .inr ⟨rfl,fun hl=>?_⟩
   rcases hb:ly l with _ | _
   ·rfl
   ·simp only [ly,Bool.and_eq_true,Bool.or_eq_true,beq_iff_eq] at hb
    obtain ⟨_,hb⟩:=hb;have ht:(l.take 6).length=6:=by rw [List.length_take];omega
    rcases hb with hb | hb
    ·have:=iE ht 1
     rw [←hb,List.take_append_drop,h1] at this;cases this
    ·have:=iE ht 2
     rw [←hb,List.take_append_drop,h2] at this;cases this
  ·obtain ⟨t,rfl,ht⟩:=pm h2
   rw [iE ht] at h2;injection h2 with h2
   subst h2;simp only [Option.getD_none,Option.getD_some];rcases hd:t.all iY with _ | _
   ·refine .inr ⟨by simp,fun _=>?_⟩
    unfold ly;rw [show (6:Nat)=t.length from ht.symm,List.take_left,hd,Bool.false_and]
   ·exact .inl ⟨t,2,.inr rfl,rfl,ht,hd,by simp⟩
 ·obtain ⟨t,rfl,ht⟩:=pm h1
  rw [iE ht] at h1;injection h1 with h1
  subst h1;simp only [Option.getD_some];rcases hd:t.all iY with _ | _
  ·refine .inr ⟨by simp,fun _=>?_⟩
   unfold ly;rw [show (6:Nat)=t.length from ht.symm,List.take_left,hd,Bool.false_and]
  ·exact .inl ⟨t,1,.inl rfl,rfl,ht,hd,by simp⟩
theorem pn:∀ (l:List UInt8) (n:Nat),l.foldl (fun n c=>n * 10 + (c.toNat - 48)) n=n * 10 ^ l.length + fZ l
 | [],n=>by simp [fZ]
 | c :: l,n=>by
  have h1:=pn l (n * 10 + (c.toNat - 48));have h2:fZ (c :: l)=(0 * 10 + (c.toNat - 48)) * 10 ^ l.length + fZ l:=pn l (0 * 10 + (c.toNat - 48));rw [List.foldl_cons,h1,h2,List.length_cons,Nat.pow_succ,Nat.zero_mul,Nat.zero_add,Nat.add_mul,Nat.mul_assoc,Nat.mul_comm 10];omega
theorem sj (c:UInt8) (l:List UInt8):fZ (c :: l)=(c.toNat - 48) * 10 ^ l.length + fZ l:=by
 have h2:fZ (c :: l)=(0 * 10 + (c.toNat - 48)) * 10 ^ l.length + fZ l:=pn l (0 * 10 + (c.toNat - 48));rw [h2,Nat.zero_mul,Nat.zero_add]
theorem zy (n k:Nat):(Dq n k).toNat=48 + n / 10 ^ k % 10:=by
 have:=Nat.mod_lt (n / 10 ^ k) (show 0<10 by decide);unfold Dq;rw [UInt8.toNat_ofNat'];omega
theorem vz (n:Nat):∀ k,(gm n k).all iY=true
 | 0=>rfl
 | k + 1=>by
  have:=Nat.mod_lt (n / 10 ^ k) (show 0<10 by decide);rw [gm,List.all_cons,vz n k,Bool.and_true];simp only [iY,zy,Bool.and_eq_true,decide_eq_true_eq];omega
theorem sm (n:Nat):∀ k,fZ (gm n k)=n % 10 ^ k
 | 0=>by simp [gm,fZ,Nat.mod_one]
 | k + 1=>by
  rw [gm,sj,sm n k,jJ,zy,Nat.mod_pow_succ];rw [show 48 + n / 10 ^ k % 10 - 48=n / 10 ^ k % 10 by omega,Nat.mul_comm];omega
theorem sn:∀ (l:List UInt8) (n:Nat),l.all iY=true→gm (n * 10 ^ l.length + fZ l) l.length=l
 | [],n,_=>rfl
 | c :: l,n,h=>by
  rw [List.all_cons,Bool.and_eq_true] at h;have h2:=h.1;simp only [iY,Bool.and_eq_true,decide_eq_true_eq] at h2;have e:n * 10 ^ (c :: l).length + fZ (c :: l)=(n * 10 + (c.toNat - 48)) * 10 ^ l.length + fZ l:=by
   rw [sj,List.length_cons,Nat.pow_succ,Nat.add_mul,Nat.mul_assoc,Nat.mul_comm 10];omega
  rw [e,List.length_cons,gm,sn l _ h.2];congr 1
  unfold Dq;rw [Nat.add_comm (_ * _),Nat.add_mul_div_right _ _ (Nat.pow_pos (by decide)),Nat.div_eq_of_lt (tL h.2),Nat.zero_add];apply UInt8.toNat_inj.1
  rw [UInt8.toNat_ofNat'];omega
theorem A0 {n kind:Int} (h0:0≤n) (h9:n≤999999) (hk:kind=1∨kind=2):iw (gm n.toNat 6 ++ fB kind.toNat)=(n.toNat,kind.toNat,true):=by
 have hv:fZ (gm n.toNat 6)=n.toNat:=by rw [sm,Nat.mod_eq_of_lt (by omega)]
 have hl:=jJ n.toNat 6;have ha:=vz n.toNat 6;unfold iw;rcases hk with rfl | rfl
 ·show (ea (gm n.toNat 6 ++ fB 1) 1).getD _=_
  rw [iE hl,ha,hv];rfl
 ·show (ea (gm n.toNat 6 ++ fB 2) 1).getD ((ea (gm n.toNat 6 ++ fB 2) 2).getD _)=_
  rw [AZ hl,iE hl,ha,hv];rfl
theorem ED {t:List UInt8} {k:Nat} (hk:k=1∨k=2) (ht:t.length=6) (ha:t.all iY=true):eN (fZ t:Int) (k:Int)=(t ++ fB k,true):=by
 have h1:=tL ha;rw [ht] at h1;have h2:=sn t 0 ha;rw [ht,Nat.zero_mul,Nat.zero_add] at h2;unfold eN;rw [if_pos (by omega),Int.toNat_natCast,Int.toNat_natCast,h2]
end Go.Proofs.YtaafkokfdgfabaaGreat
namespace Go.Proofs.YtaafkokfdgfabaaGreat
open Go.RowKit
set_option linter.unusedVariables false
set_option linter.unusedSimpArgs false
theorem vA (l:List UInt8):(⟨l.toArray⟩:ByteArray).toList=l:=by
 rw [ByteArray.toList_eq]
set_option maxRecDepth 100000 in
theorem Be (l:List UInt8) (hl:l.length=10) (w:World):Calls Tryz.prog 24 #[.string ⟨l.toArray⟩] w fun e w'=>e=.returned (.bool (ly l))∧w=w':=by
 have Hl:=Lib.hid hl;have hs:(⟨l.toArray⟩:ByteArray).size=10:=by show l.toArray.size=10;rw [List.size_toArray];exact hl
 obtain ⟨r,hr⟩:∃ r,r=ly l:=⟨_,rfl⟩
 rw [←hr];have Hr:=Lib.hid hr;obtain ⟨S,hS⟩:∃ S,S=(⟨l.toArray⟩:ByteArray):=⟨_,rfl⟩
 rw [←hS] at hs ⊢;have HS:=Lib.hid hS;clear hl hr hS;go_enter Tryz.func24,Tryz.ntmps24
 go_wp2
 go_loopw [3] (fun i wr=>∃ k:Nat,k≤6∧i=.int .i64 (k:Int)∧wr=w∧Hid ((l.take k).all iY=true)) (fun i _=>6 - (intOf i).toNat)
 case atStart=>exact ⟨0,by omega,rfl,rfl,by simp [Hid]⟩
 case round =>
  obtain ⟨k,hk,rfl,rfl,hat⟩:=hrel;by_cases hlt:k<6
  ·have hltI:(k:Int)<6:=by omega
   have hk0:(0:Int)≤(k:Int):=by omega
   have hkS:(k:Int)<(S.size:Int):=by omega
   have hkl:k<l.length:=by rw [Hl.out];omega
   have hb:k<S.size:=by omega
   have hSk:S[k]=l[k]:=by
    have e:=HS.out;subst e;rfl
   have Hbad:Hid (¬ (48≤S[k].toNat∧S[k].toNat≤57)→r=false):=fun h=>by
    rw [Hr.out,ly,List.all_eq_false.2 ⟨l[k],List.mem_take_iff_getElem.2 ⟨k,by omega,rfl⟩,by simpa [iY,hSk] using h⟩,Bool.false_and]
   have Hgood:Hid (48≤S[k].toNat∧S[k].toNat≤57→(l.take (k + 1)).all iY=true):=fun h=>by
    rw [List.take_add_one,List.getElem?_eq_getElem hkl,List.all_append,hat.out];simpa [iY,hSk] using h
   clear hSk hat;by_cases h48:S[k].toNat<48
   ·have h48I:((S[k].toNat:Nat):Int)<48:=by omega
    have hf:=Lib.hid (Hbad.out (by omega));clear h48
    go_wp2
    go_ret
    exact ⟨by rw [hf.out];rfl,rfl⟩
   have h48I:¬ ((S[k].toNat:Nat):Int)<48:=by omega
   by_cases h57:57<S[k].toNat
   ·have h57I:(57:Int)<((S[k].toNat:Nat):Int):=by omega
    have hf:=Lib.hid (Hbad.out (by omega));clear h48 h57
    go_wp2
    go_ret
    exact ⟨by rw [hf.out];rfl,rfl⟩
   ·have h57I:¬ (57:Int)<((S[k].toNat:Nat):Int):=by omega
    have hg:=Lib.hid (Hgood.out (by omega));clear h48 h57
    go_wp2
    go_roundw
    case rel=>exact ⟨k + 1,by omega,by go_num,trivial,hg⟩
    case measure=>simp [intOf];omega
  ·obtain rfl:k=6:=by omega
   have Hd:Hid (S.extract 6 10=⟨(l.drop 6).toArray⟩):=by
    show _=_
    rw [HS.out];apply ByteArray.ext
    simp only [ByteArray.data_extract,List.extract_toArray,List.extract_eq_take_drop];rw [List.take_of_length_le (by rw [List.length_drop];have:=Hl.out;omega)]
   have Hnm:Hid (r=(l.drop 6 == fB 1 || l.drop 6 == fB 2)):=by show _=_;rw [Hr.out,ly,hat.out,Bool.true_and]
   clear hat;have hx:(S.extract 6 10).toList=l.drop 6:=by
    rw [Hd.out];exact vA _
   have h1:((S.extract 6 10).toList == [46,108,111,103])=(l.drop 6 == fB 1):=by rw [hx];rfl
   have h2:((S.extract 6 10).toList == [46,99,97,112])=(l.drop 6 == fB 2):=by rw [hx];rfl
   clear hx;rcases e1:(l.drop 6 == fB 1) with _ | _
   rotate_left
   ·have hf:Hid (r=true):=by show _=_;rw [Hnm.out,e1];rfl
    rw [e1] at h1;clear e1 h2
    go_wp2
    go_ret
    exact ⟨by rw [hf.out];rfl,rfl⟩
   rcases e2:(l.drop 6 == fB 2) with _ | _
   ·have hf:Hid (r=false):=by show _=_;rw [Hnm.out,e1,e2];rfl
    rw [e1] at h1;rw [e2] at h2;clear e1 e2
    go_wp2
    go_ret
    exact ⟨by rw [hf.out];rfl,rfl⟩
   ·have hf:Hid (r=true):=by show _=_;rw [Hnm.out,e1,e2];rfl
    rw [e1] at h1;rw [e2] at h2;clear e1 e2
    go_wp2
    go_ret
    exact ⟨by rw [hf.out];rfl,rfl⟩
end Go.Proofs.YtaafkokfdgfabaaGreat
