import Derived.Test.YtaafkokfdgfabaaGreatP11
import Derived.Test.YtaafkokfdgfabaaGreatP12
import Derived.Test.YtaafkokfdgfabaaGreatP14
import Derived.Test.YtaafkokfdgfabaaGreatP16
import Derived.Test.YtaafkokfdgfabaaGreatP23
set_option maxHeartbeats 8000000
set_option maxRecDepth 100000
set_option linter.unusedVariables false
set_option linter.unusedSimpArgs false
open Bool renaming and_assoc→IN,and_eq_true→IT,and_true→IX,and_false→I7
open Int renaming toNat_natCast→IG
open List renaming getElem?_eq_getElem→IB,getElem?_append_right→IC,length_append→ID,getElem?_toArray→IE,getElem?_append_left→IJ,getElem?_eq_some_iff→IK,getElem?_cons_succ→IL,getElem?_map→IQ,getElem_mem→IR,take_of_length_le→IU,append_assoc→I2,length_take→I4
open Nat renaming le_refl→Iy,reduceAdd→Iz,add_sub_cancel_left→IS,pow_le_pow_right→IV,lt_of_lt_of_le→IY,zero_add→I0,min_eq_left→I5,two_pow_pos→I6,lt_or_ge→I8,le_trans→I9
open UInt8 renaming ofNat→qq,toNat_ofNat'→IF
namespace Go.Proofs.YtaafkokfdgfabaaGreat
open Go.RowKit
open Lib (hid)
open Act renaming put→IW
open IntWalk renaming u64_in→IH
open On renaming val→Ja,call→Jb
open Op renaming bytesLess→IZ
open Sd renaming done→II,plain→IM
open Tryz renaming prog→IA,underlying43→IP
open Value renaming int→I3
open World renaming ownsRow_lit→I1
theorem ei(w:World)(t:TypeId)(z cs:List Value)(hl:cs.length=z.length):∃x y,Hid (x=w.alloc (.cells z.toArray t))∧Hid (y=x.setCells w.heap.size 0 cs)∧Hid (x.there w.heap.size 0 cs.toArray.size)∧Hid (aj y w.heap.size t cs.toArray)∧Hid (Below w.heap.size w y):=by
 obtain⟨h1,h2,h3⟩:=jE w _ _ t z cs hl rfl rfl;exact⟨_,_,rfl,rfl,h1,h2,h3⟩
theorem fA{p:my}:bU p=true↔dh p.version 0 1099511627776=true∧p.backs.length≤1024∧∀i,i<p.backs.length→eE p.backs i=true:=by
 simp[bU]
theorem Ai{a b:Bool}(h:a=true→b=true)(e:b=false):Hid (a=false):=by
 show _=_
 rcases a with _|_
 ·rfl
 ·rw[h rfl] at e;cases e
theorem nV(A:Option Addr)(n c:Nat)(p:my)(hs:∀b∈p.backs,au b)(hnm:∀b∈p.backs,b.name.length≤1000000000)(w:World)(hn:n=p.backs.length)(hnc:n≤c)(hb:RW ah 27 w w.heap.size A p.backs)(hl:n≤1000000) :
  Calls IA 120 #[.agg (fM A n c p).toArray] w fun e w'=>e=.returned (.bool (bU p))∧Below w.heap.size w w':=by
 subst hn;obtain⟨ver,bs⟩:=p;simp only at hs hnm hb hl hnc ⊢;obtain⟨W,hW⟩:∃W,W=w.alloc (.cells (fM A bs.length c ⟨ver,bs⟩).toArray 32):=⟨_,rfl⟩;have HX:Hid (aj W w.heap.size 32 (fM A bs.length c ⟨ver,bs⟩).toArray):=by rw[hW];exact aj.new w _ _ _ rfl
 have HB:Hid (Below w.heap.size w W):=by rw[hW];exact (Below.refl _ _).alloc (Iy _) _
 have HV:=hid ((hb.below HB.out).more HB.out.size);have Hs:=hid hs;have Hnm:=hid hnm;have d0:W.cell? ⟨w.heap.size,0,none⟩=some (.int .i64 ver):=HX.out.cell 0;have d1:W.cell? ⟨w.heap.size,1,none⟩=some (.slice A bs.length c):=HX.out.cell 1;have HW:=hid hW;clear hW hb hs hnm;have Hno:=fun (r:Bool) (h:bU ⟨ver,bs⟩=true→r=true)=>Ai h
 go_enter Tryz.func120,Tryz.ntmps120
 go_upto_region 1 with fail
 rw[←HW.out];clear HW;by_cases v1:ver<0
 ·have Hr:=Hno (dh ver 0 1099511627776) (fun h=>(fA.1 h).1) (by unfold dh;rw[decide_eq_false (by omega)];rfl)
  go_wp2
  go_ret
  exact⟨by rw[Hr.out];rfl,HB.out⟩
 by_cases v2:1099511627776<ver
 ·have Hr:=Hno (dh ver 0 1099511627776) (fun h=>(fA.1 h).1) (by unfold dh;rw[decide_eq_false (show ¬ver≤1099511627776 by omega)];simp)
  go_wp2
  go_ret
  exact⟨by rw[Hr.out];rfl,HB.out⟩
 by_cases v3:1024<bs.length
 ·have v3I:(1024:Int)<(bs.length:Int):=by omega
  have Hr:=Hno (decide (bs.length≤1024)) (fun h=>by have:=(fA.1 h).2.1;simpa using this) (by rw[decide_eq_false (by omega)]);clear v3
  go_wp2
  go_ret
  exact⟨by rw[Hr.out];rfl,HB.out⟩
 have v3I:¬(1024:Int)<(bs.length:Int):=by omega
 go_wp2
 go_loopw [22] (fun i wr=>∃k:Nat,k≤bs.length∧i=.int .i64 (k:Int)∧Hid (Below W.heap.size W wr)∧Hid (∀j,j<k→eE bs j=true)) (fun i _=>bs.length-(intOf i).toNat)
 case atStart=>exact⟨0,by omega,rfl,Below.refl _ _,fun j hj=>by omega⟩
 case round =>
  obtain⟨k,hk,rfl,hbel,hat⟩:=hrel;rename World=>wr
  by_cases hlt:k<bs.length
  ·have hltI:(k:Int)<(bs.length:Int):=by omega
   have hk0:(0:Int)≤(k:Int):=by omega
   obtain⟨b,o,hA,hbB,hc⟩:=(HV.out.below hbel.out) (by omega);subst hA;obtain⟨x,hx⟩:∃x,x=bs[k]:=⟨_,rfl⟩;have Hrg:=hid (hc k x (by rw[IB hlt,hx]));have Hxs:=hid (Hs.out x (by rw[hx];exact IR hlt));have Hxn:=hid (Hnm.out x (by rw[hx];exact IR hlt));have Hat0:Hid (eE bs k=(eu x&&(br x.wt==br (fP x.wt)&&(decide (k=0)||(match bs[k-1]? with|some c=>IZ c.name x.name|none=>true))))):=by
    show _=_
    unfold eE;rw[IB hlt,←hx];rfl
   have Hno2:eE bs k=false→Hid (bU ⟨ver,bs⟩=false):=fun h=>Hno (eE bs k) (fun g=>(fA.1 g).2.2 k hlt) h
   have Hyes:Hid (eE bs k=true→∀j,j<k+1→eE bs j=true):=fun h j hj=>by
    rcases I8 j k with h1|h1
    ·exact hat.out j h1
    ·obtain rfl:j=k:=by omega
     exact h
   have HPx:Hid (∀y:aU,bs[k-1]?=some y→wr.cell? ⟨b,o+(k-1)*27,none⟩=some (.string ⟨y.name.toArray⟩)):=fun y hy=>hc (k-1) y hy 0 _ rfl
   have e0:wr.cell? ⟨w.heap.size,1,none⟩=some (.slice (some ⟨b,o,none⟩) bs.length c):=(aj.below HX.out hbel.out HX.out.lt).cell 1;clear hc hx hat;obtain⟨x1,y1,X1,Y1,T1,B1,L1⟩:=ei wr 56 (ah dU) (ah x) (by rw[bu Hxs.out,bu aE]);rw[gU] at X1;have HB1:Hid (Below W.heap.size W y1):=hbel.out.trans (L1.out.mono hbel.out.size);have hold:Hid (∀o,y1.cell? ⟨b,o,none⟩=wr.cell? ⟨b,o,none⟩):=fun o=>L1.out.cell (p:=⟨b,o,none⟩) (by have:=hbel.out.size;have:=hbB;simp;omega)
   have Hsz:=hid (cM Hxs.out);have Hb1:Hid (b<y1.heap.size):=by have:=HB1.out.size;show _<_;omega
   go_upto_region 6 with (first
    |((with_reducible refine aB 56 ?_);refine aa (by rfl) 56 (.tmp 25) rfl b (o+k*27) rfl (ah x) _ Hrg.out bL rfl Hsz.out ?_)
    |(rw[←X1.out];(with_reducible refine aR 56 ?_);refine wpList_store_mid rfl 56 (.tmp 4) (.tmp 26) rfl wr.heap.size 0 (ah x).toArray rfl rfl T1.out (by rw[List.size_toArray];exact Hsz.out) (eS _) ?_))
   rw[←Y1.out];have Hwt:=hid Hxs.out.wt;have e1:y1.cell? ⟨w.heap.size,1,none⟩=some (.slice (some ⟨b,o,none⟩) bs.length c):=(aj.below HX.out HB1.out HX.out.lt).cell 1;have e2:=jx B1.out;have e3:=lv B1.out Hxs.out;have l1:w.heap.size<y1.heap.size:=by have:=HX.out.lt;have:=HB1.out.size;omega
   have l2:wr.heap.size<y1.heap.size:=B1.out.lt;have l3:b<y1.heap.size:=Hb1.out;clear X1 Y1 T1 Hrg hbel e0;have Hfin:Hid (∀w2,Below y1.heap.size y1 w2→Below W.heap.size W w2):=fun w2 h=>HB1.out.trans (h.mono HB1.out.size)
   have Hwt:=hid Hxs.out.wt;refine Sd.start ?_;simp only[IW];rcases hf:eu x with _|_
   ·have Hr:=Hno2 (by rw[Hat0.out,hf];rfl)
    repeat ((first|refine sk ?_|refine sl (ag B1.out) l2 bL Hsz.out ?_|refine cl (fun w _=>pm x Hxs.out Hxn.out w) ?_|refine pt ?_);simp only[ld,lg,lf,Iz,hf])
    refine II fun w2 hb2=>?_
    have Hb2:=hid (HB.out.trans ((Hfin.out w2 hb2).mono HB.out.size));clear hf hb2
    go_wp2
    go_ret
    exact⟨by rw[Hr.out];rfl,Hb2.out⟩
   ·rcases hw:(br x.wt==br (fP x.wt)) with _|_
    ·have Hr:=Hno2 (by rw[Hat0.out,hf,hw];rfl)
     repeat ((first|refine sk ?_|refine sl (ag B1.out) l2 bL Hsz.out ?_|refine cl (fun w _=>pm x Hxs.out Hxn.out w) ?_|refine cq (fun w _=>ov x.wt Hwt.out w) ?_|refine cq (fun w _=>lj x.wt (fP x.wt) w) ?_|refine pt ?_);simp only[ld,lg,lf,Iz,hf,hw])
     refine II fun w2 hb2=>?_
     have Hb2:=hid (HB.out.trans ((Hfin.out w2 hb2).mono HB.out.size));clear hf hw hb2
     go_wp2
     go_ret
     exact⟨by rw[Hr.out];rfl,Hb2.out⟩
    ·rcases k with _|j
     ·have Hr:Hid (eE bs 0=true):=by show _=_;rw[Hat0.out,hf,hw];rfl
      repeat ((first|refine sk ?_|refine sl (ag B1.out) l2 bL Hsz.out ?_|refine cl (fun w _=>pm x Hxs.out Hxn.out w) ?_|refine cq (fun w _=>ov x.wt Hwt.out w) ?_|refine cq (fun w _=>lj x.wt (fP x.wt) w) ?_|refine pt ?_);simp only[ld,lg,lf,Iz,hf,hw])
      refine II fun w2 hb2=>?_
      have Hb2:=hid (Hfin.out w2 hb2);clear hf hw hb2
      go_wp2
      go_roundw
      case rel=>exact⟨_,by omega,by go_num,Hb2,hid (Hyes.out Hr.out)⟩
      case measure=>simp[intOf];omega
     ·obtain⟨y,hy⟩:∃y,bs[j]?=some y:=⟨_,IB (by omega)⟩
      have e4:y1.cell? ⟨b,o+j*27,none⟩=some (.string ⟨y.name.toArray⟩):=(hold.out _).trans (HPx.out y hy);have Hat1:Hid (eE bs (j+1)=IZ y.name x.name):=by show _=_;rw[Hat0.out,hf,hw];simp[hy]
      have j1:(0:Int)≤(j:Int):=by omega
      have j2:(j:Int)<(bs.length:Int):=by omega
      have jw:IntKind.i64.wrap (j:Int)=(j:Int):=IntWalk.i64_in _ (by omega)
      repeat ((first|refine sk ?_|refine sl (ag B1.out) l2 bL Hsz.out ?_|refine cl (fun w _=>pm x Hxs.out Hxn.out w) ?_|refine cq (fun w _=>ov x.wt Hwt.out w) ?_|refine cq (fun w _=>lj x.wt (fP x.wt) w) ?_|refine pt ?_);simp only[ld,lg,lf,Iz,hf,hw,jw])
      refine II fun w2 hb2=>?_
      have Hb2:=hid (Hfin.out w2 hb2);have Hb3:=hid (HB.out.trans (Hb2.out.mono HB.out.size));clear hf hw hb2 jw;rcases hl2:IZ y.name x.name with _|_
      ·have Hr:=Hno2 (by rw[Hat1.out,hl2])
       go_wp2
       go_ret
       exact⟨by rw[Hr.out];rfl,Hb3.out⟩
      ·have Hr:Hid (eE bs (j+1)=true):=by show _=_;rw[Hat1.out,hl2]
       go_wp2
       go_roundw
       case rel=>exact⟨_,by omega,by go_num,Hb2,hid (Hyes.out Hr.out)⟩
       case measure=>simp[intOf];omega
  ·have hltI:¬(k:Int)<(bs.length:Int):=by omega
   have Hr:Hid (bU ⟨ver,bs⟩=true):=fA.2 ⟨by unfold dh;rw[decide_eq_true (by omega),decide_eq_true (by omega)];rfl,by simp only;omega,fun i hi=>hat.out i (by simp only at hi;omega)⟩
   go_wp2
   go_ret
   exact⟨by rw[Hr.out];rfl,HB.out.trans (hbel.out.mono HB.out.size)⟩
theorem wD(a:cO)(ha:aS a)(w:World):Calls IA 187 #[iP a] w fun e w'=>e=.returned (.bool (de a))∧Below w.heap.size w w':=by
 have hlen:a.2.length=16:=ha;unfold iP;obtain⟨W,hW⟩:∃W,W=w.alloc (.cells (ai a).toArray 27):=⟨_,rfl⟩;have HX:Hid (aj W w.heap.size 27 (ai a).toArray):=by rw[hW];exact lr _ _ _
 have HB:Hid (Below w.heap.size w W):=by rw[hW];exact (Below.refl _ _).alloc (Iy _) _
 have c0:W.cell? ⟨w.heap.size,0,none⟩=some (.bool a.1):=kG HX.out;have HS:Hid (BS W W.heap.size (some ⟨w.heap.size,5,none⟩) (a.2.drop 4)):=qG HX.out 4 _ HX.out.lt;have Hdl:Hid (12=(a.2.drop 4).length):=by show _=_;simp;omega
 have HW:=hid hW;have l0:w.heap.size<W.heap.size:=HX.out.lt;clear hW hlen;go_enter Tryz.func187,Tryz.ntmps187
 go_upto_region 1 with fail
 rw[←HW.out];clear HW;refine IM ?_
 repeat ((first|refine pa ?_|refine po ?_|refine gq (fun w hS=>iQ (Or.inr (Or.inr rfl)) _ 12 12 (a.2.drop 4) w W.heap.size Hdl.out (HS.out.below hS) (by decide)) ?_|refine gp ?_|refine pt ?_);simp only[ld,lg,lf,Iz])
 refine II fun w2 hb2=>?_
 have Hb2:=hid (HB.out.trans (hb2.mono HB.out.size));have Hr:Hid ((a.1||(a.2.drop 4).all fun x=>x==0)=de a):=by show _=_;unfold de gD;cases a.1<;>rfl
 clear hb2
 go_wp2
 go_ret
 exact⟨by rw[←Hr.out];rfl,Hb2.out⟩
theorem qP{k:fL}(h:cy k){w:World}{g:Nat}{t:TypeId}(hb:aj w g t (aM k).toArray):w.rangeAt g 0 (ai k.src):=fun j v hj=>by
 rw[hb.cell,IE,aM,IJ (by have:=(IK.1 hj).1;omega),I0];exact hj
theorem qQ{k:fL}(h:cy k){w:World}{g:Nat}{t:TypeId}(hb:aj w g t (aM k).toArray):w.rangeAt g 17 (ai k.dst):=fun j v hj=>by
 have h1:=ar h.src;rw[hb.cell,IE,aM,IC (by omega),h1,IJ (by have:=(IK.1 hj).1;omega),IS];exact hj
theorem ir{k:fL}(h:cy k){w:World}{g:Nat}{t:TypeId}(hb:aj w g t (aM k).toArray)(j:Nat):w.cell? ⟨g,34+j,none⟩=[zv k.proto,zv k.sport,zv k.dport][j]?:=by
 have h1:=ar h.src;have h2:=ar h.dst;rw[hb.cell,IE,aM,IC (by omega),h1,IC (by omega),h2,show 34+j-17-17=j by omega]
theorem pn{a:cO}(h:aS a):(IA.info? 27).map (·.size)=some (ai a).length:=by rw[ar h];exact gh
theorem BN(k:fL)(hk:cy k)(w:World):Calls IA 168 #[.agg (aM k).toArray] w fun e w'=>e=.returned (.bool (dC k))∧Below w.heap.size w w':=by
 obtain⟨W,hW⟩:∃W,W=w.alloc (.cells (aM k).toArray 118):=⟨_,rfl⟩;have HX:Hid (aj W w.heap.size 118 (aM k).toArray):=by rw[hW];exact aj.new w _ _ _ rfl
 have HB:Hid (Below w.heap.size w W):=by rw[hW];exact (Below.refl _ _).alloc (Iy _) _
 have HS:=hid (qP hk HX.out);have HD:=hid (qQ hk HX.out);have c0:W.cell? ⟨w.heap.size,0,none⟩=some (.bool k.src.1):=HS.out 0 _ rfl;have c1:W.cell? ⟨w.heap.size,17,none⟩=some (.bool k.dst.1):=HD.out 0 _ rfl;have c2:W.cell? ⟨w.heap.size,34,none⟩=some (.int .i64 k.proto):=ir hk HX.out 0;have c3:W.cell? ⟨w.heap.size,35,none⟩=some (.int .i64 k.sport):=ir hk HX.out 1;have c4:W.cell? ⟨w.heap.size,36,none⟩=some (.int .i64 k.dport):=ir hk HX.out 2;have HW:=hid hW;have l0:w.heap.size<W.heap.size:=HX.out.lt;clear hW;go_enter Tryz.func168,Tryz.ntmps168
 go_upto_region 1 with fail
 rw[←HW.out];clear HW;refine IM ?_
 repeat ((first|refine pa ?_|refine gs HS.out l0 cS (pn hk.src) ?_|refine gs HD.out l0 cS (pn hk.dst) ?_|refine gc (fun w _=>wD k.src hk.src w) ?_|refine gc (fun w _=>wD k.dst hk.dst w) ?_|refine gp ?_|refine pt ?_);simp only[ld,lg,lf,Iz])
 refine II fun w2 hb2=>?_
 have Hb2:=hid (HB.out.trans (hb2.mono HB.out.size));clear hb2
 go_wp2
 go_ret
 exact⟨by simp only[dC,dh,←IN];rfl,Hb2.out⟩
theorem fR{f:dE}(h:cy f.key){w:World}{g:Nat}{t:TypeId}(hb:aj w g t (aw f).toArray):w.rangeAt g 0 (aM f.key):=fun j v hj=>by
 rw[hb.cell,IE,aw,IJ (by have:=(IK.1 hj).1;omega),I0];exact hj
theorem cj{f:dE}(h:cy f.key){w:World}{g:Nat}{t:TypeId}(hb:aj w g t (aw f).toArray)(j:Nat):w.cell? ⟨g,37+j,none⟩=[sv f.name,zv f.state,zv f.seen,zv f.no][j]?:=by
 have h1:=fX h;rw[hb.cell,IE,aw,IC (by omega),h1,IS]
theorem cI:IA.underlying 118=some (.struct (IA.fieldsOf 118)):=by kernel_rfl
theorem D6:(IA.info? 118).map (·.size)=some 37:=by kernel_rfl
theorem gK{k:fL}(h:cy k):(IA.info? 118).map (·.size)=some (aM k).length:=by rw[fX h];exact D6
theorem jz(f:dE)(hk:cy f.key)(hn:f.name.length≤1000000000)(w:World):Calls IA 123 #[.agg (aw f).toArray] w fun e w'=>e=.returned (.bool (du f))∧Below w.heap.size w w':=by
 obtain⟨W,hW⟩:∃W,W=w.alloc (.cells (aw f).toArray 120):=⟨_,rfl⟩;have HX:Hid (aj W w.heap.size 120 (aw f).toArray):=by rw[hW];exact aj.new w _ _ _ rfl
 have HB:Hid (Below w.heap.size w W):=by rw[hW];exact (Below.refl _ _).alloc (Iy _) _
 have c1:W.cell? ⟨w.heap.size,37,none⟩=some (.string ⟨f.name.toArray⟩):=cj hk HX.out 0;have c2:W.cell? ⟨w.heap.size,38,none⟩=some (.int .i64 f.state):=cj hk HX.out 1;have c3:W.cell? ⟨w.heap.size,39,none⟩=some (.int .i64 f.seen):=cj hk HX.out 2;have c4:W.cell? ⟨w.heap.size,40,none⟩=some (.int .i64 f.no):=cj hk HX.out 3;have HW:=hid hW;have Hn:=hid hn;have l0:w.heap.size<W.heap.size:=HX.out.lt;clear hW hn;go_enter Tryz.func123,Tryz.ntmps123
 go_upto_region 1 with fail
 rw[←HW.out];clear HW;refine IM ?_
 repeat ((first|refine pa ?_|refine sl (fR hk HX.out) l0 cI (gK hk) ?_|refine cl (fun w _=>BN f.key hk w) ?_|refine gc (fun w _=>rH f.name Hn.out w) ?_|refine gp ?_|refine pt ?_);simp only[ld,lg,lf,Iz])
 refine II fun w2 hb2=>?_
 have Hb2:=hid (HB.out.trans (hb2.mono HB.out.size));clear hb2
 go_wp2
 go_ret
 exact⟨by simp only[du,dh,←IN];rfl,Hb2.out⟩
theorem rU(m:Nat)(w:World)(hm:m<18446744073709551616):Calls IA 118 #[.int .u64 (m:Int),.int .i64 2,.bool true] w fun e w'=>∃A c,e=.returned (.slice A 2 c)∧w'.ownsRow w.heap.size 5 1 (.slice A 2 c) (bY 2 m true).length (ab (bY 2 m true))∧Below w.heap.size w w':=by
 refine (lc true m 2 w hm).mono ?_;rintro e w' ⟨A,c,rfl,h1,h2⟩;exact⟨A,c,by rw[az];rfl,by rw[az] at h1 ⊢;exact h1,h2⟩
theorem rV{w:World}{g o:Nat}{x:Bool}{l:List UInt8}(h:w.rangeAt g o (ai (x,l)))(B:Nat)(hB:g<B):BS w B (some ⟨g,o+1,none⟩) l:=fun hp=>by
 refine⟨_,rfl,hB,fun j c hj=>?_⟩;rw[Addr.add_mid,show o+1+j=o+(j+1) by omega];exact h (j+1) _ (by rw[ai,IL,ab,IQ,hj];rfl)
theorem Aj{w:World}{g:Nat}{x:UInt8}(h:w.cell? ⟨g,0,none⟩=some (mD x))(B:Nat)(hB:g<B):BS w B (some ⟨g,0,none⟩) [x]:=fun hp=>by
 refine⟨_,rfl,hB,fun j c hj=>?_⟩;match j,hj with
 |0,hj=>injection hj with hj;subst hj;rw[Addr.add_mid];exact h
theorem tD(w:World)(a b:Array Value)(t:TypeId):(∀x,a[0]?=some x→((w.alloc (.cells a t)).alloc (.cells b t)).cell? ⟨w.heap.size,0,none⟩=some x)∧(∀x,b[0]?=some x→((w.alloc (.cells a t)).alloc (.cells b t)).cell? ⟨w.heap.size+1,0,none⟩=some x)∧Below w.heap.size w ((w.alloc (.cells a t)).alloc (.cells b t)):=by
 have h1:aj (w.alloc (.cells a t)) w.heap.size t a:=aj.new w _ _ _ rfl;have h2:aj ((w.alloc (.cells a t)).alloc (.cells b t)) (w.heap.size+1) t b:=by
  have:=aj.new (w.alloc (.cells a t)) t b _ rfl;simpa using this
 have h3:Below (w.alloc (.cells a t)).heap.size (w.alloc (.cells a t)) ((w.alloc (.cells a t)).alloc (.cells b t)):=(Below.refl _ _).alloc (Iy _) _;refine⟨fun x hx=>?_,fun x hx=>by rw[h2.cell];exact hx,((Below.refl _ _).alloc (Iy _) _).trans (h3.mono (by simp))⟩;rw[(h1.below h3 h1.lt).cell];exact hx
theorem mm(k:fL)(hk:cy k)(hkn:dC k=true)(w:World):Calls IA 66 #[.agg (aM k).toArray] w fun e w'=>∃A c,e=.returned (.slice A (aZ k).length c)∧w'.ownsRow w.heap.size 5 1 (.slice A (aZ k).length c) (aZ k).length (ab (aZ k))∧Below w.heap.size w w':=by
 simp only[dC,IT,bF] at hkn;obtain⟨_,_,_,hp,hs,hd⟩:=hkn;obtain⟨i0,hi0,hz0,hz1,hz2⟩:=info_parts bB;obtain⟨pr,hpr⟩:∃n:Nat,k.proto=(n:Int):=⟨k.proto.toNat,by omega⟩;obtain⟨sp,hsp⟩:∃n:Nat,k.sport=(n:Int):=⟨k.sport.toNat,by omega⟩;obtain⟨dp,hdp⟩:∃n:Nat,k.dport=(n:Int):=⟨k.dport.toNat,by omega⟩;rw[hpr] at hp;rw[hsp] at hs;rw[hdp] at hd;obtain⟨φ,hφ⟩:∃φ:UInt8,φ=if k.src.1 then 6 else 4:=⟨_,rfl⟩
 have Htb:Hid ([[φ],k.src.2,k.dst.2,[qq (pr%256)],bY 2 sp true++bY 2 dp true].flatten=aZ k):=by
  show _=_
  rw[aZ,hφ,hpr,hsp,hdp];simp[bY,i7]
 have Hlen:Hid ((aZ k).length=38):=by
  show _=_
  have h1:k.src.2.length=16:=hk.src;have h2:k.dst.2.length=16:=hk.dst;simp[aZ,az,h1,h2]
 obtain⟨W,hW⟩:∃W,W=w.alloc (.cells (aM k).toArray 118):=⟨_,rfl⟩;have HX:Hid (aj W w.heap.size 118 (aM k).toArray):=by rw[hW];exact aj.new w _ _ _ rfl
 have HB:Hid (Below w.heap.size w W):=by rw[hW];exact (Below.refl _ _).alloc (Iy _) _
 have HS:=hid (qP hk HX.out);have HD:=hid (qQ hk HX.out);have c0:W.cell? ⟨w.heap.size,0,none⟩=some (.bool k.src.1):=HS.out 0 _ rfl;have c2:W.cell? ⟨w.heap.size,34,none⟩=some (.int .i64 (pr:Int)):=(ir hk HX.out 0).trans (by rw[hpr];rfl);have c3:W.cell? ⟨w.heap.size,35,none⟩=some (.int .i64 (sp:Int)):=(ir hk HX.out 1).trans (by rw[hsp];rfl);have c4:W.cell? ⟨w.heap.size,36,none⟩=some (.int .i64 (dp:Int)):=(ir hk HX.out 2).trans (by rw[hdp];rfl);have HW:=hid hW;have l0:w.heap.size<W.heap.size:=HX.out.lt;have Hφ:=hid hφ;clear hW hφ hpr hsp hdp;rcases h6:k.src.1 with _|_
 all_goals
  rw[h6] at c0;go_enter Tryz.func66,Tryz.ntmps66
  go_upto_region 1 with fail
  rw[←HW.out];go_upto_region 4 with fail
  have hw1:IntKind.u64.wrap (sp:Int)=(sp:Int):=IH _ (by omega);have hw2:IntKind.u64.wrap (dp:Int)=(dp:Int):=IH _ (by omega);refine Wh.start fun hH=>?_
  have hH:=hH.out;refine tw 0 hH ?_;simp only[ld,lg,lf];refine tw 1 hH ?_;simp only[ld,lg,lf];refine tw 2 hH ?_;simp only[ld,lg,lf,hw1,hw2];refine tw 4 hH ?_;simp only[ld,lg,lf];refine tw 5 hH ?_;simp only[ld,lg,lf];refine tw 6 hH ?_;simp only[ld,lg,lf,hw1,hw2];refine one 3 (Jb (rU sp _ (by omega)) ?_);rintro e w1 ⟨A1,n1,rfl,hown1,hb1⟩;have hH1:=hH.trans (hb1.mono hH.size);refine⟨_,rfl,hH1,?_⟩;simp only[ld,lg,lf];refine one 7 (Jb (rU dp _ (by omega)) ?_);rintro e w2 ⟨A2,n2,rfl,hown2,hb2⟩;have hH2:=hH1.trans (hb2.mono hH1.size);have ho:=an hown1 hb2;have hW2:W.heap.size≤W.drew.heap.size:=hH.size;refine⟨_,rfl,hH2,?_⟩;simp only[ld,lg,lf];refine one 8 (On.op fun K hK=>?_);refine im _ _ _ 43 rfl W.drew.heap.size 5 i0 (.int .u8 0) 1 IP hi0 hz0 hz1 hz2 rfl _ (bY 2 sp true) rfl ho _ A2 2 n2 (bY 2 dp true) rfl (az 2 dp true).symm (BS.of_own hown2).1 (by rw[az,az];decide) (by rw[az,az];decide) (I9 hb1.size hb2.size) ?_;intro A3 n3 w3 hown3 hg3 _;refine hK.out _ _ (hH2.grown hg3 hH2.size fun g hg=>I9 hW2 (ho.lt g hg).1) fun hH3=>?_
  clear hK K;obtain⟨pb,hpb⟩:∃pb,pb=bY 2 sp true++bY 2 dp true:=⟨_,rfl⟩;have hpl:pb.length=4:=by rw[hpb,ID,az,az]
  rw[←hpb,hpl] at hown3;rw[←hpb] at Htb;rw[←hpb,hpl];simp only[ld,lg,lf];refine tw 9 hH3 ?_;simp only[ld,lg,lf];refine Wh.done ?_;have HP:Hid (BS w3 w3.heap.size A3 pb):=(BS.of_own hown3).1;have HB3:Hid (Below w.heap.size w w3):=HB.out.trans (hH3.mono HB.out.size);have HS3:Hid (BS w3 w3.heap.size (some ⟨w.heap.size,1,none⟩) k.src.2):=((rV HS.out _ l0).below hH3).more hH3.size;have HD3:Hid (BS w3 w3.heap.size (some ⟨w.heap.size,18,none⟩) k.dst.2):=((rV HD.out _ l0).below hH3).more hH3.size;have d2:w3.cell? ⟨w.heap.size,34,none⟩=some (.int .i64 (pr:Int)):=(bg hH3 _ _ l0).trans c2;have l3:w.heap.size<w3.heap.size:=IY l0 hH3.size;have Hpl:=hid hpl;clear hpb hpl hown1 hown2 hown3 ho hb1 hb2 hg3 hH hH1 hH2 hH3 c0 c2 c3 c4 hw1 hw2 HW;go_upto_region 5 with fail
  have hw3:IntKind.u8.wrap (pr:Int)=(pr:Int):=IntWalk.u8_in _ (by omega)
  first|rw[show I3 IntKind.u8 4=I3 IntKind.u8 (φ.toNat:Int) by rw[Hφ.out,h6];rfl]|rw[show I3 IntKind.u8 6=I3 IntKind.u8 (φ.toNat:Int) by rw[Hφ.out,h6];rfl]
  refine Wh.start fun hH=>?_
  have hH:=hH.out;refine tw 0 hH ?_;simp only[ld,lg,lf];refine tw 2 hH ?_;simp only[ld,lg,lf];refine tw 3 hH ?_;simp only[ld,lg,lf];refine tw 4 hH ?_;simp only[ld,lg,lf];refine tw 5 hH ?_;simp only[ld,lg,lf];refine tw 6 hH ?_;simp only[ld,lg,lf];refine tw 7 hH ?_;simp only[ld,lg,lf];refine tw 8 hH ?_;simp only[ld,lg,lf];refine tw 9 hH ?_;simp only[ld,lg,lf];refine tw 10 hH ?_;simp only[ld,lg,lf,hw3];refine tw 12 hH ?_;simp only[ld,lg,lf];refine In 1 11 (Ja ?_ ?_) (Ja ?_ ?_)
  any_goals (rintro _ rfl;exact hH.alloc hH.size _)
  all_goals (intro hH4;have hH4:=hH4.out;simp only[ld,lg,lf])
  refine one 11 (Ja ?_ ?_);rotate_left 2
  refine one 1 (Ja ?_ ?_)
  any_goals (rintro _ rfl;exact hH4.alloc hH4.size _)
  all_goals (intro hH5;have hH5:=hH5.out;simp only[ld,lg,lf])
  obtain⟨t2,t1,t3⟩:=tD w3 #[.int .u8 (pr:Int)] #[.int .u8 (φ.toNat:Int)] 5;obtain⟨w5,hw5⟩:∃w5,w5=((w3.alloc (.cells #[.int .u8 (pr:Int)] 5)).alloc (.cells #[.int .u8 (φ.toNat:Int)] 5)).drew:=⟨_,rfl⟩;obtain⟨p,hp⟩:∃p,p=w3.heap.size+1:=⟨_,rfl⟩;obtain⟨q,hq⟩:∃q,q=w3.heap.size:=⟨_,rfl⟩;rotate_left
  obtain⟨t1,t2,t3⟩:=tD w3 #[.int .u8 (φ.toNat:Int)] #[.int .u8 (pr:Int)] 5;obtain⟨w5,hw5⟩:∃w5,w5=((w3.alloc (.cells #[.int .u8 (φ.toNat:Int)] 5)).alloc (.cells #[.int .u8 (pr:Int)] 5)).drew:=⟨_,rfl⟩;obtain⟨q,hq⟩:∃q,q=w3.heap.size+1:=⟨_,rfl⟩;obtain⟨p,hp⟩:∃p,p=w3.heap.size:=⟨_,rfl⟩
  all_goals
   have hpq:p<w5.heap.size∧q<w5.heap.size:=by rw[hp,hq,hw5];simp;omega
   have u1:w5.cell? ⟨p,0,none⟩=some (.int .u8 (φ.toNat:Int)):=by rw[hw5,hp];exact t1 _ rfl
   have u2:w5.cell? ⟨q,0,none⟩=some (.int .u8 (pr:Int)):=by rw[hw5,hq];exact t2 _ rfl
   first|rw[←hw5,←hq,←hp]|rw[←hw5,←hp,←hq]
   rw[←hw5] at hH5;clear hp hq hw5 t1 t2 t3 hH4;refine one 13 (Ja ?_ ?_)
   ·rintro _ rfl;exact hH5.alloc hH5.size _
   intro hH6;have hH6:=hH6.out;simp only[ld,lg,lf];obtain⟨g,hg⟩:∃g,g=w5.heap.size:=⟨_,rfl⟩;obtain⟨w6,hw6⟩:∃w6,w6=w5.alloc (.cells #[.slice (some ⟨p,0,none⟩) 1 1,.slice (some ⟨w.heap.size,1,none⟩) 16 16,.slice (some ⟨w.heap.size,18,none⟩) 16 16,.slice (some ⟨q,0,none⟩) 1 1,.slice A3 4 n3] 43):=⟨_,rfl⟩;have X6:aj w6 g 43 #[.slice (some ⟨p,0,none⟩) 1 1,.slice (some ⟨w.heap.size,1,none⟩) 16 16,.slice (some ⟨w.heap.size,18,none⟩) 16 16,.slice (some ⟨q,0,none⟩) 1 1,.slice A3 4 n3]:=by rw[hw6,hg];exact aj.new _ _ _ _ rfl
   have B6:Below w5.heap.size w5 w6:=by rw[hw6];exact (Below.refl _ _).alloc (Iy _) _
   rw[←hw6] at hH6 ⊢;rw[←hg];have s16:k.src.2.length=16:=hk.src;have d16:k.dst.2.length=16:=hk.dst;have hB6:w5.heap.size≤w6.heap.size:=B6.size;have up:qq (pr%256)=qq (pr%256):=rfl;have LCt:LC w6 w6.heap.size (some ⟨g,0,none⟩) [[φ],k.src.2,k.dst.2,[qq (pr%256)],pb]:=fun _=>⟨_,rfl,X6.lt,fun j l hj=>by
    rw[Addr.add_mid,I0,X6.cell];match j,hj with
    |0,hj=>injection hj with hj;subst hj;exact⟨_,_,rfl,((Aj u1 _ hpq.1).below B6).more hB6⟩
    |1,hj=>injection hj with hj;subst hj;exact⟨_,_,by rw[s16];rfl,((HS3.out.below hH5).more hH5.size |>.below B6).more hB6⟩
    |2,hj=>injection hj with hj;subst hj;exact⟨_,_,by rw[d16];rfl,((HD3.out.below hH5).more hH5.size |>.below B6).more hB6⟩
    |3,hj=>injection hj with hj;subst hj;exact⟨_,_,rfl,((Aj (u2.trans (by rw[mD];simp;omega)) _ hpq.2).below B6).more hB6⟩
    |4,hj=>injection hj with hj;subst hj;exact⟨_,_,by rw[Hpl.out];rfl,((HP.out.below hH5).more hH5.size |>.below B6).more hB6⟩⟩
   have HC:=rC (some ⟨g,0,none⟩) 5 5 _ w6 rfl LCt (by rw[Htb.out,Hlen.out];decide) (by rw[Htb.out,Hlen.out];decide) (by decide);rw[Htb.out] at HC;refine one 14 (Jb HC ?_);rintro e w7 ⟨A7,n7,rfl,hown7,hb7⟩;refine⟨_,rfl,hH6.trans (hb7.mono hH6.size),?_⟩;have H7:Hid (Below w.heap.size w w7):=HB3.out.trans ((hH6.trans (hb7.mono hH6.size)).mono HB3.out.size);have O7:=hid (bP hown7 (show w.heap.size≤w6.heap.size by have:=HB3.out.size;have:=hH5.size;omega));have h7:=hH6.trans (hb7.mono hH6.size);simp only[ld,lg,lf];refine tw 15 h7 ?_;simp only[ld,lg,lf];refine Wh.done ?_;clear LCt HC hown7 hb7 h7 hH5 hH6 hw6 X6 B6 u1 u2 s16 d16 up hB6 hg
   go_wp2
   go_ret
   exact⟨A7,n7,rfl,O7.out,H7.out⟩
theorem zr(n:Nat)(hn:n<18446744073709551616)(w:World):Calls IA 180 #[.float .f64 n] w fun e w'=>e=.returned (.tuple #[.bool (decide (9223372036854775808≤n)),.int .i64 ((n/4503599627370496%2048:Nat):Int),.int .u64 ((n%4503599627370496:Nat):Int)])∧w=w':=by
 have hf:=kH n w;have h1:=CW n hn;have h2:=CZ (n/4503599627370496) (by omega);rw[show ((n/4503599627370496:Nat):Int)=(n:Int)/4503599627370496 by omega] at h2;go_enter Tryz.func180,Tryz.ntmps180
 go_wp2
 go_ret3
 have hq:((n:Int)/9223372036854775808==1)=decide (9223372036854775808≤n):=by
  by_cases h:9223372036854775808≤n
  ·rw[decide_eq_true h,beq_iff_eq];omega
  ·rw[decide_eq_false h,beq_eq_false_iff_ne];omega
 refine⟨?_,rfl⟩;rw[←hq];rfl
theorem zu(n:Nat)(hn:n<18446744073709551616)(w:World):Calls IA 192 #[.float .f64 n] w fun e w'=>(∃z:Int,e=.returned (.tuple #[.int .i64 z,.bool (dt n)]))∧Below w.heap.size w w':=by
 have Hp:=hid (zr n hn w);obtain⟨e,he⟩:∃e,e=n/4503599627370496%2048:=⟨_,rfl⟩;obtain⟨m,hm⟩:∃m,m=n%4503599627370496:=⟨_,rfl⟩;obtain⟨s,hs⟩:∃s,s=decide (9223372036854775808≤n):=⟨_,rfl⟩;rw[←he,←hm,←hs] at Hp;have he2:e<2048:=by omega
 have hm2:m<4503599627370496:=by omega
 have hW:dt n=(decide (n≤4652007308841189376)||decide (n=9223372036854775808)):=rfl;go_enter Tryz.func192,Tryz.ntmps192
 go_wp2_with fail
 refine Hp.out.mono ?_;rintro x w2 ⟨rfl,rfl⟩;by_cases h0:e=0∧m=0
 ·obtain⟨rfl,rfl⟩:=h0
  have hr:dt n=true:=by
   rw[hW];have:n=0∨n=9223372036854775808:=by omega
   rcases this with h|h<;>subst h<;>rfl
  have Hr:=hid hr;clear hr he hm hs hW
  go_wp2
  go_ret2
  exact⟨⟨0,by rw[Hr.out];rfl⟩,Below.refl _ _⟩
 rcases s with _|_
 rotate_left
 ·have hr:dt n=false:=by
   rw[hW,decide_eq_false (by have:=of_decide_eq_true hs.symm;omega),decide_eq_false (by have:=of_decide_eq_true hs.symm;omega)];rfl
  have Hr:=hid hr;by_cases he0:e=0
  ·have hm0:¬(m:Int)=0:=by omega
   have a0:(e:Int)=0:=by omega
   have a2:((e:Int)==0)=true:=by rw[beq_iff_eq];exact a0
   have a1:((m:Int)==0)=false:=beq_eq_false_iff_ne.2 (by omega);clear hr hs hW
   go_wp2
   go_ret2
   exact⟨⟨0,by rw[Hr.out];rfl⟩,Below.refl _ _⟩
  ·have a1:((e:Int)==0)=false:=beq_eq_false_iff_ne.2 (by omega)
   have a2:¬(e:Int)=0:=by omega
   clear hr hs hW
   go_wp2
   go_ret2
   exact⟨⟨0,by rw[Hr.out];rfl⟩,Below.refl _ _⟩
 have hs':n<9223372036854775808:=by have:=of_decide_eq_false hs.symm;omega
 have hn2:n=e*4503599627370496+m:=by omega
 have hW2:dt n=decide (n≤4652007308841189376):=by rw[hW,decide_eq_false (show ¬n=9223372036854775808 by omega),Bool.or_false]
 clear hs hW he hm;by_cases h33:1033≤e
 ·have Hr:Hid (dt n=false):=by show _=_;rw[hW2];exact decide_eq_false (by omega)
  have a1:¬(e:Int)=0:=by omega
  have a2:(1033:Int)≤(e:Int):=by omega
  have a3:(0:Int)<(e:Int):=by omega
  clear hW2 hn2;by_cases h47:e=2047
  ·subst h47
   go_wp2
   go_ret2
   exact⟨⟨0,by rw[Hr.out];rfl⟩,Below.refl _ _⟩
  ·have a4:¬(e:Int)=2047:=by omega
   go_wp2
   go_ret2
   exact⟨⟨0,by rw[Hr.out];rfl⟩,Below.refl _ _⟩
 by_cases hA:e≤1012
 ·have Hr:Hid (dt n=true):=by show _=_;rw[hW2];exact decide_eq_true (by omega)
  have a2:¬(1033:Int)≤(e:Int):=by omega
  have a4:¬(e:Int)=2047:=by omega
  clear hW2 hn2;by_cases he0:e=0
  ·have hm0:¬(m:Int)=0:=by omega
   have a1:((m:Int)==0)=false:=beq_eq_false_iff_ne.2 hm0;have a0:(e:Int)=0:=by omega
   have a6:((e:Int)==0)=true:=by rw[beq_iff_eq];exact a0
   have a3:¬(0:Int)<(e:Int):=by omega
   go_wp2
   go_ret2
   exact⟨⟨_,by rw[Hr.out];rfl⟩,Below.refl _ _⟩
  ·have a1:¬(e:Int)=0:=by omega
   have a3:(0:Int)<(e:Int):=by omega
   have a5:¬(1075:Int)-(e:Int)<63:=by omega
   have a6:((e:Int)==0)=false:=beq_eq_false_iff_ne.2 a1;by_cases h5:e<1005
   ·have a7:(60:Int)<1075-(e:Int)-10:=by omega
    go_wp2
    go_ret2
    exact⟨⟨_,by rw[Hr.out];rfl⟩,Below.refl _ _⟩
   ·have a7:¬(60:Int)<1075-(e:Int)-10:=by omega
    go_wp2
    go_ret2
    exact⟨⟨_,by rw[Hr.out];rfl⟩,Below.refl _ _⟩
 have a1:¬(e:Int)=0:=by omega
 have a2:¬(1033:Int)≤(e:Int):=by omega
 have a3:(0:Int)<(e:Int):=by omega
 have a4:¬(e:Int)=2047:=by omega
 have a5:(1075:Int)-(e:Int)<63:=by omega
 have a6:((e:Int)==0)=false:=beq_eq_false_iff_ne.2 a1;go_upto_region 13 with fail
 obtain⟨M,hM⟩:∃M,M=m+4503599627370496:=⟨_,rfl⟩;obtain⟨L,hL⟩:∃L,L=1075-e:=⟨_,rfl⟩;rw[show (m:Int)+4503599627370496=(M:Int) by omega,show (1075:Int)-(e:Int)=(L:Int) by omega];have b1:(L:Int)<63:=by omega
 have b2:(0:Int)≤(L:Int):=by omega
 have b3:(M:Int)<18446744073709551616:=by omega
 have HL:=hid hL;have HM:=hid hM;clear hL hM a1 a2 a3 a4 a5 a6;obtain⟨K,hK⟩:∃K,K=M/2^L:=⟨_,rfl⟩;have hsh:(M:Int)/2^min (IntKind.u64.wrap (L:Int)).toNat 64=(K:Int):=by
  rw[IH _ (by omega),IG,I5 (by omega),hK];simp
 have Hsh:=hid hsh;have HK:=hid hK;clear hsh hK;obtain⟨R,hR⟩:∃R,R=M%2^L:=⟨_,rfl⟩;have Han:Hid (bits BinOp.and IntKind.u64 (M:Int) (IntKind.u64.wrap (IntKind.u64.wrap (2^min (IntKind.u64.wrap (L:Int)).toNat 64)-1))=(R:Int)):=by
  show _=_
  have hp:2^L≤4611686018427387904:=by
   have:2^L≤2^62:=IV (by omega) (by omega);omega
  have hp0:0<2^L:=I6 L;have hz:(2:Int)^L=((2^L:Nat):Int):=by simp
  rw[IH (L:Int) (by omega),IG,I5 (by omega),hz,IH ((2^L:Nat):Int) (by omega),IH (((2^L:Nat):Int)-1) (by omega),show ((2^L:Nat):Int)-1=((2^L-1:Nat):Int) by omega,bits_and_u64_nat M (2^L-1) (by omega) (by omega),Nat.and_two_pow_sub_one_eq_mod,hR]
 have hkey:(dt n=true∧(K<1000∨K=1000∧R=0))∨(dt n=false∧(1000<K∨K=1000∧¬R=0)):=by
  have hdm:=Nat.div_add_mod M (2^L);have hlt:=Nat.mod_lt M (I6 L);rw[←hR] at hdm hlt;rw[←HK.out] at hdm;rw[hW2];by_cases h32:e=1032
  ·have h43:L=43:=by rw[HL.out];omega
   rw[h43,show (2:Nat)^43=8796093022208 by decide] at hdm hlt;have hMv:=HM.out;by_cases hle:n≤4652007308841189376
   ·exact .inl ⟨decide_eq_true hle,by omega⟩
   ·exact .inr ⟨decide_eq_false hle,by omega⟩
  ·have h44:17592186044416≤2^L:=by
    have:2^44≤2^L:=IV (by omega) (by rw[HL.out];omega);omega
   have hMv:=HM.out;have hk:K<1000:=by
    rcases I8 K 1000 with h|h
    ·exact h
    ·have:=Nat.mul_le_mul h44 h
     omega
   exact .inl ⟨decide_eq_true (by omega),.inl hk⟩
 clear hR;rcases hkey with ⟨hw,hk⟩|⟨hw,hk⟩
 ·have Hw:=hid hw
  have c1:decide ((1000:Int)<(K:Int))=false:=decide_eq_false (by omega);have c4:((K:Int)==1000&&(R:Int) != 0)=false:=by
   rcases hk with h|⟨h,h0⟩
   ·rw[beq_eq_false_iff_ne.2 (by omega)];rfl
   ·rw[h0];simp
  clear hw hW2 hn2;rcases hc:((K:Int)==1000) with _|_
  all_goals
   first|(have c3:((R:Int) != 0)=false:=by simpa[hc] using c4)|(have c3:=hc)
   have b5:¬(60:Int)<(L:Int)-10:=by omega
   clear c4 hk;refine IM ?_
   try simp only[IW]
   repeat ((first|refine pt ?_|refine sk ?_);simp only[ld,lg,lf,Iz,Hsh.out,Han.out,c1,hc,c3])
   refine II fun w3 hb3=>?_
   have Hb3:=hid hb3;clear hb3
   go_wp2
   go_ret2
   exact⟨⟨_,by rw[Hw.out];rfl⟩,Hb3.out⟩
 ·have Hw:=hid hw
  clear hw hW2 hn2;rcases hk with hk|⟨hk,hk0⟩
  ·have c1:decide ((1000:Int)<(K:Int))=true:=decide_eq_true (by omega)
   refine IM ?_
   try simp only[IW]
   repeat ((first|refine pt ?_|refine sk ?_);simp only[ld,lg,lf,Iz,Hsh.out,c1])
   refine II fun w3 hb3=>?_
   have Hb3:=hid hb3;clear hb3
   go_wp2
   go_ret2
   exact⟨⟨_,by rw[Hw.out];rfl⟩,Hb3.out⟩
  ·have c1:decide ((1000:Int)<(K:Int))=false:=decide_eq_false (by omega)
   have c2:((K:Int)==1000)=true:=by rw[beq_iff_eq];omega
   have c3:((R:Int) != 0)=true:=by rw[bne_iff_ne];omega
   clear hk hk0;refine IM ?_
   try simp only[IW]
   repeat ((first|refine pt ?_|refine sk ?_);simp only[ld,lg,lf,Iz,Hsh.out,Han.out,c1,c2,c3])
   refine II fun w3 hb3=>?_
   have Hb3:=hid hb3;clear hb3
   go_wp2
   go_ret2
   exact⟨⟨_,by rw[Hw.out];rfl⟩,Hb3.out⟩
theorem sV(n:Nat)(hn:n<18446744073709551616)(w:World):Calls IA 178 #[.float .f64 n] w fun e w'=>e=.returned (.bool (dt n))∧Below w.heap.size w w':=by
 go_enter Tryz.func178,Tryz.ntmps178
 go_wp2_with fail
 refine (zu n hn w).mono ?_;rintro e w2 ⟨⟨z,rfl⟩,hb⟩;have HB:=hid hb;clear hb
 go_wp2
 go_ret
 exact⟨rfl,HB.out⟩
theorem tQ(l:List UInt8)(hl:l.length≤1000000000)(w:World) :
  Calls IA 142 #[.string ⟨l.toArray⟩] w fun e w'=>e=.returned (.bool (gy l))∧w=w':=by
 obtain⟨N,hN⟩:∃N,N=l.length:=⟨_,rfl⟩;have HN:=hid hN;by_cases hb:1≤N∧N≤24
 rotate_left
 ·have Hf:Hid (gy l=false):=by
   show _=_
   unfold gy;rw[←hN];by_cases h1:1≤N
   ·rw[decide_eq_false (show ¬N≤24 by omega),I7]
   ·rw[decide_eq_false h1,I7,Bool.false_and]
  go_enter Tryz.func142,Tryz.ntmps142
  by_cases h1:1≤N
  ·have a1:¬(l.length:Int)<1:=by omega
   have a2:(24:Int)<(l.length:Int):=by omega
   clear hN h1 hb
   go_wp2
   go_ret
   exact⟨by rw[Hf.out];rfl,rfl⟩
  ·have a1:(l.length:Int)<1:=by omega
   clear hN h1 hb
   go_wp2
   go_ret
   exact⟨by rw[Hf.out];rfl,rfl⟩
 have a1:¬(l.length:Int)<1:=by omega
 have a2:¬(24:Int)<(l.length:Int):=by omega
 go_enter Tryz.func142,Tryz.ntmps142
 go_wp2
 go_loopw [3] (fun i wr=>∃k:Nat,k≤l.length∧i=.int .i64 (k:Int)∧w=wr∧Hid (∀j (hj:j<l.length),j<k→eZ l[j].toNat=true)) (fun i _=>l.length-(intOf i).toNat)
 case atStart=>exact⟨0,by omega,rfl,rfl,fun j hj h=>by omega⟩
 case round =>
  obtain⟨k,hk,rfl,rfl,hat⟩:=hrel;by_cases hlt:k<l.length
  ·have hltI:(k:Int)<(l.length:Int):=by omega
   have hk0:(0:Int)≤(k:Int):=by omega
   obtain⟨n,hn⟩:∃n,n=l[k].toNat:=⟨_,rfl⟩;have hn2:n<256:=by rw[hn];exact l[k].toNat_lt
   have hsz:k<(⟨l.toArray⟩:ByteArray).size:=hlt;have Hix:Hid (((⟨l.toArray⟩:ByteArray)[k]'hsz).toNat=n):=by show _=_;rw[hn];rfl
   have Hat2:Hid (eZ n=true→∀j (hj:j<l.length),j<k+1→eZ l[j].toNat=true):=fun h j hj hjk=>by
    by_cases e:j=k
    ·subst e;rw[←hn];exact h
    ·exact hat.out j hj (by omega)
   have Hbad:Hid (eZ n=false→gy l=false):=fun h=>by
    have this:l.all (fun c=>eZ c.toNat)=false:=List.all_eq_false.2 ⟨l[k],IR hlt,by rw[←hn,h];simp⟩;unfold gy;rw[this];rfl
   clear hn hat hN;go_upto_region 7 with fail
   rw[Hix.out];clear Hix hsz;rcases (by omega:n<45∨n=45∨n=46∨n=47∨(48≤n∧n≤57)∨(58≤n∧n≤96)∨(97≤n∧n≤122)∨123≤n) with h|h|h|h|h|h|h|h
   all_goals
    first|(have Hc:Hid (eZ n=true):=by show _=_;simp only[eZ,Bool.or_eq_true,IT,decide_eq_true_eq];omega)|(have Hc:Hid (eZ n=false):=by show _=_;simp only[eZ,Bool.or_eq_false_iff,Bool.and_eq_false_iff,decide_eq_false_iff_not];omega)
    first|(have b1:(97:Int)≤(n:Int):=by omega)|(have b1:¬(97:Int)≤(n:Int):=by omega)
    first|(have b2:(n:Int)≤122:=by omega)|(have b2:¬(n:Int)≤122:=by omega)
    first|(have b3:(48:Int)≤(n:Int):=by omega)|(have b3:¬(48:Int)≤(n:Int):=by omega)
    first|(have b4:(n:Int)≤57:=by omega)|(have b4:¬(n:Int)≤57:=by omega)
    first|(have b5:((n:Int)==45)=true:=by rw[beq_iff_eq];omega)|(have b5:((n:Int)==45)=false:=beq_eq_false_iff_ne.2 (by omega))
    first|(have b6:((n:Int)==46)=true:=by rw[beq_iff_eq];omega)|(have b6:((n:Int)==46)=false:=beq_eq_false_iff_ne.2 (by omega))
    clear h
    go_wp2_with fail
    first
     |(go_roundw;exact⟨k+1,by omega,by go_num,trivial,hid (Hat2.out Hc.out)⟩;simp[intOf];omega)
     |exact⟨⟨k+1,by omega,by go_num,trivial,hid (Hat2.out Hc.out)⟩,by simp[intOf];omega⟩
     |(go_ret;exact⟨by rw[Hbad.out Hc.out];rfl,rfl⟩)
  ·have hltI:¬(k:Int)<(l.length:Int):=by omega
   have Hf:Hid (gy l=true):=by
    show _=_
    unfold gy;rw[←HN.out,decide_eq_true hb.1,decide_eq_true hb.2,IX,IX,List.all_eq_true];intro x hx;obtain⟨j,hj,rfl⟩:=List.getElem_of_mem hx;exact hat.out j hj (by omega)
   clear hat hN
   go_wp2
   go_ret
   exact⟨by rw[Hf.out];rfl,rfl⟩
theorem tR(b:aU)(hb0:au b)(hn:b.name.length≤1000000000)(w:World) :
  Calls IA 140 #[.agg (ah b).toArray] w fun e w'=>e=.returned (.bool (eu b))∧Below w.heap.size w w':=by
 obtain⟨W,hW⟩:∃W,W=w.alloc (.cells (ah b).toArray 56):=⟨_,rfl⟩;have HX:Hid (aj W w.heap.size 56 (ah b).toArray):=by rw[hW];exact aj.new w _ _ _ rfl
 have HB:Hid (Below w.heap.size w W):=by rw[hW];exact (Below.refl _ _).alloc (Iy _) _
 have hb:=hid hb0;have Hn:=hid hn;have l0:w.heap.size<W.heap.size:=HX.out.lt;have d0:=jx HX.out;have d1:=jy HX.out hb0;have d2:=lv HX.out hb0;have d3:W.cell? ⟨w.heap.size,1,none⟩=some (.bool b.addr.1):=nc HX.out hb0 0 _ rfl;have HW:=hid hW;obtain⟨six,hsix⟩:∃q,q=b.addr.1:=⟨_,rfl⟩;rw[←hsix] at d3;have HT:Hid (eu b=(gy b.name&&(if six then true else gD b.addr.2&&!b.addr.1)&&decide ((1:Int)≤b.port)&&decide (b.port≤65535)&&dt b.wt)):=by
  show _=_
  unfold eu de dh;rw[hsix];cases b.addr.1<;>cases gy b.name<;>cases gD b.addr.2<;>simp[IN]
 clear hW hb0 hn hsix;rcases six with _|_
 all_goals
  go_enter Tryz.func140,Tryz.ntmps140
  go_upto_region 1 with fail
  rw[←HW.out];refine IM ?_
  try simp only[IW]
  repeat ((first
   |refine pa ?_
   |refine gs (nc HX.out hb.out) l0 cS (eo hb.out.addr) ?_
   |refine cq (fun u hu=>tQ b.name Hn.out u) ?_
   |refine gc (fun u hu=>lQ b.addr hb.out.addr u) ?_
   |refine gc (fun u hu=>sV b.wt hb.out.wt u) ?_
   |refine gp ?_|refine pt ?_|refine sk ?_);simp only[ld,lg,lf,Iz])
  refine II fun w2 hb2=>?_
  have Hb2:=hid (HB.out.trans (hb2.mono HB.out.size));clear hb2
  go_wp2
  go_ret
  exact⟨by rw[HT.out];simp only[if_true,if_false,Bool.false_eq_true,IX];rfl,Hb2.out⟩
theorem zw(k:fL)(hk0:cy k)(w:World):Calls IA 141 #[.agg (aM k).toArray] w fun e w'=>e=.returned (.bool (dC k))∧Below w.heap.size w w':=by
 obtain⟨W,hW⟩:∃W,W=w.alloc (.cells (aM k).toArray 118):=⟨_,rfl⟩;have HX:Hid (aj W w.heap.size 118 (aM k).toArray):=by rw[hW];exact aj.new w _ _ _ rfl
 have HB:Hid (Below w.heap.size w W):=by rw[hW];exact (Below.refl _ _).alloc (Iy _) _
 have hk:=hid hk0;have HS:=hid (qP hk0 HX.out);have HD:=hid (qQ hk0 HX.out);obtain⟨s1,hs1⟩:∃q,q=k.src.1:=⟨_,rfl⟩;obtain⟨s2,hs2⟩:∃q,q=k.dst.1:=⟨_,rfl⟩;have c0:W.cell? ⟨w.heap.size,0,none⟩=some (.bool s1):=by rw[hs1];exact HS.out 0 _ rfl
 have c1:W.cell? ⟨w.heap.size,17,none⟩=some (.bool s2):=by rw[hs2];exact HD.out 0 _ rfl
 have c2:W.cell? ⟨w.heap.size,34,none⟩=some (.int .i64 k.proto):=ir hk0 HX.out 0;have c3:W.cell? ⟨w.heap.size,35,none⟩=some (.int .i64 k.sport):=ir hk0 HX.out 1;have c4:W.cell? ⟨w.heap.size,36,none⟩=some (.int .i64 k.dport):=ir hk0 HX.out 2;have HW:=hid hW;have l0:w.heap.size<W.heap.size:=HX.out.lt;obtain⟨A,hA⟩:∃A,A=(gD k.src.2&&!k.src.1):=⟨_,rfl⟩;obtain⟨B,hB⟩:∃A,A=(gD k.dst.2&&!k.dst.1):=⟨_,rfl⟩;have SA:Hid (∀u,Calls IA 177 #[.agg (ai k.src).toArray] u fun e w'=>e=.returned (.bool A)∧Below u.heap.size u w'):=fun u=>by rw[hA];exact lQ k.src hk0.src u
 have SB':Hid (∀u,Calls IA 177 #[.agg (ai k.dst).toArray] u fun e w'=>e=.returned (.bool B)∧Below u.heap.size u w'):=fun u=>by rw[hB];exact lQ k.dst hk0.dst u
 have HK:Hid (dC k=((s1==s2)&&((s1||(A&&B))&&(dh k.proto 0 255&&(dh k.sport 0 65535&&dh k.dport 0 65535))))):=by
  show _=_
  unfold dC de;rw[hA,hB,hs1,hs2];cases k.src.1<;>cases k.dst.1<;>cases gD k.src.2<;>cases gD k.dst.2<;>simp
 clear hW hk0 hs1 hs2 hA hB;rcases s1 with _|_<;>rcases s2 with _|_
 all_goals
  go_enter Tryz.func141,Tryz.ntmps141
  go_upto_region 1 with fail
  rw[←HW.out];refine IM ?_
  try simp only[IW]
  repeat ((first
   |refine pa ?_
   |refine gs HS.out l0 cS (pn hk.out.src) ?_|refine gs HD.out l0 cS (pn hk.out.dst) ?_
   |refine cl (fun u hu=>SA.out u) ?_|refine gc (fun u hu=>SB'.out u) ?_
   |refine gp ?_|refine pt ?_|refine sk ?_);simp only[ld,lg,lf,Iz])
  refine II fun w2 hb2=>?_
  have Hb2:=hid (HB.out.trans (hb2.mono HB.out.size));have d2:=(bg hb2 _ 34 l0).trans c2;have d3:=(bg hb2 _ 35 l0).trans c3;have d4:=(bg hb2 _ 36 l0).trans c4;have l2:w.heap.size<w2.heap.size:=IY l0 hb2.size;clear hb2 c0 c1 c2 c3 c4;rcases A with _|_<;>rcases B with _|_
  all_goals
   first
    |(go_upto_region 3 with fail
      refine IM ?_
      try simp only[IW]
      repeat ((first|refine pa ?_|refine gp ?_|refine pt ?_);simp only[ld,lg,lf,Iz])
      refine II fun w3 hb3=>?_
      have Hb3:=hid (Hb2.out.trans (hb3.mono Hb2.out.size));clear hb3;have HC:Hid (dC k=(decide ((0:Int)≤k.proto)&&decide (k.proto≤255)&&decide ((0:Int)≤k.sport)&&decide (k.sport≤65535)&&decide ((0:Int)≤k.dport)&&decide (k.dport≤65535))):=by
       show _=_
       rw[HK.out];simp[dh,IN]
      go_wp2
      go_ret
      exact⟨by rw[HC.out];rfl,Hb3.out⟩)
    |(go_wp2
      go_ret
      exact⟨by rw[HK.out];rfl,Hb2.out⟩)
theorem nG(f:dE)(hk:cy f.key)(hn:f.name.length≤1000000000)(w:World):Calls IA 72 #[.agg (aw f).toArray] w fun e w'=>e=.returned (.bool (du f))∧Below w.heap.size w w':=by
 obtain⟨W,hW⟩:∃W,W=w.alloc (.cells (aw f).toArray 120):=⟨_,rfl⟩;have HX:Hid (aj W w.heap.size 120 (aw f).toArray):=by rw[hW];exact aj.new w _ _ _ rfl
 have HB:Hid (Below w.heap.size w W):=by rw[hW];exact (Below.refl _ _).alloc (Iy _) _
 have c1:W.cell? ⟨w.heap.size,37,none⟩=some (.string ⟨f.name.toArray⟩):=cj hk HX.out 0;have c2:W.cell? ⟨w.heap.size,38,none⟩=some (.int .i64 f.state):=cj hk HX.out 1;have c3:W.cell? ⟨w.heap.size,39,none⟩=some (.int .i64 f.seen):=cj hk HX.out 2;have c4:W.cell? ⟨w.heap.size,40,none⟩=some (.int .i64 f.no):=cj hk HX.out 3;have HW:=hid hW;have Hn:=hid hn;have l0:w.heap.size<W.heap.size:=HX.out.lt;clear hW hn;go_enter Tryz.func72,Tryz.ntmps72
 go_upto_region 1 with fail
 rw[←HW.out];clear HW;refine IM ?_
 repeat ((first|refine pa ?_|refine sl (fR hk HX.out) l0 cI (gK hk) ?_|refine cl (fun w _=>zw f.key hk w) ?_|refine gq (fun w _=>tQ f.name Hn.out w) ?_|refine gp ?_|refine pt ?_);simp only[ld,lg,lf,Iz])
 refine II fun w2 hb2=>?_
 have Hb2:=hid (HB.out.trans (hb2.mono HB.out.size));clear hb2
 go_wp2
 go_ret
 exact⟨by simp only[du,dh,←IN];rfl,Hb2.out⟩
theorem sr{α:Type}(l:List α)(k:Nat){x:α}(h:l[k]?=some x):l.take (k+1)=l.take k++[x]:=by rw[List.take_add_one,h];rfl
theorem oG(k:fL)(hk0:cy k)(hkn:dC k=true)(w:World):Calls IA 83 #[.agg (aM k).toArray] w fun e w'=>∃A c,e=.returned (.slice A (aZ k).length c)∧w'.ownsRow w.heap.size 5 1 (.slice A (aZ k).length c) (aZ k).length (ab (aZ k))∧Below w.heap.size w w':=by
 simp only[dC,IT,bF] at hkn;obtain⟨_,_,_,hp,hs,hd⟩:=hkn;obtain⟨i0,hi0,hz0,hz1,hz2⟩:=info_parts bB;obtain⟨W,hW⟩:∃W,W=w.alloc (.cells (aM k).toArray 118):=⟨_,rfl⟩;have HX:Hid (aj W w.heap.size 118 (aM k).toArray):=by rw[hW];exact aj.new w _ _ _ rfl
 have HB:Hid (Below w.heap.size w W):=by rw[hW];exact (Below.refl _ _).alloc (Iy _) _
 have hk:=hid hk0;have HS:=hid (qP hk0 HX.out);have HD:=hid (qQ hk0 HX.out);obtain⟨s1,hs1⟩:∃q,q=k.src.1:=⟨_,rfl⟩;have c0:W.cell? ⟨w.heap.size,0,none⟩=some (.bool s1):=by rw[hs1];exact HS.out 0 _ rfl
 have HW:=hid hW;have l0:w.heap.size<W.heap.size:=HX.out.lt;obtain⟨φ,hφ⟩:∃x:UInt8,x=(if s1 then 6 else 4):=⟨_,rfl⟩;have Htb:Hid (aZ k=[φ]++k.src.2++k.dst.2++[qq k.proto.toNat,qq (k.sport.toNat/256%256),qq (k.sport.toNat%256),qq (k.dport.toNat/256%256),qq (k.dport.toNat%256)]):=by
  show _=_
  rw[hφ,hs1];have e1:bY 1 k.proto.toNat true=[qq (k.proto.toNat%256)]:=rfl;have e2:∀p,bY 2 p true=[qq (p/256%256),qq (p%256)]:=fun _=>rfl
  unfold aZ;rw[e1,e2,e2,Nat.mod_eq_of_lt (show k.proto.toNat<256 by omega)];simp
 have Hφ:=hid hφ;have Hpr:=hid hp;have Hsp:=hid hs;have Hdp:=hid hd;clear hW hk0 hs1 hp hs hd hφ;rcases s1 with _|_
 all_goals
  go_enter Tryz.func83,Tryz.ntmps83
  go_upto_region 1 with fail
  rw[←HW.out];go_upto_region 4 with fail
  have h01:Hid (∃(A4:Option Addr) (v4:World),True):=⟨none,W,trivial⟩;clear h01
  first
   |(obtain⟨v4,hv4⟩:∃v,v=(W.alloc (.cells #[.int .u8 4] 5)).alloc (.cells #[.int .u8 6] 5):=⟨_,rfl⟩
     rw[←hv4];have ho4:v4.ownsRow W.heap.size 5 1 (.slice (some ⟨W.heap.size+1,0,none⟩) 1 1) 1 (ab [φ]):=by
      rw[hv4,Hφ.out];have:=I1 (base:=W.heap.size) (e:=5) (size:=1) (W.alloc (.cells #[.int .u8 4] 5)) #[.int .u8 6] 1 (by simp) (by decide) rfl;rw[show (W.alloc (.cells #[.int .u8 4] 5)).heap.size=W.heap.size+1 by simp] at this;exact this
     have hb4:Below W.heap.size W v4:=by rw[hv4];exact ((Below.refl _ _).alloc (Iy _) _).alloc (by simp) _
     obtain⟨A4,hA4⟩:∃A:Option Addr,A=some ⟨W.heap.size+1,0,none⟩:=⟨_,rfl⟩;rw[←hA4] at ho4 ⊢;clear hA4)
   |(obtain⟨v4,hv4⟩:∃v,v=W.alloc (.cells #[.int .u8 4] 5):=⟨_,rfl⟩
     rw[←hv4];have ho4:v4.ownsRow W.heap.size 5 1 (.slice (some ⟨W.heap.size,0,none⟩) 1 1) 1 (ab [φ]):=by
      rw[hv4,Hφ.out];exact I1 (base:=W.heap.size) (e:=5) (size:=1) W #[.int .u8 4] 1 (Iy _) (by decide) rfl
     have hb4:Below W.heap.size W v4:=by rw[hv4];exact (Below.refl _ _).alloc (Iy _) _
     obtain⟨A4,hA4⟩:∃A:Option Addr,A=some ⟨W.heap.size,0,none⟩:=⟨_,rfl⟩;rw[←hA4] at ho4 ⊢;clear hA4)
  have Ho4:=hid ho4;have Hb4:=hid hb4;clear hv4 ho4 hb4 c0 Hφ
  go_wp2_with fail
  go_loopw [3,4] (fun v i wr=>∃(q:Nat) (A':Option Addr) (c':Nat),q≤16∧i=.int .i64 (q:Int)∧v=.slice A' ([φ]++k.src.2.take q).length c'∧Hid (wr.ownsRow W.heap.size 5 1 (.slice A' ([φ]++k.src.2.take q).length c') ([φ]++k.src.2.take q).length (ab ([φ]++k.src.2.take q)))∧Hid (Below W.heap.size W wr)) (fun _ i _=>16-(intOf i).toNat)
  case atStart=>exact⟨0,A4,1,by omega,rfl,by simp,by have:=Ho4;simpa using this,Hb4⟩
  case round =>
   clear Ho4 Hb4;obtain⟨q,A',c',hq,rfl,rfl,hat,hbel⟩:=hrel;rename World=>wr
   by_cases hlt:q<16
   ·have hltI:(q:Int)<16:=by omega
    have hq0:(0:Int)≤(q:Int):=by omega
    obtain⟨x,hx⟩:∃x,k.src.2[q]?=some x:=⟨_,IB (by have h1:k.src.2.length=16:=hk.out.src;have h2:k.dst.2.length=16:=hk.out.dst;omega)⟩;have d0:wr.cell? ⟨w.heap.size,1+q,none⟩=some (.int .u8 (x.toNat:Int)):=(bg hbel.out _ _ l0).trans (by
     have:=HS.out (1+q) (.int .u8 (x.toNat:Int)) (by rw[show 1+q=q+1 by omega,ai,IL,ab,IQ,hx];rfl);rwa [show 0+(1+q)=1+q by omega] at this)
    obtain⟨m,hm⟩:∃m,m=[φ]++k.src.2.take q:=⟨_,rfl⟩;have hm2:[φ]++k.src.2.take (q+1)=m++[x]:=by rw[sr _ _ hx,←I2,←hm]
    have hml:m.length≤40:=by
     rw[hm,ID,I4];have h1:k.src.2.length=16:=hk.out.src;simp;omega
    rw[←hm] at hat ⊢;have Hm2:=hid hm2;have hsz:=hbel.out.size;clear hm hm2 hx
    go_wp2_with (at_builtin;refine ae _ rfl (.tmp 15) (.tmp 21) 43 rfl W.heap.size 5 i0 (.int .u8 0) 1 IP hi0 hz0 hz1 hz2 rfl (.slice A' m.length c') m rfl (an hat.out ((Below.refl _ _).alloc (Iy _) _)) _ (some ⟨wr.heap.size,0,none⟩) 1 1 [x] rfl rfl (BS.one' wr x _ rfl _) (by simp;unfold maxLen;omega) (by simp;omega) (by rw[show (wr.alloc _).heap.size=wr.heap.size+1 by simp];omega) ?_;intro A6 c6 w6 hown6 hg6 _)
    have hb6:Below W.heap.size W w6:=(hbel.out.alloc hsz _).grown hg6 (by simp;omega) (fun g hg=>(hat.out.lt g hg).1);rw[←Hm2.out] at hown6;have Ho6:=hid hown6;have Hb6:=hid hb6;have Hlen:Hid (([φ]++k.src.2.take (q+1)).length=m.length+1):=by show _=_;rw[Hm2.out,ID];rfl
    clear hown6 hg6 hb6 hat d0;go_roundw
    case rel=>exact⟨q+1,A6,c6,by omega,by go_num,by rw[Hlen.out],Ho6,Hb6⟩
    case measure=>simp[intOf];omega
   ·have hltI:¬(q:Int)<16:=by omega
    obtain rfl:q=16:=by omega
    rw[IU (by have h1:k.src.2.length=16:=hk.out.src;have h2:k.dst.2.length=16:=hk.out.dst;omega)] at hat ⊢;obtain⟨m1,hm1⟩:∃m,m=[φ]++k.src.2:=⟨_,rfl⟩;rw[←hm1] at hat ⊢;have hm1l:m1.length=17:=by
     have h1:k.src.2.length=16:=hk.out.src;rw[hm1];simp;omega
    have Hm1:=hid hm1;clear hm1
    go_wp2_with fail
    go_loopw [3,5] (fun v i wr=>∃(q:Nat) (A':Option Addr) (c':Nat),q≤16∧i=.int .i64 (q:Int)∧v=.slice A' (m1++k.dst.2.take q).length c'∧Hid (wr.ownsRow W.heap.size 5 1 (.slice A' (m1++k.dst.2.take q).length c') (m1++k.dst.2.take q).length (ab (m1++k.dst.2.take q)))∧Hid (Below W.heap.size W wr)) (fun _ i _=>16-(intOf i).toNat)
    case atStart=>exact⟨0,A',c',by omega,rfl,by simp[hm1l],by have:=hat;simpa[hm1l] using this,hbel⟩
    case round =>
     clear hat hbel;obtain⟨q,A',c',hq,rfl,rfl,hat,hbel⟩:=hrel;rename World=>wr
     by_cases hlt:q<16
     ·have hltI:(q:Int)<16:=by omega
      have hq0:(0:Int)≤(q:Int):=by omega
      obtain⟨x,hx⟩:∃x,k.dst.2[q]?=some x:=⟨_,IB (by have h1:k.src.2.length=16:=hk.out.src;have h2:k.dst.2.length=16:=hk.out.dst;omega)⟩;have d0:wr.cell? ⟨w.heap.size,18+q,none⟩=some (.int .u8 (x.toNat:Int)):=(bg hbel.out _ _ l0).trans (by
       have:=HD.out (1+q) (.int .u8 (x.toNat:Int)) (by rw[show 1+q=q+1 by omega,ai,IL,ab,IQ,hx];rfl);rwa [show 17+(1+q)=18+q by omega] at this)
      obtain⟨m,hm⟩:∃m,m=m1++k.dst.2.take q:=⟨_,rfl⟩;have hm2:m1++k.dst.2.take (q+1)=m++[x]:=by rw[sr _ _ hx,←I2,←hm]
      have hml:m.length≤40:=by
       rw[hm,ID,I4];have h1:k.src.2.length=16:=hk.out.src;simp;omega
      rw[←hm] at hat ⊢;have Hm2:=hid hm2;have hsz:=hbel.out.size;clear hm hm2 hx
      go_wp2_with (at_builtin;refine ae _ rfl (.tmp 27) (.tmp 33) 43 rfl W.heap.size 5 i0 (.int .u8 0) 1 IP hi0 hz0 hz1 hz2 rfl (.slice A' m.length c') m rfl (an hat.out ((Below.refl _ _).alloc (Iy _) _)) _ (some ⟨wr.heap.size,0,none⟩) 1 1 [x] rfl rfl (BS.one' wr x _ rfl _) (by simp;unfold maxLen;omega) (by simp;omega) (by rw[show (wr.alloc _).heap.size=wr.heap.size+1 by simp];omega) ?_;intro A6 c6 w6 hown6 hg6 _)
      have hb6:Below W.heap.size W w6:=(hbel.out.alloc hsz _).grown hg6 (by simp;omega) (fun g hg=>(hat.out.lt g hg).1);rw[←Hm2.out] at hown6;have Ho6:=hid hown6;have Hb6:=hid hb6;have Hlen:Hid ((m1++k.dst.2.take (q+1)).length=m.length+1):=by show _=_;rw[Hm2.out,ID];rfl
      clear hown6 hg6 hb6 hat d0;go_roundw
      case rel=>exact⟨q+1,A6,c6,by omega,by go_num,by rw[Hlen.out],Ho6,Hb6⟩
      case measure=>simp[intOf];omega
     ·have hltI:¬(q:Int)<16:=by omega
      obtain rfl:q=16:=by omega
      rw[IU (by have h1:k.src.2.length=16:=hk.out.src;have h2:k.dst.2.length=16:=hk.out.dst;omega)] at hat ⊢;obtain⟨m2,hm2⟩:∃m,m=m1++k.dst.2:=⟨_,rfl⟩;rw[←hm2] at hat ⊢;have hm2l:m2.length=33:=by
       have h1:k.dst.2.length=16:=hk.out.dst;rw[hm2];simp;omega
      rw[Hm1.out] at hm2;have Hm2:=hid hm2;clear hm2;have c2:wr.cell? ⟨w.heap.size,34,none⟩=some (.int .i64 k.proto):=(bg hbel.out _ _ l0).trans (ir hk.out HX.out 0);have c3:wr.cell? ⟨w.heap.size,35,none⟩=some (.int .i64 k.sport):=(bg hbel.out _ _ l0).trans (ir hk.out HX.out 1);have c4:wr.cell? ⟨w.heap.size,36,none⟩=some (.int .i64 k.dport):=(bg hbel.out _ _ l0).trans (ir hk.out HX.out 2);obtain⟨p,hp⟩:∃n:Nat,k.proto=(n:Int):=⟨k.proto.toNat,by have:=Hpr.out;omega⟩;obtain⟨s,hs⟩:∃n:Nat,k.sport=(n:Int):=⟨k.sport.toNat,by have:=Hsp.out;omega⟩;obtain⟨d,hd⟩:∃n:Nat,k.dport=(n:Int):=⟨k.dport.toNat,by have:=Hdp.out;omega⟩;have hpb:p≤255∧s≤65535∧d≤65535:=by have h1:=Hpr.out;have h2:=Hsp.out;have h3:=Hdp.out;omega
      have Htb2:=Htb.out;rw[hp,hs,hd,IG,IG,IG,←Hm2.out] at Htb2;have HT:=hid Htb2;rw[hp] at c2;rw[hs] at c3;rw[hd] at c4;clear Htb2 hp hs hd Hpr Hsp Hdp;obtain⟨L5,hL5⟩:∃L,L=[qq p,qq (s/256%256),qq (s%256),qq (d/256%256),qq (d%256)]:=⟨_,rfl⟩;have HL5l:Hid (5=L5.length):=by rw[hL5];exact rfl
      have Hcs:Hid ((#[.int .u8 (p:Int),.int .u8 ((s:Int)/256),.int .u8 ((s:Int)%256),.int .u8 ((d:Int)/256),.int .u8 ((d:Int)%256)]:Array Value)=(ab L5).toArray):=by
       show _=_
       have u1:(p:Int)=((qq p).toNat:Int):=by rw[IF];omega
       have u2:(s:Int)/256=((qq (s/256%256)).toNat:Int):=by rw[IF];omega
       have u3:(s:Int)%256=((qq (s%256)).toNat:Int):=by rw[IF];omega
       have u4:(d:Int)/256=((qq (d/256%256)).toNat:Int):=by rw[IF];omega
       have u5:(d:Int)%256=((qq (d%256)).toNat:Int):=by rw[IF];omega
       rw[hL5,u2,u3,u4,u5,u1];rfl
      have HT5:Hid (aZ k=m2++L5):=by rw[hL5];exact HT.out
      have hsz:=hbel.out.size;clear hL5
      go_wp2_with (at_builtin;refine ae _ rfl (.tmp 35) (.tmp 55) 43 rfl W.heap.size 5 i0 (.int .u8 0) 1 IP hi0 hz0 hz1 hz2 rfl (.slice A' m2.length c') m2 rfl (an hat.out ((Below.refl _ _).alloc (Iy _) _)) _ (some ⟨wr.heap.size,0,none⟩) 5 5 L5 rfl HL5l.out (BS.lit wr L5 _ Hcs.out _ _) (by rw[←HL5l.out];unfold maxLen;omega) (by rw[←HL5l.out];omega) (by rw[show (wr.alloc _).heap.size=wr.heap.size+1 by simp];omega) ?_;intro A6 c6 w6 hown6 hg6 _)
      have hb6:Below W.heap.size W w6:=(hbel.out.alloc hsz _).grown hg6 (by simp;omega) (fun g hg=>(hat.out.lt g hg).1);rw[←HT5.out] at hown6;have Ho6:=hid (bP hown6 HB.out.size);have Hb6:=hid (HB.out.trans (hb6.mono HB.out.size));have Hlen:Hid (33+L5.length=(aZ k).length):=by show _=_;rw[HT5.out,ID,hm2l]
      clear hown6 hg6 hb6 hat c2 c3 c4 Hcs
      go_wp2
      go_ret
      exact⟨A6,c6,by rw[←Hlen.out];rfl,Ho6.out,Hb6.out⟩
