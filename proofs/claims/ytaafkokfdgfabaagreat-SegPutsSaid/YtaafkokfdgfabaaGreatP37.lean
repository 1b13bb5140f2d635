import Derived.Test.YtaafkokfdgfabaaGreatP24
set_option maxHeartbeats 8000000
set_option maxRecDepth 100000
set_option linter.unusedVariables false
set_option linter.unusedSimpArgs false
open List renaming getElem?_eq_getElem→qq,getElem_mem→Iz
open UInt8 renaming ofNat→IA
namespace Go.Proofs.YtaafkokfdgfabaaGreat
open Go.RowKit
open Lib (hid)
open Op renaming bytesLess→Iy
open Wh renaming done→IB
section
variable {P:Program} {ops:Array Oper} {Q:Exit→Act→World→Prop} {S:World→Prop} {W w:World} {a:Act} {o:Oper} {fuel:Nat} {listed:Array Bool}
theorem nw{d:Tmp}(i:Nat)(hS:S w)(h:Wz P ops Q S fuel (listed.setIfInBounds i true) { a with tmps:=a.tmps.setIfInBounds d undef } w)(hi:ops[i]?=some o:=by rfl)(hd:o.dst=some d:=by rfl)(hw:Region.wanted o (yielded ops a.tmps)=false:=by rfl)
  (hr:(Region.ready .any ops listed).contains i=true:=by kernel_rfl) (hf:Region.free .any ops listed i=true:=by kernel_rfl) (hs:Region.noSelect ops=true:=by kernel_rfl) (hQ:∀c a w,Q (.panic c) (a.put o.dst undef) w→Q (.panic c) a w:=by exact fun _ _ _ h=>h):Wz P ops Q S (fuel+1) listed a w :=
 lw i hS (.inr ⟨hw,rfl⟩) h hi hd hr hf hs hQ
end
theorem Cy{n:Nat}(hr:dt n=true):∃(c:UInt8),ab (dK n)=mD c::(ab (dK n)).tail∧decide (128≤c.toNat)=!(br n==br (fP n)):=by
 have hc:=rP hr;have hp:fP n<18446744073709551616→kC (fP n)=false→br (fP n)=fP n:=fun _ h=>by unfold br;rw[h];rfl
 have h0:(dK n)[0]?=some (IA (n/256^7%256)):=by
  unfold dK bY;rw[if_pos rfl,hc,List.getElem?_reverse (by rw[cJ];omega),cJ];exact tW 8 n 7 (by omega)
 obtain⟨t,ht⟩:∃t,dK n=IA (n/256^7%256)::t:=by
  cases h:dK n with
  |nil=>rw[h] at h0;simp at h0
  |cons a t=>rw[h] at h0;simp at h0;exact⟨t,by rw[h0]⟩
 refine⟨_,by rw[ht];rfl,?_⟩;simp only[dt,Bool.or_eq_true,decide_eq_true_eq] at hr;rcases hr with hr|rfl
 ·have e1:(IA (n/256^7%256)).toNat=n/256^7:=by rw[UInt8.toNat_ofNat'];omega
  have e2:fP n=n:=by unfold fP;split<;>omega
  rw[e1,e2,decide_eq_false (by omega)];simp
 ·decide +kernel
theorem tT(A:Option Addr)(n c:Nat)(p:my)(hs:∀b∈p.backs,au b)(hnm:∀b∈p.backs,b.name.length≤1000000000)(w:World)(hn:n=p.backs.length)(hnc:n≤c)(hb:RW ah 27 w w.heap.size A p.backs)(hl:n≤1000000) :
  Calls Tryz.prog 71 #[.agg (fM A n c p).toArray] w fun e w'=>e=.returned (.bool (bU p))∧Below w.heap.size w w':=by
 subst hn;obtain⟨ver,bs⟩:=p;simp only at hs hnm hb hl hnc ⊢;obtain⟨W,hW⟩:∃W,W=w.alloc (.cells (fM A bs.length c ⟨ver,bs⟩).toArray 32):=⟨_,rfl⟩;have HX:Hid (aj W w.heap.size 32 (fM A bs.length c ⟨ver,bs⟩).toArray):=by rw[hW];exact aj.new w _ _ _ rfl
 have HB:Hid (Below w.heap.size w W):=by rw[hW];exact (Below.refl _ _).alloc (Nat.le_refl _) _
 have HV:=hid ((hb.below HB.out).more HB.out.size);have Hs:=hid hs;have Hnm:=hid hnm;have d0:W.cell? ⟨w.heap.size,0,none⟩=some (.int .i64 ver):=HX.out.cell 0;have d1:W.cell? ⟨w.heap.size,1,none⟩=some (.slice A bs.length c):=HX.out.cell 1;have HW:=hid hW;clear hW hb hs hnm;have Hno:=fun (r:Bool) (h:bU ⟨ver,bs⟩=true→r=true)=>Ai h
 go_enter Tryz.func71,Tryz.ntmps71
 go_upto_region 1 with fail
 rw[←HW.out];clear HW;by_cases v1:ver<0
 ·have Hr:=Hno (dh ver 0 1099511627776) (fun h=>(fA.1 h).1) (by unfold dh;rw[decide_eq_false (by omega)];rfl)
  go_wp2
  go_ret
  exact⟨by rw[Hr.out];rfl,HB.out⟩
 by_cases v2:1099511627776<ver
 ·have Hr:=Hno (dh ver 0 1099511627776) (fun h=>(fA.1 h).1) (by unfold dh;rw[decide_eq_false (show ¬ver≤1099511627776 by omega)];simp)
  go_wp2
  go_ret
  exact⟨by rw[Hr.out];rfl,HB.out⟩
 by_cases v3:1024<bs.length
 ·have v3I:(1024:Int)<(bs.length:Int):=by omega
  have Hr:=Hno (decide (bs.length≤1024)) (fun h=>by have:=(fA.1 h).2.1;simpa using this) (by rw[decide_eq_false (by omega)]);clear v3
  go_wp2
  go_ret
  exact⟨by rw[Hr.out];rfl,HB.out⟩
 have v3I:¬(1024:Int)<(bs.length:Int):=by omega
 go_wp2
 go_loopw [3] (fun i wr=>∃k:Nat,k≤bs.length∧i=.int .i64 (k:Int)∧Hid (Below W.heap.size W wr)∧Hid (∀j,j<k→eE bs j=true)) (fun i _=>bs.length-(intOf i).toNat)
 case atStart=>exact⟨0,by omega,rfl,Below.refl _ _,fun j hj=>by omega⟩
 case round =>
  obtain⟨k,hk,rfl,hbel,hat⟩:=hrel;rename World=>wr
  have e0:=(bg hbel.out _ 1 HX.out.lt).trans d1;by_cases hlt:k<bs.length
  ·have hltI:(k:Int)<(bs.length:Int):=by omega
   have hk0:(0:Int)≤(k:Int):=by omega
   obtain⟨b,o,hA,hbB,hc⟩:=(HV.out.below hbel.out) (by omega);subst hA;obtain⟨x,hx⟩:∃x,x=bs[k]:=⟨_,rfl⟩;have Hrg:=hid (hc k x (by rw[qq hlt,hx]));have Hxs:=hid (Hs.out x (by rw[hx];exact Iz hlt));have Hxn:=hid (Hnm.out x (by rw[hx];exact Iz hlt));have Hat0:Hid (eE bs k=(eu x&&(br x.wt==br (fP x.wt)&&(decide (k=0)||(match bs[k-1]? with|some c=>Iy c.name x.name|none=>true))))):=by
    show _=_
    unfold eE;rw[qq hlt,←hx];rfl
   have Hno2:eE bs k=false→Hid (bU ⟨ver,bs⟩=false):=fun h=>Hno (eE bs k) (fun g=>(fA.1 g).2.2 k hlt) h
   have Hyes:Hid (eE bs k=true→∀j,j<k+1→eE bs j=true):=fun h j hj=>by
    rcases Nat.lt_or_ge j k with h1|h1
    ·exact hat.out j h1
    ·obtain rfl:j=k:=by omega
     exact h
   have HPx:Hid (∀y:aU,bs[k-1]?=some y→wr.cell? ⟨b,o+(k-1)*27,none⟩=some (.string ⟨y.name.toArray⟩)):=fun y hy=>hc (k-1) y hy 0 _ rfl
   clear hc hx hat;obtain⟨x1,y1,X1,Y1,T1,B1,L1⟩:=ei wr 56 (ah dU) (ah x) (by rw[bu Hxs.out,bu aE]);rw[gU] at X1;have HB1:Hid (Below W.heap.size W y1):=hbel.out.trans (L1.out.mono hbel.out.size);have hold:Hid (∀o,y1.cell? ⟨b,o,none⟩=wr.cell? ⟨b,o,none⟩):=fun o=>L1.out.cell (p:=⟨b,o,none⟩) (by have:=hbel.out.size;have:=hbB;simp;omega)
   have Hsz:=hid (cM Hxs.out);have Hb1:Hid (b<y1.heap.size):=by have:=HB1.out.size;show _<_;omega
   go_upto_region 7 with (first
    |((with_reducible refine aB 56 ?_);refine aa (by rfl) 56 (.tmp 29) rfl b (o+k*27) rfl (ah x) _ Hrg.out bL rfl Hsz.out ?_)
    |(rw[←X1.out];(with_reducible refine aR 56 ?_);refine wpList_store_mid rfl 56 (.tmp 4) (.tmp 30) rfl wr.heap.size 0 (ah x).toArray rfl rfl T1.out (by rw[List.size_toArray];exact Hsz.out) (eS _) ?_))
   rw[←Y1.out];have Hwt:=hid Hxs.out.wt;have e1:y1.cell? ⟨w.heap.size,1,none⟩=some (.slice (some ⟨b,o,none⟩) bs.length c):=(aj.below HX.out HB1.out HX.out.lt).cell 1;have e2:=jx B1.out;have e3:=lv B1.out Hxs.out;have l1:w.heap.size<y1.heap.size:=by have:=HX.out.lt;have:=HB1.out.size;omega
   have l2:wr.heap.size<y1.heap.size:=B1.out.lt;have l3:b<y1.heap.size:=Hb1.out;clear X1 Y1 T1 Hrg hbel e0;have Hfin:Hid (∀w2,Below y1.heap.size y1 w2→Below W.heap.size W w2):=fun w2 h=>HB1.out.trans (h.mono HB1.out.size)
   have Hwt:=hid Hxs.out.wt;rcases hf:eu x with _|_
   ·have Hr:=Hno2 (by rw[Hat0.out,hf];rfl)
    refine Sd.start ?_;simp only[Act.put]
    repeat ((first|refine sk ?_|refine sl (ag B1.out) l2 bL Hsz.out ?_|refine cl (fun w _=>tR x Hxs.out Hxn.out w) ?_|refine pt ?_);simp only[ld,lg,lf,Nat.reduceAdd,hf,Bool.not_false])
    refine Sd.done fun w2 hb2=>?_
    have Hb2:=hid (HB.out.trans ((Hfin.out w2 hb2).mono HB.out.size));clear hf hb2
    go_wp2
    go_ret
    exact⟨by rw[Hr.out];rfl,Hb2.out⟩
   obtain⟨hd,hd1,hd2⟩:=Cy (n:=x.wt) (by have h:=hf;simp only[eu,Bool.and_eq_true] at h;exact h.2.2.2);have Hd1:=hid hd1;obtain⟨c,hcd⟩:∃c,c=hd.toNat:=⟨_,rfl⟩;have Hcd:=hid hcd;rw[←hcd] at hd2;clear hd1 hcd;have Hwp:=hid (fun w=>kJ x.wt w Hwt.out);refine Wh.start fun hH0=>?_
   simp only[Act.put];have hH:=hH0.out;refine lw 0 hH (yieldsIf_load_mid rfl _ _ rfl wr.heap.size 0 rfl (ah x) _ (fun w' hS i c hc=>(bg hS _ _ l2).trans (ag B1.out i c hc)) bL rfl Hsz.out) ?_;simp only[ld,lg,lf];refine one 1 (On.call (tR x Hxs.out Hxn.out _) ?_);rintro e w1 ⟨rfl,hb1⟩;have hH1:=hH.trans (hb1.mono hH.size);refine⟨_,rfl,hH1,?_⟩;simp only[ld,lg,lf,hf];refine tw 2 hH1 ?_;simp only[ld,lg,lf,Bool.not_true];refine tw 3 hH1 ?_;simp only[ld,lg,lf];refine tw 4 hH1 ?_;simp only[ld,lg,lf];refine tw 5 hH1 ?_;simp only[ld,lg,lf];refine one 6 (On.call (Hwp.out _) ?_);rintro e w2 ⟨A2,n2,rfl,hown2,hb2⟩;have hH2:=hH1.trans (hb2.mono hH1.size);obtain⟨g2,cap2,hv2,_,hlt2⟩:=hown2.form (by decide);have hA2:A2=some ⟨g2,0,none⟩:=by injection hv2
   subst hA2;have hc2:w2.cell? ⟨g2,0,none⟩=some (.int .u8 (c:Int)):=by
    rw[Hcd.out];have:=(BS.of_own hown2).1 (by rw[eR];omega);obtain⟨ad,had,_,hcc⟩:=this;injection had with had
    subst had;have h0:(dK x.wt)[0]?=some hd:=by
     have h1:=Hd1.out;cases hq:dK x.wt with
     |nil=>rw[hq] at h1;simp[ab] at h1
     |cons u t =>
      rw[hq] at h1;simp only[ab,List.map_cons,List.cons.injEq] at h1;have h2:mD u=mD hd:=h1.1;have h3:(u.toNat:Int)=(hd.toNat:Int):=by simpa[mD] using h2
      have h4:u=hd:=UInt8.toNat_inj.1 (by omega);rw[h4];rfl
    exact hcc 0 hd h0
   clear hown2 hb2 hv2 Hwp;refine⟨_,rfl,hH2,?_⟩;simp only[ld,lg,lf];refine tw 7 hH2 ?_;simp only[ld,lg,lf];refine one 8 (On.val (w':=w2) (v:=.int .u8 (c:Int)) (fun u hu=>by rw[hu];exact hH2) (fun _=>?_) (hrun:=by go_simp));simp only[ld,lg,lf];rcases hw:(br x.wt==br (fP x.wt)) with _|_
   ·have Hr:=Hno2 (by rw[Hat0.out,hf,hw];rfl)
    have c1:(128:Int)≤(c:Int):=by rw[hw] at hd2;simp at hd2;omega
    clear hw hd2 hf
    (first|refine tw 9 hH2 ?_|refine nw 9 hH2 ?_);simp only[ld,lg,lf]
    (first|refine tw 10 hH2 ?_|refine nw 10 hH2 ?_);simp only[ld,lg,lf]
    (first|refine tw 11 hH2 ?_|refine nw 11 hH2 ?_);simp only[ld,lg,lf]
    (first|refine tw 12 hH2 ?_|refine nw 12 hH2 ?_);simp only[ld,lg,lf]
    (first|refine tw 13 hH2 ?_|refine nw 13 hH2 ?_);simp only[ld,lg,lf]
    (first|refine tw 14 hH2 ?_|refine nw 14 hH2 ?_);simp only[ld,lg,lf]
    (first|refine tw 15 hH2 ?_|refine nw 15 hH2 ?_);simp only[ld,lg,lf]
    (first|refine tw 16 hH2 ?_|refine nw 16 hH2 ?_);simp only[ld,lg,lf]
    (first|refine tw 17 hH2 ?_|refine nw 17 hH2 ?_);simp only[ld,lg,lf]
    (first|refine tw 18 hH2 ?_|refine nw 18 hH2 ?_);simp only[ld,lg,lf]
    (first|refine tw 19 hH2 ?_|refine nw 19 hH2 ?_);simp only[ld,lg,lf]
    (first|refine tw 20 hH2 ?_|refine nw 20 hH2 ?_);simp only[ld,lg,lf]
    (first|refine tw 21 hH2 ?_|refine nw 21 hH2 ?_);simp only[ld,lg,lf]
    (first|refine tw 22 hH2 ?_|refine nw 22 hH2 ?_);simp only[ld,lg,lf]
    (first|refine tw 23 hH2 ?_|refine nw 23 hH2 ?_);simp only[ld,lg,lf]
    (first|refine tw 24 hH2 ?_|refine nw 24 hH2 ?_);simp only[ld,lg,lf]
    (first|refine tw 25 hH2 ?_|refine nw 25 hH2 ?_);simp only[ld,lg,lf]
    (first|refine tw 26 hH2 ?_|refine nw 26 hH2 ?_);simp only[ld,lg,lf]
    refine IB ?_;have Hb2:=hid (HB.out.trans ((Hfin.out w2 hH2).mono HB.out.size));clear hH hH0 hH1 hH2
    go_wp2
    go_ret
    exact⟨by rw[Hr.out];rfl,Hb2.out⟩
   have c1:¬(128:Int)≤(c:Int):=by rw[hw] at hd2;simp at hd2;omega
   rcases k with _|j
   ·have Hr:Hid (eE bs 0=true):=by show _=_;rw[Hat0.out,hf,hw];rfl
    clear hw hd2 hf
    (first|refine tw 9 hH2 ?_|refine nw 9 hH2 ?_);simp only[ld,lg,lf]
    (first|refine tw 10 hH2 ?_|refine nw 10 hH2 ?_);simp only[ld,lg,lf]
    (first|refine tw 11 hH2 ?_|refine nw 11 hH2 ?_);simp only[ld,lg,lf]
    (first|refine tw 12 hH2 ?_|refine nw 12 hH2 ?_);simp only[ld,lg,lf]
    (first|refine tw 13 hH2 ?_|refine nw 13 hH2 ?_);simp only[ld,lg,lf]
    (first|refine tw 14 hH2 ?_|refine nw 14 hH2 ?_);simp only[ld,lg,lf]
    (first|refine tw 15 hH2 ?_|refine nw 15 hH2 ?_);simp only[ld,lg,lf]
    (first|refine tw 16 hH2 ?_|refine nw 16 hH2 ?_);simp only[ld,lg,lf]
    (first|refine tw 17 hH2 ?_|refine nw 17 hH2 ?_);simp only[ld,lg,lf]
    (first|refine tw 18 hH2 ?_|refine nw 18 hH2 ?_);simp only[ld,lg,lf]
    (first|refine tw 19 hH2 ?_|refine nw 19 hH2 ?_);simp only[ld,lg,lf]
    (first|refine tw 20 hH2 ?_|refine nw 20 hH2 ?_);simp only[ld,lg,lf]
    (first|refine tw 21 hH2 ?_|refine nw 21 hH2 ?_);simp only[ld,lg,lf]
    (first|refine tw 22 hH2 ?_|refine nw 22 hH2 ?_);simp only[ld,lg,lf]
    (first|refine tw 23 hH2 ?_|refine nw 23 hH2 ?_);simp only[ld,lg,lf]
    (first|refine tw 24 hH2 ?_|refine nw 24 hH2 ?_);simp only[ld,lg,lf]
    (first|refine tw 25 hH2 ?_|refine nw 25 hH2 ?_);simp only[ld,lg,lf]
    (first|refine tw 26 hH2 ?_|refine nw 26 hH2 ?_);simp only[ld,lg,lf]
    refine IB ?_;have Hb2:=hid (Hfin.out w2 hH2);clear hH hH0 hH1 hH2
    go_wp2
    go_roundw
    case rel=>exact⟨_,by omega,by go_num,Hb2,hid (Hyes.out Hr.out)⟩
    case measure=>simp[intOf];omega
   ·obtain⟨y,hy⟩:∃y,bs[j]?=some y:=⟨_,qq (by omega)⟩
    have e4:y1.cell? ⟨b,o+j*27,none⟩=some (.string ⟨y.name.toArray⟩):=(hold.out _).trans (HPx.out y hy);have Hat1:Hid (eE bs (j+1)=Iy y.name x.name):=by show _=_;rw[Hat0.out,hf,hw];simp[hy]
    have j1:(0:Int)≤(j:Int):=by omega
    have j2:(j:Int)<(bs.length:Int):=by omega
    have jw:IntKind.i64.wrap (j:Int)=(j:Int):=IntWalk.i64_in _ (by omega);clear hw hd2 hf
    (first|refine tw 9 hH2 ?_|refine nw 9 hH2 ?_);simp only[ld,lg,lf,jw]
    (first|refine tw 10 hH2 ?_|refine nw 10 hH2 ?_);simp only[ld,lg,lf,jw]
    (first|refine tw 11 hH2 ?_|refine nw 11 hH2 ?_);simp only[ld,lg,lf,jw]
    (first|refine tw 12 hH2 ?_|refine nw 12 hH2 ?_);simp only[ld,lg,lf,jw]
    (first|refine tw 13 hH2 ?_|refine nw 13 hH2 ?_);simp only[ld,lg,lf,jw]
    (first|refine tw 14 hH2 ?_|refine nw 14 hH2 ?_);simp only[ld,lg,lf,jw]
    (first|refine tw 15 hH2 ?_|refine nw 15 hH2 ?_);simp only[ld,lg,lf,jw]
    (first|refine tw 16 hH2 ?_|refine nw 16 hH2 ?_);simp only[ld,lg,lf,jw]
    (first|refine tw 17 hH2 ?_|refine nw 17 hH2 ?_);simp only[ld,lg,lf,jw]
    (first|refine tw 18 hH2 ?_|refine nw 18 hH2 ?_);simp only[ld,lg,lf,jw]
    (first|refine tw 19 hH2 ?_|refine nw 19 hH2 ?_);simp only[ld,lg,lf,jw]
    (first|refine tw 20 hH2 ?_|refine nw 20 hH2 ?_);simp only[ld,lg,lf,jw]
    (first|refine tw 21 hH2 ?_|refine nw 21 hH2 ?_);simp only[ld,lg,lf,jw]
    (first|refine tw 22 hH2 ?_|refine nw 22 hH2 ?_);simp only[ld,lg,lf,jw]
    (first|refine tw 23 hH2 ?_|refine nw 23 hH2 ?_);simp only[ld,lg,lf,jw]
    (first|refine tw 24 hH2 ?_|refine nw 24 hH2 ?_);simp only[ld,lg,lf,jw]
    (first|refine tw 25 hH2 ?_|refine nw 25 hH2 ?_);simp only[ld,lg,lf,jw]
    (first|refine tw 26 hH2 ?_|refine nw 26 hH2 ?_);simp only[ld,lg,lf,jw]
    refine IB ?_;have Hb2:=hid (Hfin.out w2 hH2);have Hb3:=hid (HB.out.trans (Hb2.out.mono HB.out.size));clear jw hH hH0 hH1 hH2;rcases hl2:Iy y.name x.name with _|_
    ·have Hr:=Hno2 (by rw[Hat1.out,hl2])
     go_wp2
     go_ret
     exact⟨by rw[Hr.out];rfl,Hb3.out⟩
    ·have Hr:Hid (eE bs (j+1)=true):=by show _=_;rw[Hat1.out,hl2]
     go_wp2
     go_roundw
     case rel=>exact⟨_,by omega,by go_num,Hb2,hid (Hyes.out Hr.out)⟩
     case measure=>simp[intOf];omega
  ·have hltI:¬(k:Int)<(bs.length:Int):=by omega
   have Hr:Hid (bU ⟨ver,bs⟩=true):=fA.2 ⟨by unfold dh;rw[decide_eq_true (by omega),decide_eq_true (by omega)];rfl,by simp only;omega,fun i hi=>hat.out i (by simp only at hi;omega)⟩
   go_wp2
   go_ret
   exact⟨by rw[Hr.out];rfl,HB.out.trans (hbel.out.mono HB.out.size)⟩
