import Derived.Test.YtaafkokfdgfabaaGreatP22
import Derived.Test.YtaafkokfdgfabaaGreatP33
import Derived.Test.YtaafkokfdgfabaaGreatP38
import Derived.Test.YtaafkokfdgfabaaGreatP40
import Derived.Test.YtaafkokfdgfabaaGreatP41
set_option maxHeartbeats 8000000
set_option maxRecDepth 100000
set_option linter.unusedVariables false
set_option linter.unusedSimpArgs false
open Bool renaming and_eq_true→IH
open List renaming length_append→qq,mem_of_mem_take→Iy,getElem?_eq_getElem→IB,take_of_length_le→ID,mem_of_getElem?→IF,append_assoc→IG,length_take→IJ,size_toArray→IN
open Nat renaming lt_of_lt_of_le→IA,le_trans→IC,le_refl→IE
namespace Go.Proofs.YtaafkokfdgfabaaGreat
open Go.RowKit
open Lib (hid)
open Act renaming put→IQ
open BS renaming of_own→II
open GU renaming of_grown→IM,of_below→IS
open IntWalk renaming u64_in→IL
open On renaming call→IK
open Tryz renaming underlying43→Iz,prog→IP
open Wh renaming done→IR
theorem gg(B:Nat)(A:Option Addr)(c:Nat)(m:List UInt8)(n:Nat)(w:World)(hB:B≤w.heap.size)(hown:w.ownsRow B 5 1 (.slice A m.length c) m.length (ab m))(hn:n≤1152921504606846976)(hm:m.length≤100000000) :
  Calls IP 82 #[.slice A m.length c,.int .i64 (n:Int)] w (pu B w (m++aC n)):=by
 obtain⟨i0,hi0,hz0,hz1,hz2⟩:=info_parts bB;have Hown:=hid hown;clear hown;go_enter Tryz.func82,Tryz.ntmps82
 have hw64:IntKind.u64.wrap (n:Int)=(n:Int):=IL _ (by omega)
 go_wp2_with fail
 refine (kh n w (by omega)).mono ?_;rintro e w2 ⟨A2,c2,rfl,hown2,hb2⟩;have ho2:=an Hown.out hb2;have hv:=aO (n:=n) (by omega);have hB2:B≤w2.heap.size:=IC hB hb2.size;have Ho2:=hid ho2;have HB2:=hid (II hown2).1;have Hg2:=hid (IS (B:=B) hb2);clear hown2 hb2 ho2 Hown
 go_wp2_with (at_builtin;refine ae _ rfl _ _ 43 rfl B 5 i0 (.int .u8 0) 1 Iz hi0 hz0 hz1 hz2 rfl (.slice A m.length c) m rfl Ho2.out _ A2 _ c2 (aC n) rfl rfl HB2.out (by unfold maxLen;omega) (by omega) hB2 ?_;intro A3 c3 w3 hown3 hg3 _)
 have Hg3:Hid (GU B w w3):=Hg2.out.trans (IM Ho2.out hg3);rw[←qq];go_ret
 exact⟨A3,c3,rfl,hown3,Hg3.out⟩
theorem CC(x:nJ)(s:bA)(w:World)(hst:md w w.heap.size x s)(hv:eM s=true) :
  Calls IP 42 #[.agg (cU x s).toArray] w (uZ w (eF s)):=by
 obtain⟨i0,hi0,hz0,hz1,hz2⟩:=info_parts bB;obtain⟨xb,cb,xh,ch,xf,cf⟩:=x;obtain⟨W,hW⟩:∃W,W=w.alloc (.cells (cU ⟨xb,cb,xh,ch,xf,cf⟩ s).toArray 37):=⟨_,rfl⟩;have HY:Hid (aj W w.heap.size 37 (cU ⟨xb,cb,xh,ch,xf,cf⟩ s).toArray):=by rw[hW];exact aj.new w _ _ _ rfl
 have HB:Hid (Below w.heap.size w W):=by rw[hW];exact (Below.refl _ _).alloc (IE _) _
 have HS:=hid (hst.on HB.out);have HW:=hid hW;have l1:w.heap.size<W.heap.size:=HY.out.lt;have hR:=pi hv;obtain⟨tk,htk⟩:∃n:Nat,s.tick=(n:Int):=⟨s.tick.toNat,by have:=hR.tick;omega⟩;obtain⟨no,hno⟩:∃n:Nat,s.no=(n:Int):=⟨s.no.toNat,by have:=hR.no;omega⟩;obtain⟨ver,hver⟩:∃n:Nat,s.pool.version=(n:Int):=⟨s.pool.version.toNat,by have:=hR.ver;omega⟩;obtain⟨cn,hcn,hcn2,hcn3⟩:=Am hR.count;have tkl:tk≤1099511627776:=by have:=hR.tick;omega
 have nol:no≤1152921504606846976:=by have:=hR.no;omega
 have vel:ver≤1099511627776:=by have:=hR.ver;omega
 have hcl:cn.length=11:=by rw[←hcn2,List.length_map];exact HS.out.ok.count
 have Hnums:Hid (eF s=aC tk++(aC no++(aJ cn++(aC ver++(eV aD s.pool.backs++(eV aL s.healths++eV bR s.flows)))))):=by
  show _=_
  unfold eF iy;rw[htk,hno,hver,hcn2];simp[aJ,fW]
 have b3:W.cell? ⟨w.heap.size,4,none⟩=some (.int .i64 (tk:Int)):=by have:=HY.out.cell 4;rw[this];show some (zv s.tick)=_;rw[htk];rfl
 have b4:W.cell? ⟨w.heap.size,5,none⟩=some (.int .i64 (no:Int)):=by have:=HY.out.cell 5;rw[this];show some (zv s.no)=_;rw[hno];rfl
 have b0:W.cell? ⟨w.heap.size,0,none⟩=some (.int .i64 (ver:Int)):=by have:=HY.out.cell 0;rw[this];show some (zv s.pool.version)=_;rw[hver];rfl
 have b1:W.cell? ⟨w.heap.size,1,none⟩=some (.slice xb s.pool.backs.length cb):=HY.out.cell 1;have b5:W.cell? ⟨w.heap.size,2,none⟩=some (.slice xh s.healths.length ch):=HY.out.cell 2;have b6:W.cell? ⟨w.heap.size,3,none⟩=some (.slice xf s.flows.length cf):=HY.out.cell 3;have HCn:Hid (NR W w.heap.size 6 cn):=by
  refine⟨_,37,by decide,HY.out,fun j n hj=>?_⟩;rw[List.getElem?_toArray,cU,show 6+j=j+6 by omega];show (s.count.map zv)[j]?=_
  rw[hcn,List.map_map,List.getElem?_map,hj];rfl
 have Hcl:=hid hcl;have Hcn3:=hid hcn3;have HR:=hid hR;clear htk hno hver hcn hcn2 hcn3 hcl hR hv hW hst;go_enter Tryz.func42,Tryz.ntmps42
 go_upto_region 1 with fail
 rw[←HW.out];clear HW;refine Wh.start fun hH=>?_
 try simp only[IQ]
 have hH:=hH.out;refine tw 0 hH ?_;simp only[ld,lg,lf];refine tw 1 hH ?_;simp only[ld,lg,lf];refine tw 3 hH ?_;simp only[ld,lg,lf];refine tw 4 hH ?_;simp only[ld,lg,lf];refine one 2 (IK (gg W.heap.size none 0 [] tk _ hH.size (World.ownsRow_nil _ _ _ _) (by omega) (by simp)) ?_);rintro e w2 ⟨A2,c2,rfl,hown2,hg2⟩;have hH2:=hH.trans (hg2.below hH.size);refine⟨_,rfl,hH2,?_⟩;obtain⟨m2,hm2⟩:∃m,m=aC tk:=⟨_,rfl⟩;have Hm2:=hid hm2;rw[List.nil_append,←hm2] at hown2 ⊢;have hm2l:m2.length≤10:=by rw[hm2];exact aO (by omega)
 clear hm2;simp only[ld,lg,lf];refine one 5 (IK (gg W.heap.size A2 c2 m2 no w2 hH2.size hown2 nol (by omega)) ?_);rintro e w3 ⟨A3,c3,rfl,hown3,hg3⟩;have hH3:=hH2.trans (hg3.below hH2.size);refine⟨_,rfl,hH3,?_⟩;obtain⟨m3,hm3⟩:∃m,m=m2++aC no:=⟨_,rfl⟩;have Hm3:=hid hm3;have hm3l:m3.length≤20:=by rw[hm3,qq];have:=aO (n:=no) (by omega);omega
 rw[←hm3] at hown3 ⊢;clear hm3;simp only[ld,lg,lf];refine tw 6 hH3 ?_;simp only[ld,lg,lf];refine IR ?_;have Hw3:=hid hH3;have Ho3:=hid hown3;clear hH hH2 hH3 hown2 hown3 hg2 hg3
 go_wp2
 go_loopw [3,4] (fun v i wr=>∃(k:Nat) (l:List UInt8) (A':Option Addr) (c':Nat),k≤11∧i=.int .i64 (k:Int)∧v=.slice A' l.length c'∧Hid (wr.ownsRow W.heap.size 5 1 (.slice A' l.length c') l.length (ab l))∧Hid (Below W.heap.size W wr)∧Hid (l=m3++aJ (cn.take k))) (fun _ i _=>11-(intOf i).toNat)
 case atStart=>exact⟨0,m3,A3,c3,by omega,rfl,rfl,Ho3,Hw3,by simp[Hid,aJ]⟩
 case round =>
  obtain⟨k,l,A',c',hk,rfl,rfl,hown,hg,hlv⟩:=hrel;rename World=>wr
  have hll:l.length≤200:=by
   have h1:=gX (cn.take k) (fun n hn=>by have:=Hcn3.out n (Iy hn);omega);have h2:(cn.take k).length≤11:=by rw[IJ];omega
   rw[hlv.out,qq];omega
  have m1:w.heap.size<wr.heap.size:=IA l1 hg.out.size;by_cases hlt:k<11
  ·have hltI:(k:Int)<11:=by omega
   have hk0:(0:Int)≤(k:Int):=by omega
   obtain⟨n,hn⟩:∃n,cn[k]?=some n:=⟨_,IB (by rw[Hcl.out];exact hlt)⟩;have c0:wr.cell? ⟨w.heap.size,6+k,none⟩=some (.int .i64 (n:Int)):=(bg hg.out _ _ l1).trans (HCn.out.cell hn);have hnl:=Hcn3.out n (IF hn);have Hst:Hid (l++aC n=m3++aJ (cn.take (k+1))):=by show _=_;rw[rX cn hn,hlv.out,IG]
   clear hn
   go_wp2_with fail
   refine (gg W.heap.size A' c' l n wr hg.out.size hown.out hnl (by omega)).mono ?_;rintro e w4 ⟨A4,c4,rfl,hown4,hg4⟩;have Hb4:=hid (hg.out.trans (hg4.below hg.out.size));have Ho4:=hid hown4;clear hown4 hg4 hown hg c0
   go_wp2
   go_roundw
   case rel=>exact⟨k+1,l++aC n,A4,c4,by omega,by go_num,by simp,Ho4,Hb4,Hst⟩
   case measure=>simp[intOf];omega
  have hltI:¬(k:Int)<11:=by omega
  obtain⟨m4,hm4⟩:∃m,m=m3++aJ cn:=⟨_,rfl⟩;have He:Hid (l=m4):=by show _=_;rw[hm4,hlv.out,ID (by rw[Hcl.out];omega)]
  have Hm4:=hid hm4;obtain rfl:=He.out;have b0r:=(bg hg.out _ 0 l1).trans b0;have b1r:=(bg hg.out _ 1 l1).trans b1;clear hm4 He hlv hlt;have hbl:=HR.out.bl;go_upto_region 6 with fail
  refine Wh.start' hg.out fun hH=>?_
  try simp only[IQ]
  have hH:=hH.out;refine tw 0 hH ?_;simp only[ld,lg,lf];refine tw 1 hH ?_;simp only[ld,lg,lf];refine tw 2 hH ?_;simp only[ld,lg,lf];refine tw 3 hH ?_;simp only[ld,lg,lf];refine tw 5 hH ?_;simp only[ld,lg,lf];refine tw 6 hH ?_;simp only[ld,lg,lf];refine tw 7 hH ?_;simp only[ld,lg,lf];refine tw 8 hH ?_;simp only[ld,lg,lf];refine one 4 (IK (gg W.heap.size A' c' l ver _ hH.size (an hown.out (Below.refl wr.heap.size wr).drew) (by omega) (by omega)) ?_);rintro e w5 ⟨A5,c5,rfl,hown5,hg5⟩;have hH5:=hH.trans (hg5.below hH.size);refine⟨_,rfl,hH5,?_⟩;obtain⟨m5,hm5⟩:∃m,m=l++aC ver:=⟨_,rfl⟩;have Hm5:=hid hm5;have hm5l:m5.length≤210:=by rw[hm5,qq];have:=aO (n:=ver) (by omega);omega
  rw[←hm5] at hown5 ⊢;clear hm5;simp only[ld,lg,lf];refine one 9 (IK (gg W.heap.size A5 c5 m5 s.pool.backs.length w5 hH5.size hown5 (by omega) (by omega)) ?_);rintro e w6 ⟨A6,c6,rfl,hown6,hg6⟩;have hH6:=hH5.trans (hg6.below hH5.size);refine⟨_,rfl,hH6,?_⟩;obtain⟨m6,hm6⟩:∃m,m=m5++aC s.pool.backs.length:=⟨_,rfl⟩;have Hm6:=hid hm6;have hm6l:m6.length≤220:=by rw[hm6,qq];have:=aO (n:=s.pool.backs.length) (by omega);omega
  rw[←hm6] at hown6 ⊢;clear hm6;simp only[ld,lg,lf];refine tw 10 hH6 ?_;simp only[ld,lg,lf];refine IR ?_;have Hw6:=hid hH6;have Ho6:=hid hown6;clear hH hH5 hH6 hown5 hown6 hg5 hg6 hown hg b0r b1r m1
  go_wp2
  go_loopw [3,5] (fun v i wr=>∃(k:Nat) (l:List UInt8) (A':Option Addr) (c':Nat),k≤s.pool.backs.length∧i=.int .i64 (k:Int)∧v=.slice A' l.length c'∧Hid (wr.ownsRow W.heap.size 5 1 (.slice A' l.length c') l.length (ab l))∧Hid (Below W.heap.size W wr)∧Hid (l=m6++(s.pool.backs.take k).flatMap aD)) (fun _ i _=>s.pool.backs.length-(intOf i).toNat)
  case atStart=>exact⟨0,m6,A6,c6,by omega,rfl,rfl,Ho6,Hw6,by simp[Hid]⟩
  case round =>
   obtain⟨k,l,A',c',hk,rfl,rfl,hown,hg,hlv⟩:=hrel;rename World=>wr
   have hll:l.length≤103000:=by
    have h1:=dR (enc:=aD) (N:=100) (s.pool.backs.take k) fun b hb=>xd (HS.out.ok.backs b (Iy hb)) (HR.out.backs b (Iy hb))
    have h2:(s.pool.backs.take k).length≤1024:=by rw[IJ];have:=HR.out.bl;omega
    rw[hlv.out,qq];omega
   have m1:w.heap.size<wr.heap.size:=IA l1 hg.out.size;have b1r:=(bg hg.out _ 1 l1).trans b1;by_cases hlt:k<s.pool.backs.length
   ·have hltI:(k:Int)<(s.pool.backs.length:Int):=by omega
    have hk0:(0:Int)≤(k:Int):=by omega
    obtain⟨b,o,hxb,hbB,hc⟩:=(HS.out.held.backs.below hg.out) (by omega);simp only at hxb;subst hxb;obtain⟨y,hy⟩:∃x,s.pool.backs[k]?=some x:=⟨_,IB hlt⟩;have hym:y∈s.pool.backs:=IF hy;have Hrg:=hid (hc k y hy);have Hys:=hid (HS.out.ok.backs y hym);have Hyt:=hid (nu (HR.out.backs y hym));have Hsz:=hid (cM Hys.out);have Hst:Hid (l++aD y=m6++(s.pool.backs.take (k+1)).flatMap aD):=by show _=_;rw[gM _ s.pool.backs hy,hlv.out,IG]
    have m2:b<wr.heap.size:=IA hbB hg.out.size;have hcb:=HS.out.cb.2;clear hc hy hym
    go_wp2_with ((with_reducible refine aB 56 ?_);refine aa (by rfl) 56 (.tmp 49) rfl b (o+k*27) rfl (ah y) _ Hrg.out bL rfl Hsz.out ?_)
    refine (sw W.heap.size A' c' l y Hys.out Hyt.out wr hg.out.size hown.out (by omega)).mono ?_;rintro e w4 ⟨A4,c4,rfl,hown4,hg4⟩;have Hb4:=hid (hg.out.trans (hg4.below hg.out.size));have Ho4:=hid hown4;clear hown4 hg4 hown hg b1r
    go_wp2
    go_roundw
    case rel=>exact⟨k+1,l++aD y,A4,c4,by omega,by go_num,by simp,Ho4,Hb4,Hst⟩
    case measure=>simp[intOf];omega
   have hltI:¬(k:Int)<(s.pool.backs.length:Int):=by omega
   obtain⟨m7,hm7⟩:∃m,m=m6++s.pool.backs.flatMap aD:=⟨_,rfl⟩;have He:Hid (l=m7):=by show _=_;rw[hm7,hlv.out,ID (by omega)]
   have Hm7:=hid hm7;obtain rfl:=He.out;have b5r:=(bg hg.out _ 2 l1).trans b5;have hhl:=HR.out.hl;clear hm7 He hlv hlt
   go_wp2_with fail
   refine (gg W.heap.size A' c' l s.healths.length wr hg.out.size hown.out (by omega) (by omega)).mono ?_;rintro e w8 ⟨A8,c8,rfl,hown8,hg8⟩;obtain⟨m8,hm8⟩:∃m,m=l++aC s.healths.length:=⟨_,rfl⟩;have Hm8:=hid hm8;have hm8l:m8.length≤103010:=by rw[hm8,qq];have:=aO (n:=s.healths.length) (by omega);omega
   rw[←hm8] at hown8 ⊢;have Hw8:=hid (hg.out.trans (hg8.below hg.out.size));have Ho8:=hid hown8;clear hm8 hown8 hg8 hown hg b1r b5r m1
   go_wp2
   go_loopw [3,6] (fun v i wr=>∃(k:Nat) (l:List UInt8) (A':Option Addr) (c':Nat),k≤s.healths.length∧i=.int .i64 (k:Int)∧v=.slice A' l.length c'∧Hid (wr.ownsRow W.heap.size 5 1 (.slice A' l.length c') l.length (ab l))∧Hid (Below W.heap.size W wr)∧Hid (l=m8++(s.healths.take k).flatMap aL)) (fun _ i _=>s.healths.length-(intOf i).toNat)
   case atStart=>exact⟨0,m8,A8,c8,by omega,rfl,rfl,Ho8,Hw8,by simp[Hid]⟩
   case round =>
    obtain⟨k,l,A',c',hk,rfl,rfl,hown,hg,hlv⟩:=hrel;rename World=>wr
    have hll:l.length≤386000:=by
     have h1:=dR (enc:=aL) (N:=276) (s.healths.take k) fun z hz=>sg (HR.out.healths z (Iy hz))
     have h2:(s.healths.take k).length≤1024:=by rw[IJ];have:=HR.out.hl;omega
     rw[hlv.out,qq];omega
    have m1:w.heap.size<wr.heap.size:=IA l1 hg.out.size;have b5r:=(bg hg.out _ 2 l1).trans b5;by_cases hlt:k<s.healths.length
    ·have hltI:(k:Int)<(s.healths.length:Int):=by omega
     have hk0:(0:Int)≤(k:Int):=by omega
     obtain⟨b,o,hxh,hbB,hc⟩:=(HS.out.held.healths.below hg.out) (by omega);simp only at hxh;subst hxh;obtain⟨y,hy⟩:∃x,s.healths[k]?=some x:=⟨_,IB hlt⟩;have hym:y∈s.healths:=IF hy;have Hrg:=hid (hc k y hy);have hch:=HS.out.ch.1;have hyr:=HR.out.healths y hym;simp only[dW,IH,decide_eq_true_eq,bF] at hyr;have Hst:Hid (l++aL y=m8++(s.healths.take (k+1)).flatMap aL):=by show _=_;rw[gM _ s.healths hy,hlv.out,IG]
     clear hc hy hym;obtain⟨x1,y1,X1,Y1,T1,B1,L1⟩:=ei wr 115 (aF j5) (aF y) rfl;rw[iJ] at X1;have HB1:Hid (Below W.heap.size W y1):=hg.out.trans (L1.out.mono hg.out.size);have Ho1:=hid (an hown.out L1.out);go_upto_region 16 with (first
      |((with_reducible refine aB 115 ?_);refine aa (by rfl) 115 (.tmp 67) rfl b (o+k*3) rfl (aF y) _ Hrg.out dQ rfl (dG y) ?_)
      |(rw[←X1.out];(with_reducible refine aR 115 ?_);refine wpList_store_mid rfl 115 (.tmp 7) (.tmp 68) rfl wr.heap.size 0 (aF y).toArray rfl rfl T1.out (by rw[IN];exact dG y) (gL _) ?_))
     rw[←Y1.out];have e3:y1.cell? ⟨wr.heap.size,0,none⟩=some (.string ⟨y.name.toArray⟩):=B1.out.cell 0;obtain⟨rn,hrn⟩:∃n:Nat,y.run=(n:Int):=⟨y.run.toNat,by omega⟩;have rnl:rn≤99:=by omega
     have Hyb:Hid (aL y=bw y.name++(ea y.down++aC rn)):=by
      show _=_
      unfold aL;rw[hrn];rfl
     have htl:=cZ (x:=y.name) (by omega);have hnl:y.name.length≤255:=hyr.1;have Hbz:Hid (W.heap.size≤y1.heap.size):=HB1.out.size;clear X1 Y1 T1 Hrg hown hg hyr b5r m1
     go_wp2_with fail
     refine (iz W.heap.size A' c' l y.name y1 Hbz.out Ho1.out (by omega) (by omega)).mono ?_;rintro e w2 ⟨A2,c2,rfl,hown2,hg2⟩;obtain⟨l2,hl2⟩:∃m,m=l++bw y.name:=⟨_,rfl⟩;have Hl2:=hid hl2;have hl2l:l2.length≤386500:=by rw[hl2,qq];omega
     rw[←hl2] at hown2 ⊢;have Hg2:=hid hg2;have Ho2:=hid hown2;have hB2:W.heap.size≤w2.heap.size+1:=by have:=IC Hbz.out hg2.size;omega
     have e4:w2.cell? ⟨wr.heap.size,1,none⟩=some (.bool y.down):=(hg2.box B1.out (by decide) 1).trans (B1.out.cell 1);clear hl2 hown2 hg2 e3 Ho1;rcases hd:y.down with _|_
     ·rw[hd] at e4 Hyb
      clear hd;go_upto_region 20 with (at_builtin;refine ae _ rfl (.tmp 78) (.tmp 79) 43 rfl W.heap.size 5 i0 (.int .u8 0) 1 Iz hi0 hz0 hz1 hz2 rfl (.slice A2 l2.length c2) l2 rfl (an Ho2.out ((Below.refl _ _).alloc (IE _) _)) _ (some ⟨w2.heap.size,0,none⟩) 1 1 [0] rfl rfl (BS.one' w2 0 _ rfl _) (by simp;unfold maxLen;omega) (by simp;omega) (by rw[show (w2.alloc _).heap.size=w2.heap.size+1 by simp];omega) ?_;intro A3 c3 w3 hown3 hg3 _)
      have Hg3:Hid (GU W.heap.size y1 w3):=Hg2.out.trans ((GU.alloc w2 _).trans (IM (an Ho2.out ((Below.refl _ _).alloc (IE _) _)) hg3));have Ho3:=hid hown3;have e5:w3.cell? ⟨wr.heap.size,2,none⟩=some (.int .i64 (rn:Int)):=by rw[Hg3.out.box B1.out (by decide) 2];have:=B1.out.cell 2;rw[this];show some (zv y.run)=_;rw[hrn];rfl
      obtain⟨l3,hl3⟩:∃m,m=l2++[0]:=⟨_,rfl⟩;have hl3l:l3.length≤386600:=by rw[hl3];simp;omega
      have hl3e:l2.length+1=l3.length:=by rw[hl3];simp
      rw[←hl3] at Ho3;have Hl3:=hid hl3;have Hbz3:Hid (W.heap.size≤w3.heap.size):=IC Hbz.out Hg3.out.size;clear hown3 hg3 hl3 e4 Ho2 Hg2 hrn
      try rw[hl3e]
      clear hl3e
      go_wp2_with fail
      refine (gg W.heap.size A3 c3 l3 rn w3 Hbz3.out Ho3.out (by omega) (by omega)).mono ?_;rintro e w4 ⟨A4,c4,rfl,hown4,hg4⟩;have hle:l3++aC rn=l++aL y:=by rw[Hl3.out,Hl2.out,Hyb.out];simp[ea]
      rw[hle] at hown4 ⊢;have Hbu:Hid (Below W.heap.size W w4):=HB1.out.trans ((Hg3.out.trans hg4).below Hbz.out);have Hou:=hid hown4;clear hown4 hg4 hle e5
      go_wp2
      go_roundw
      case rel=>exact⟨k+1,_,A4,c4,by omega,by go_num,by simp,Hou,Hbu,Hst⟩
      case measure=>simp[intOf];omega
     ·rw[hd] at e4 Hyb
      clear hd;go_upto_region 20 with (at_builtin;refine ae _ rfl (.tmp 75) (.tmp 76) 43 rfl W.heap.size 5 i0 (.int .u8 0) 1 Iz hi0 hz0 hz1 hz2 rfl (.slice A2 l2.length c2) l2 rfl (an Ho2.out ((Below.refl _ _).alloc (IE _) _)) _ (some ⟨w2.heap.size,0,none⟩) 1 1 [1] rfl rfl (BS.one' w2 1 _ rfl _) (by simp;unfold maxLen;omega) (by simp;omega) (by rw[show (w2.alloc _).heap.size=w2.heap.size+1 by simp];omega) ?_;intro A3 c3 w3 hown3 hg3 _)
      have Hg3:Hid (GU W.heap.size y1 w3):=Hg2.out.trans ((GU.alloc w2 _).trans (IM (an Ho2.out ((Below.refl _ _).alloc (IE _) _)) hg3));have Ho3:=hid hown3;have e5:w3.cell? ⟨wr.heap.size,2,none⟩=some (.int .i64 (rn:Int)):=by rw[Hg3.out.box B1.out (by decide) 2];have:=B1.out.cell 2;rw[this];show some (zv y.run)=_;rw[hrn];rfl
      obtain⟨l3,hl3⟩:∃m,m=l2++[1]:=⟨_,rfl⟩;have hl3l:l3.length≤386600:=by rw[hl3];simp;omega
      have hl3e:l2.length+1=l3.length:=by rw[hl3];simp
      rw[←hl3] at Ho3;have Hl3:=hid hl3;have Hbz3:Hid (W.heap.size≤w3.heap.size):=IC Hbz.out Hg3.out.size;clear hown3 hg3 hl3 e4 Ho2 Hg2 hrn
      try rw[hl3e]
      clear hl3e
      go_wp2_with fail
      refine (gg W.heap.size A3 c3 l3 rn w3 Hbz3.out Ho3.out (by omega) (by omega)).mono ?_;rintro e w4 ⟨A4,c4,rfl,hown4,hg4⟩;have hle:l3++aC rn=l++aL y:=by rw[Hl3.out,Hl2.out,Hyb.out];simp[ea]
      rw[hle] at hown4 ⊢;have Hbu:Hid (Below W.heap.size W w4):=HB1.out.trans ((Hg3.out.trans hg4).below Hbz.out);have Hou:=hid hown4;clear hown4 hg4 hle e5
      go_wp2
      go_roundw
      case rel=>exact⟨k+1,_,A4,c4,by omega,by go_num,by simp,Hou,Hbu,Hst⟩
      case measure=>simp[intOf];omega
    have hltI:¬(k:Int)<(s.healths.length:Int):=by omega
    obtain⟨m9,hm9⟩:∃m,m=m8++s.healths.flatMap aL:=⟨_,rfl⟩;have He:Hid (l=m9):=by show _=_;rw[hm9,hlv.out,ID (by omega)]
    have Hm9:=hid hm9;obtain rfl:=He.out;have b6r:=(bg hg.out _ 3 l1).trans b6;have hfl:=HR.out.fl;clear hm9 He hlv hlt
    go_wp2_with fail
    refine (gg W.heap.size A' c' l s.flows.length wr hg.out.size hown.out (by omega) (by omega)).mono ?_;rintro e w8 ⟨A10,c10,rfl,hown10,hg10⟩;obtain⟨m10,hm10⟩:∃m,m=l++aC s.flows.length:=⟨_,rfl⟩;have Hm10:=hid hm10;have hm10l:m10.length≤386010:=by rw[hm10,qq];have:=aO (n:=s.flows.length) (by omega);omega
    rw[←hm10] at hown10 ⊢;have Hw10:=hid (hg.out.trans (hg10.below hg.out.size));have Ho10:=hid hown10;clear hm10 hown10 hg10 hown hg b5r b6r m1
    go_wp2
    go_loopw [3,8] (fun v i wr=>∃(k:Nat) (l:List UInt8) (A':Option Addr) (c':Nat),k≤s.flows.length∧i=.int .i64 (k:Int)∧v=.slice A' l.length c'∧Hid (wr.ownsRow W.heap.size 5 1 (.slice A' l.length c') l.length (ab l))∧Hid (Below W.heap.size W wr)∧Hid (l=m10++(s.flows.take k).flatMap bR)) (fun _ i _=>s.flows.length-(intOf i).toNat)
    case atStart=>exact⟨0,m10,A10,c10,by omega,rfl,rfl,Ho10,Hw10,by simp[Hid]⟩
    case round =>
     obtain⟨k2,l2,A2,c2,hk2,rfl,rfl,hown,hg,hlv⟩:=hrel;rename World=>wq
     have hll2:l2.length≤804000:=by
      have h1:=dR (enc:=bR) (N:=102) (s.flows.take k2) fun z hz=>xe (HS.out.ok.flows z (Iy hz)) (HR.out.flows z (Iy hz))
      have h2:(s.flows.take k2).length≤4096:=by rw[IJ];have:=HR.out.fl;omega
      rw[hlv.out,qq];omega
     have m1:w.heap.size<wq.heap.size:=IA l1 hg.out.size;have b6r:=(bg hg.out _ 3 l1).trans b6;by_cases hlt2:k2<s.flows.length
     ·have hltJ:(k2:Int)<(s.flows.length:Int):=by omega
      have hk02:(0:Int)≤(k2:Int):=by omega
      obtain⟨b,o,hxf,hbB,hc⟩:=(HS.out.held.flows.below hg.out) (by omega);simp only at hxf;subst hxf;obtain⟨y,hy⟩:∃x,s.flows[k2]?=some x:=⟨_,IB hlt2⟩;have hym:y∈s.flows:=IF hy;have Hrg:=hid (hc k2 y hy);have hcf:=HS.out.cf.1;have hyr:=HR.out.flows y hym;have hyk:=HS.out.ok.flows y hym;have Hyk:=hid hyk;have hkn:dC y.key=true:=by simp only[du,IH] at hyr;exact hyr.1
      have hnl:y.name.length≤24:=by simp only[du,IH] at hyr;exact jl hyr.2.1
      simp only[du,IH,bF] at hyr;obtain⟨f1,hf1⟩:∃n:Nat,y.state=(n:Int):=⟨y.state.toNat,by omega⟩;obtain⟨f2,hf2⟩:∃n:Nat,y.seen=(n:Int):=⟨y.seen.toNat,by omega⟩;obtain⟨f3,hf3⟩:∃n:Nat,y.no=(n:Int):=⟨y.no.toNat,by omega⟩;have hf1l:f1≤5:=by omega
      have hf2l:f2≤1099511627776:=by omega
      have hf3l:f3≤1152921504606846976:=by omega
      have Hst:Hid (l2++bR y=m10++(s.flows.take (k2+1)).flatMap bR):=by
       show _=_
       rw[gM _ s.flows hy,hlv.out,IG]
      have Hfb:Hid (bR y=aZ y.key++(bw y.name++(aC f1++(aC f2++aC f3)))):=by show _=_;simp[bR,hf1,hf2,hf3]
      have Htl:=hid (jB hyk);have Hfz:=hid (iu hyk);clear hc hy hym hyr;obtain⟨x1,y1,X1,Y1,T1,B1,L1⟩:=ei wq 120 (aw jX) (aw y) (by rw[ib hyk];rfl);rw[jo] at X1;have HB1:Hid (Below W.heap.size W y1):=hg.out.trans (L1.out.mono hg.out.size);have Ho1:=hid (an hown.out L1.out);go_upto_region 26 with (first
       |((with_reducible refine aB 120 ?_);refine aa (by rfl) 120 (.tmp 100) rfl b (o+k2*41) rfl (aw y) _ Hrg.out bI rfl Hfz.out ?_)
       |(rw[←X1.out];(with_reducible refine aR 120 ?_);refine wpList_store_mid rfl 120 (.tmp 9) (.tmp 101) rfl wq.heap.size 0 (aw y).toArray rfl rfl T1.out (by rw[IN];exact Hfz.out) (ij _) ?_))
      rw[←Y1.out];have hBy:W.heap.size≤y1.heap.size:=HB1.out.size;clear X1 Y1 T1 Hrg hown hg b6r m1 hyk
      go_wp2_with ((with_reducible refine aB 118 ?_);refine aa (by rfl) 118 (.tmp 103) rfl wq.heap.size 0 rfl (aM y.key) _ (fR Hyk.out B1.out) cI rfl (gK Hyk.out) ?_)
      refine (oG y.key Hyk.out hkn y1).mono ?_;rintro e w2 ⟨A3,c3,rfl,hown3,hb3⟩;have ho2:=hid (an Ho1.out hb3);have HB2:=hid (II hown3).1;have Hg2:Hid (GU W.heap.size y1 w2):=IS hb3;have hB2:W.heap.size≤w2.heap.size:=IC hBy hb3.size;obtain⟨tb,htb⟩:∃t,t=aZ y.key:=⟨_,rfl⟩;have Htb:=hid htb;rw[←htb] at Htl HB2 Hfb ⊢;have htl:tb.length≤38:=Nat.le_of_eq Htl.out;clear hown3 hb3 htb;go_upto_region 27 with (at_builtin;refine ae _ rfl _ _ 43 rfl W.heap.size 5 i0 (.int .u8 0) 1 Iz hi0 hz0 hz1 hz2 rfl (.slice A2 l2.length c2) l2 rfl ho2.out _ A3 _ c3 tb rfl rfl HB2.out (by unfold maxLen;omega) (by omega) hB2 ?_;intro A4 c4 w4 hown4 hg4 _)
      have Hg4:Hid (GU W.heap.size y1 w4):=Hg2.out.trans (IM ho2.out hg4);have Ho4:=hid hown4;have HB4:Hid (W.heap.size≤w4.heap.size):=IC hBy Hg4.out.size;have hl4:(l2++tb).length≤804100:=by rw[qq];omega
      clear hown4 hg4 ho2 Hg2 HB2;obtain⟨l3,hl3⟩:∃l,l=l2++tb:=⟨_,rfl⟩;have Hl3:=hid hl3;rw[←qq,←hl3];rw[←hl3] at Ho4 hl4;clear hl3 htl;have e4:w4.cell? ⟨wq.heap.size,37,none⟩=some (.string ⟨y.name.toArray⟩):=cj Hyk.out (Hg4.out.blk B1.out (by decide)) 0;have htx:=cZ (x:=y.name) (by omega)
      go_wp2_with fail
      refine (iz W.heap.size A4 c4 l3 y.name w4 HB4.out Ho4.out (by omega) (by omega)).mono ?_;rintro e w5 ⟨A5,c5,rfl,hown5,hg5⟩;obtain⟨l5,hl5⟩:∃m,m=l3++bw y.name:=⟨_,rfl⟩;have Hl5:=hid hl5;have hl5l:l5.length≤804500:=by rw[hl5,qq];omega
      rw[←hl5] at hown5 ⊢;have Hg5:=hid (Hg4.out.trans hg5);have Ho5:=hid hown5;have B5:=Hg5.out.blk B1.out (by decide);have e5:w5.cell? ⟨wq.heap.size,38,none⟩=some (.int .i64 (f1:Int)):=by rw[cj Hyk.out B5 1];show some (zv y.state)=_;rw[hf1];rfl
      have e6:w5.cell? ⟨wq.heap.size,39,none⟩=some (.int .i64 (f2:Int)):=by rw[cj Hyk.out B5 2];show some (zv y.seen)=_;rw[hf2];rfl
      have e7:w5.cell? ⟨wq.heap.size,40,none⟩=some (.int .i64 (f3:Int)):=by rw[cj Hyk.out B5 3];show some (zv y.no)=_;rw[hf3];rfl
      have HB5:Hid (W.heap.size≤w5.heap.size):=IC hBy Hg5.out.size;clear hl5 hown5 hg5 Hg4 Ho4 e4 hf1 hf2 hf3;go_upto_region 28 with fail
      have hK:∀v,GU W.heap.size w5 v→∀o,v.cell? ⟨wq.heap.size,o,none⟩=w5.cell? ⟨wq.heap.size,o,none⟩:=fun v h=>h.box B5 (by decide)
      refine Wz.start (S:=fun v=>GU W.heap.size w5 v) (GU.drew _) fun hH=>?_
      try simp only[IQ]
      refine zt 0 hK hH ?_;simp only[ld,lg,lf];refine zt 1 hK hH ?_;simp only[ld,lg,lf];refine zt 2 hK hH ?_;simp only[ld,lg,lf];refine zt 4 hK hH ?_;simp only[ld,lg,lf];refine zt 5 hK hH ?_;simp only[ld,lg,lf];refine zt 7 hK hH ?_;simp only[ld,lg,lf];refine zt 8 hK hH ?_;simp only[ld,lg,lf];refine one 3 (IK (gg W.heap.size A5 c5 l5 f1 _ (IC HB5.out hH.size) (an Ho5.out (Below.refl w5.heap.size w5).drew) (by omega) (by omega)) ?_);rintro e w6 ⟨A6,c6,rfl,hown6,hg6⟩;have hH6:=hH.trans hg6;refine⟨_,rfl,hH6,?_⟩;obtain⟨l6,hl6⟩:∃m,m=l5++aC f1:=⟨_,rfl⟩;have Hl6:=hid hl6;have hl6l:l6.length≤804510:=by rw[hl6,qq];have:=aO (n:=f1) (by omega);omega
      rw[←hl6] at hown6 ⊢;clear hl6;simp only[ld,lg,lf];refine one 6 (IK (gg W.heap.size A6 c6 l6 f2 w6 (IC HB5.out hH6.size) hown6 (by omega) (by omega)) ?_);rintro e w7 ⟨A7,c7,rfl,hown7,hg7⟩;have hH7:=hH6.trans hg7;refine⟨_,rfl,hH7,?_⟩;obtain⟨l7,hl7⟩:∃m,m=l6++aC f2:=⟨_,rfl⟩;have Hl7:=hid hl7;have hl7l:l7.length≤804520:=by rw[hl7,qq];have:=aO (n:=f2) (by omega);omega
      rw[←hl7] at hown7 ⊢;clear hl7;simp only[ld,lg,lf];refine one 9 (IK (gg W.heap.size A7 c7 l7 f3 w7 (IC HB5.out hH7.size) hown7 (by omega) (by omega)) ?_);rintro e w8 ⟨A8,c8,rfl,hown8,hg8⟩;have hH8:=hH7.trans hg8;refine⟨_,rfl,hH8,?_⟩;have hle:l7++aC f3=l2++bR y:=by rw[Hl7.out,Hl6.out,Hl5.out,Hl3.out,Hfb.out];simp only[IG]
      rw[hle] at hown8 ⊢;simp only[ld,lg,lf];refine zt 10 hK hH8 ?_;simp only[ld,lg,lf];refine IR ?_;have Hbu:Hid (Below W.heap.size W w8):=HB1.out.trans ((Hg5.out.trans hH8).below hBy);have Hou:=hid hown8;clear hH hH6 hH7 hH8 hown6 hown7 hown8 hg6 hg7 hg8 hle e5 e6 e7
      go_wp2
      go_roundw
      case rel=>exact⟨k2+1,_,A8,c8,by omega,by go_num,by simp,Hou,Hbu,Hst⟩
      case measure=>simp[intOf];omega
     have hltJ:¬(k2:Int)<(s.flows.length:Int):=by omega
     have He:Hid (l2=eF s):=by
      show _=_
      rw[Hnums.out,hlv.out,ID (by omega),Hm10.out,Hm9.out,Hm8.out,Hm7.out,Hm6.out,Hm5.out,Hm4.out,Hm3.out,Hm2.out];simp[eV]
     obtain rfl:=He.out;clear He
     go_wp2
     go_ret
     exact⟨A2,c2,rfl,bP hown.out HB.out.size,HB.out.trans (hg.out.mono HB.out.size)⟩
theorem EG(l:List UInt8)(h:l.length≤1048576):(dA l).length≤l.length+20:=by
 have h2:=cT l;have h3:=aO (n:=l.length) (by omega);omega
theorem qi{x:jY}{xs:List (ek×dI)}{s:cE}{w:World}(h:fk w w.heap.size x xs s)(hv:fE s=true) :
  Calls IP 17 #[.agg (av x s).toArray] w (uZ w (dB s)):=by
 obtain⟨i0,hi0,hz0,hz1,hz2⟩:=info_parts bB;obtain⟨W,hW⟩:∃W,W=w.alloc (.cells (av x s).toArray 40):=⟨_,rfl⟩;have HY:Hid (aj W w.heap.size 40 (av x s).toArray):=by rw[hW];exact aj.new w _ _ _ rfl
 have HB:Hid (Below w.heap.size w W):=by rw[hW];exact (Below.refl _ _).alloc (IE _) _
 have HS:=hid (h.on HB.out);have HW:=hid hW;have l1:w.heap.size<W.heap.size:=HY.out.lt;have Hsh:=hid h.sh;obtain⟨he,hsn,hfst,hlst⟩:=pw hv;have hE:=mn.1 he;have Hrc:=hid hE.conf;have Hsn:=hid hsn;obtain⟨fi,hfi⟩:∃n:Nat,s.first=(n:Int):=⟨s.first.toNat,by omega⟩;obtain⟨lo,hlo⟩:∃n:Nat,s.lost=(n:Int):=⟨s.lost.toNat,by omega⟩;have fil:fi≤1152921504606846976:=by omega
 have lol:lo≤1152921504606846976:=by omega
 have Hhd:Hid (da s=[119,97,121,49]++aC fi++aC lo++bM s.conf):=by
  show _=_
  unfold da kO;rw[hfi,hlo];simp
 have b0:W.cell? ⟨w.heap.size,54,none⟩=some (.int .i64 (fi:Int)):=by have:=fx Hsh.out HY.out 0;rw[this];show some (zv s.first)=_;rw[hfi];rfl
 have b1:W.cell? ⟨w.heap.size,55,none⟩=some (.int .i64 (lo:Int)):=by have:=fx Hsh.out HY.out 1;rw[this];show some (zv s.lost)=_;rw[hlo];rfl
 have Hcl:=hid (oB Hsh.out.conf hE.conf);have Hsl:=hid (zj Hsh.out.st hsn);clear hv he hsn hE hfst hlst hfi hlo hW h;go_enter Tryz.func17,Tryz.ntmps17
 go_upto_region 1 with fail
 rw[←HW.out];clear HW;go_upto_region 2 with fail
 obtain⟨W4,hW4⟩:∃V,V=W.alloc (.cells #[.int .u8 119,.int .u8 97,.int .u8 121,.int .u8 49] 5):=⟨_,rfl⟩;rw[←hW4];have Ho4:Hid (W4.ownsRow W.heap.size 5 1 (.slice (some ⟨W.heap.size,0,none⟩) 4 4) 4 (ab [119,97,121,49])):=by rw[hW4];exact Eh W [119,97,121,49] (by decide) _ rfl
 have HB4:Hid (Below W.heap.size W W4):=by rw[hW4];exact (Below.refl _ _).alloc (IE _) _
 have c0:=(bg HB4.out _ 54 l1).trans b0;have m1:w.heap.size<W4.heap.size:=IA l1 HB4.out.size;clear hW4 b0;have hncv:IntKind.u64.wrap (fi:Int)=(fi:Int):=IL _ (by omega)
 go_wp2_with fail
 refine (kh fi W4 (by omega)).mono ?_;rintro e w5 ⟨A5,c5,rfl,hown5,hb5⟩;have Ho5:=hid (an Ho4.out hb5);have HV5:=hid (II hown5).1;have HB5:=hid (HB4.out.trans (hb5.mono HB4.out.size));have hvl:=aO (n:=fi) (by omega);have hbz5:W.heap.size≤w5.heap.size:=HB5.out.size;clear hown5 hb5 c0 Ho4 HB4 m1 hncv;go_upto_region 3 with (at_builtin;refine ae _ rfl _ _ 43 rfl W.heap.size 5 i0 (.int .u8 0) 1 Iz hi0 hz0 hz1 hz2 rfl (.slice (some ⟨W.heap.size,0,none⟩) 4 4) [119,97,121,49] rfl Ho5.out _ A5 _ c5 (aC fi) rfl rfl HV5.out (by simp;unfold maxLen;omega) (by simp;omega) hbz5 ?_;intro A6 c6 w6 hown6 hg6 _)
 obtain⟨m6,hm6⟩:∃m:List UInt8,m=[119,97,121,49]++aC fi:=⟨_,rfl⟩;have hm6l:(aC fi).length+1+1+1+1=m6.length:=by rw[hm6];simp
 rw[←hm6] at hown6;rw[hm6l];have Hm6:=hid hm6;have hm6b:m6.length≤20:=by omega
 have HB6:=hid (HB5.out.grown hg6 hbz5 (fun k hk=>(jS Ho5.out k hk).1));have Ho6:=hid hown6;have c1:=(bg HB6.out _ 55 l1).trans b1;have m1:w.heap.size<w6.heap.size:=IA l1 HB6.out.size;clear hm6 hm6l hown6 hg6 hbz5 HB5 Ho5 HV5 hvl b1;have hncv:IntKind.u64.wrap (lo:Int)=(lo:Int):=IL _ (by omega)
 go_wp2_with fail
 refine (kh lo w6 (by omega)).mono ?_;rintro e w7 ⟨A7,c7,rfl,hown7,hb7⟩;have Ho7:=hid (an Ho6.out hb7);have HV7:=hid (II hown7).1;have HB7:=hid (HB6.out.trans (hb7.mono HB6.out.size));have hvl:=aO (n:=lo) (by omega);have hbz7:W.heap.size≤w7.heap.size:=HB7.out.size;clear hown7 hb7 c1 Ho6 HB6 m1 hncv;go_upto_region 4 with (at_builtin;refine ae _ rfl _ _ 43 rfl W.heap.size 5 i0 (.int .u8 0) 1 Iz hi0 hz0 hz1 hz2 rfl (.slice A6 m6.length c6) m6 rfl Ho7.out _ A7 _ c7 (aC lo) rfl rfl HV7.out (by unfold maxLen;omega) (by omega) hbz7 ?_;intro A8 c8 w8 hown8 hg8 _)
 obtain⟨m8,hm8⟩:∃m:List UInt8,m=m6++aC lo:=⟨_,rfl⟩;rw[←qq,←hm8];rw[←hm8] at hown8;have Hm8:=hid hm8;have hm8b:m8.length≤30:=by rw[hm8,qq];omega
 have HB8:=hid (HB7.out.grown hg8 hbz7 (fun k hk=>(jS Ho7.out k hk).1));have Ho8:=hid hown8;have HS8:=hid (HS.out.on HB8.out);have RF:=hid (jK Hsh.out (HY.out.below HB8.out l1));clear hm8 hown8 hg8 hbz7 HB7 Ho7 HV7 hvl
 go_wp2_with ((with_reducible refine aB 29 ?_);refine aa (by rfl) 29 (.tmp 18) rfl w.heap.size 0 rfl _ _ RF.out dV rfl (by rw[dD Hsh.out.conf];exact cB) ?_)
 refine (CB x.v x.cv s.conf Hsh.out.conf w8 HS8.out.cv.1 HS8.out.vs Hrc.out).mono ?_;rintro e w9 ⟨A9,c9,rfl,hown9,hb9⟩;obtain⟨cb,hcb⟩:∃m,m=bM s.conf:=⟨_,rfl⟩;rw[←hcb] at hown9 Hcl Hhd ⊢;have Ho9:=hid (an Ho8.out hb9);have HV9:=hid (II hown9).1;have HB9:=hid (HB8.out.trans (hb9.mono HB8.out.size));have hbz9:W.heap.size≤w9.heap.size:=HB9.out.size;have hcl:=Hcl.out;clear hown9 hb9 hcb Ho8 HB8 RF HS8;go_upto_region 5 with (at_builtin;refine ae _ rfl _ _ 43 rfl W.heap.size 5 i0 (.int .u8 0) 1 Iz hi0 hz0 hz1 hz2 rfl (.slice A8 m8.length c8) m8 rfl Ho9.out _ A9 _ c9 cb rfl rfl HV9.out (by unfold maxLen;omega) (by omega) hbz9 ?_;intro A10 c10 w10 hown10 hg10 _)
 obtain⟨m10,hm10⟩:∃m:List UInt8,m=m8++cb:=⟨_,rfl⟩;rw[←qq,←hm10];rw[←hm10] at hown10;have Hm10:Hid (m10=da s):=by show _=_;rw[hm10,Hm8.out,Hm6.out,Hhd.out]
 have hm10b:m10.length≤2030:=by rw[hm10,qq];omega
 have HB10:=hid (HB9.out.grown hg10 hbz9 (fun k hk=>(jS Ho9.out k hk).1));have Ho10:=hid hown10;obtain⟨sb,hsb⟩:∃m,m=eF s.st:=⟨_,rfl⟩;have Hsb:=hid hsb;have hsl:sb.length≤1000000:=by rw[hsb];exact Hsl.out
 have HP:=hid (fun u hu=>hsb▸CC x.st s.st u (HS.out.on hu).st Hsn.out);have hr1:=EG m10 (by omega);have hr2:=EG sb (by omega);have Hst:Hid (dA m10++dA sb=dB s):=by show _=_;rw[Hm10.out,hsb];rfl
 clear hm10 hown10 hg10 hbz9 HB9 Ho9 HV9 hcl hsb;refine Wh.start' HB10.out fun hH=>?_
 try simp only[IQ]
 have hH:=hH.out;have ho:=an Ho10.out (Below.refl w10.heap.size w10).drew;refine tw 0 hH ?_;simp only[ld,lg,lf];refine tw 2 hH ?_;simp only[ld,lg,lf];refine lw 3 hH (yieldsIf_load_mid rfl _ _ rfl w.heap.size 56 rfl (cU x.st s.st) _ (fun w' hS i c hc=>(bg hS _ _ l1).trans (k8 Hsh.out HY.out i c hc)) eB rfl (kS Hsh.out.st)) ?_;simp only[ld,lg,lf];refine one 1 ?_;refine IK (kZ A10 m10.length c10 m10 _ rfl (II ho).1 (by omega)) ?_;rintro e w14 ⟨A1,c1,rfl,hown1,hb1⟩;have hH4:=hH.trans (hb1.mono hH.size);refine⟨_,rfl,hH4,?_⟩;simp only[ld,lg,lf];refine one 4 ?_;refine IK (HP.out _ hH4) ?_;rintro e w15 ⟨A4,c4,rfl,hown4,hb4⟩;have hH5:=hH4.trans (hb4.mono hH4.size);refine⟨_,rfl,hH5,?_⟩;simp only[ld,lg,lf];refine one 5 ?_;refine IK (kZ A4 sb.length c4 sb w15 rfl (II hown4).1 (by omega)) ?_;rintro e wz ⟨A2,c2,rfl,hown2,hb2⟩;have hHz:=hH5.trans (hb2.mono hH5.size);have Hr2:=(II hown2).1;have Hr1:=an (an (bP hown1 hH.size) hb4) hb2;refine⟨_,rfl,hHz,?_⟩;simp only[ld,lg,lf];refine one 6 (On.op fun K hK=>?_);refine im _ _ _ 43 rfl W.heap.size 5 i0 (.int .u8 0) 1 Iz hi0 hz0 hz1 hz2 rfl _ (dA m10) rfl Hr1 _ A2 _ c2 (dA sb) rfl rfl Hr2 (by unfold maxLen;omega) (by omega) hHz.size ?_;intro A3 c3 w3 hown3 hg3 _;refine hK.out _ _ (hHz.grown hg3 hHz.size fun g hg=>(jS Hr1 g hg).1) fun hH3=>?_
 clear hK K;rw[Hst.out] at hown3 ⊢;simp only[ld,lg,lf];refine tw 7 hH3 ?_;simp only[ld,lg,lf];refine IR ?_;have HF:=hid (HB.out.trans (hH3.out.mono HB.out.size));have HO:=hid (bP hown3 HB.out.size);clear hH3 hown3 hg3 hHz Hr1 Hr2 hH hH4 hH5 ho hown1 hown2 hown4 hb1 hb2 hb4
 go_wp2
 go_ret
 exact⟨A3,c3,rfl,HO.out,HF.out⟩
theorem sD{x:jY}{xs:List (ek×dI)}{s:cE}{w:World}(h:fk w w.heap.size x xs s)(hs:iL s=true) :
  Calls IP 16 #[.agg (av x s).toArray] w (uZ w (cg s)):=by
 obtain⟨i0,hi0,hz0,hz1,hz2⟩:=info_parts bB;obtain⟨W,hW⟩:∃W,W=w.alloc (.cells (av x s).toArray 40):=⟨_,rfl⟩;have HY:Hid (aj W w.heap.size 40 (av x s).toArray):=by rw[hW];exact aj.new w _ _ _ rfl
 have HB:Hid (Below w.heap.size w W):=by rw[hW];exact (Below.refl _ _).alloc (IE _) _
 have HS:=hid (h.on HB.out);have HW:=hid hW;have l1:w.heap.size<W.heap.size:=HY.out.lt;have Hsh:=hid h.sh;have Hsz:=hid (fp (x:=x) h.sh);have RF:=hid (ag HY.out);have hxl:=h.len;have hv:fE s=true:=by simp only[iL,IH] at hs;exact hs.2
 have hall:∀p∈xs,aG p.2=true:=fun p hp=>by
  simp only[iL,IH,List.all_eq_true] at hs;exact hs.1 _ (by rw[HS.out.ev];exact List.mem_map_of_mem hp)
 have Hall:=hid hall;obtain⟨n,hn⟩:∃n,n=s.evs.length:=⟨_,rfl⟩;have hnx:Hid (n=xs.length):=by show _=_;rw[hn,hxl]
 have b0:W.cell? ⟨w.heap.size,73,none⟩=some (.slice x.e n x.ce):=by rw[hn];exact mq Hsh.out HY.out
 have hn1:n≤x.ce:=by rw[hn];exact HS.out.ce.1
 have hn2:n≤1000000:=by rw[hn];exact HS.out.ce.2
 have hfit:=mQ Hsh.out hv;obtain⟨hd,hhd⟩:∃m,m=dB s:=⟨_,rfl⟩;have Hput:Hid (cg s=hd++xs.flatMap (fun p=>cA p.2)):=by
  show _=_
  unfold cg;rw[hhd,HS.out.ev,List.flatMap_map]
 have HH:=hid (hhd▸qi HS.out hv);rw[←hhd] at hfit;obtain⟨L,hL⟩:∃L,L=hd.length:=⟨_,rfl⟩;have HL:=hid hL;rw[←hL] at hfit;clear hs hall hn hxl hW h hhd hv hL;go_enter Tryz.func16,Tryz.ntmps16
 go_upto_region 1 with fail
 rw[←HW.out];clear HW
 go_wp2_with ((with_reducible refine aB 40 ?_);refine aa (by rfl) 40 (.tmp 1) rfl w.heap.size 0 rfl _ _ RF.out aH rfl Hsz.out ?_)
 refine HH.out.mono ?_;rintro e w2 ⟨A2,c2,rfl,hown2,hb2⟩;have Hb2:=hid hb2;have Ho2:=hid hown2;clear hb2 hown2 HH RF
 go_wp2
 go_loopw [3,4] (fun v i wr=>∃(k:Nat) (l:List UInt8) (A':Option Addr) (c':Nat),k≤n∧i=.int .i64 (k:Int)∧v=.slice A' l.length c'∧Hid (wr.ownsRow W.heap.size 5 1 (.slice A' l.length c') l.length (ab l))∧Hid (Below W.heap.size W wr)∧Hid (l=hd++(xs.take k).flatMap (fun p=>cA p.2))) (fun _ i _=>n-(intOf i).toNat)
 case atStart=>exact⟨0,hd,A2,c2,by omega,rfl,rfl,Ho2,Hb2,by simp[Hid]⟩
 case round =>
  obtain⟨k,l,A',c',hk,rfl,rfl,hown,hg,hlv⟩:=hrel;rename World=>wr
  have r0:=(bg hg.out _ 73 l1).trans b0;have m1:w.heap.size<wr.heap.size:=IA l1 hg.out.size;by_cases hlt:k<n
  ·have hltI:(k:Int)<(n:Int):=by omega
   have hk0:(0:Int)≤(k:Int):=by omega
   obtain⟨b,o,hA,hbB,hc⟩:=(HS.out.evs.below hg.out) (by rw[←hnx.out];omega);obtain⟨p,hp⟩:∃p,xs[k]?=some p:=⟨_,IB (by rw[←hnx.out];exact hlt)⟩;have hpm:p∈xs:=IF hp;have Hrg:=hid (hc k p hp);have Hps:=hid (HS.out.shp hpm);have Hz:=hid (kz (p:=p) Hps.out);have hpr:=Hall.out p hpm;have hrl:=lK Hps.out hpr;have hbl:=gG Hps.out hpr;have Hpr:=hid hpr;have Hfr:=hid ((HS.out.on hg.out).fr p hpm).1;have Hst:Hid (l++cA p.2=hd++(xs.take (k+1)).flatMap (fun p=>cA p.2)):=by show _=_;rw[gM _ xs hp,hlv.out,IG]
   have hll:l.length≤1003000+k*200020:=by
    have h1:=dR (enc:=fun (p:ek×dI)=>cA p.2) (N:=200020) (xs.take k) fun q hq=>lK (HS.out.shp (Iy hq)) (Hall.out q (Iy hq))
    have h2:(xs.take k).length≤k:=by rw[IJ];omega
    have h3:=Nat.mul_le_mul_right 200020 h2;rw[hlv.out,qq,←HL.out];omega
   rw[hA] at r0;obtain⟨eb,heb⟩:∃m,m=bT p.2:=⟨_,rfl⟩;have her:cA p.2=dA eb:=by rw[heb];rfl
   rw[her] at Hst hrl;rw[←heb] at hbl;have HE:=hid (heb▸CD p.1.f p.1.cf p.1.o p.1.co p.2 Hps.out Hpr.out wr Hfr.out);clear hc hp hpm hpr hA b0 her heb
   go_wp2_with ((with_reducible refine aB 65 ?_);refine aa (by rfl) 65 (.tmp 18) rfl b (o+k*42) rfl (ky p) _ Hrg.out eh rfl Hz.out ?_)
   refine HE.out.mono ?_;rintro e w4 ⟨A4,c4,rfl,hown4,hg4⟩;have Ho4:=hid (an hown.out (hg4.below (IE _)));have HV4:=hid (II hown4).1;have HB4:=hid (hg.out.trans ((hg4.below (IE _)).mono hg.out.size));clear hown4 hg4 HE Hrg hown hg r0 m1
   go_wp2_with fail
   refine (kZ A4 eb.length c4 eb w4 rfl HV4.out (by omega)).mono ?_;rintro e w5 ⟨A5,c5,rfl,hown5,hb5⟩;have Ho5:=hid (an Ho4.out hb5);have HV5:=hid (II hown5).1;have HB5:=hid (HB4.out.trans (hb5.mono HB4.out.size));have hbz5:W.heap.size≤w5.heap.size:=HB5.out.size;obtain⟨er,her⟩:∃m,m=dA eb:=⟨_,rfl⟩;rw[←her] at HV5 Hst hrl ⊢;clear hown5 hb5 her Ho4 HB4 HV4
   go_wp2_with (at_builtin;refine ae _ rfl _ _ 43 rfl W.heap.size 5 i0 (.int .u8 0) 1 Iz hi0 hz0 hz1 hz2 rfl (.slice A' l.length c') l rfl Ho5.out _ A5 _ c5 er rfl rfl HV5.out (by unfold maxLen;omega) (by omega) hbz5 ?_;intro A6 c6 w6 hown6 hg6 _)
   have HB6:=hid (HB5.out.grown hg6 hbz5 (fun j hj=>(jS Ho5.out j hj).1));have Ho6:=hid hown6;clear hown6 hg6;go_roundw
   case rel=>exact⟨k+1,l++er,A6,c6,by omega,by go_num,by simp,Ho6,HB6,Hst⟩
   case measure=>simp[intOf];omega
  ·have hltI:¬(k:Int)<(n:Int):=by omega
   have He:Hid (l=cg s):=by show _=_;rw[Hput.out,hlv.out,ID (by rw[←hnx.out];omega)]
   obtain rfl:=He.out;clear He hlv
   go_wp2
   go_ret
   exact⟨A',c',rfl,bP hown.out HB.out.size,HB.out.trans (hg.out.mono HB.out.size)⟩
