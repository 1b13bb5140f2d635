import Derived.Test.YtaafkokfdgfabaaGreatP13
import Derived.Test.YtaafkokfdgfabaaGreatP19
import Derived.Test.YtaafkokfdgfabaaGreatP22
import Derived.Test.YtaafkokfdgfabaaGreatP31
import Derived.Test.YtaafkokfdgfabaaGreatP32
import Derived.ArgAppend
import Derived.Lib.SlBytesConst
set_option maxHeartbeats 8000000
set_option maxRecDepth 100000
set_option linter.unusedVariables false
set_option linter.unusedSimpArgs false
open And renaming intro→Jc
open Array renaming all_eq_true_iff_forall_mem→IK
open Bool renaming false_eq_true→IA,not_true→IB,and_eq_true→IH,not_false→IP,and_false→I8
open List renaming length_append→Iz,size_toArray→IC,getElem?_eq_getElem→IE,mem_of_getElem?→IL,getElem?_append_right→IS,getElem?_eq_some_iff→IT,append_assoc→IU,mem_append→IX,mem_of_mem_take→IY,mem_map_of_mem→I0,not_mem_nil→I3,mem_cons→I9
open Nat renaming lt_of_lt_of_le→IG,le_refl→II,zero_le→IM,reduceAdd→IV,mul_one→I6,lt_or_ge→Jb
namespace Go.Proofs.YtaafkokfdgfabaaGreat
open Go.RowKit
open Lib (hid)
open BS renaming of_own→IJ
open IntWalk renaming u64_in→I7
open Op renaming equalIn→IQ
open Result renaming andThen_ok→Iy,andThen→IZ
open Sd renaming done→Ja
open Sem renaming run_bind→ID
open Tryz renaming prog→qq,underlying43→IF,underlying118→IR,underlying9→IW,underlying27→I1,underlying5→I2,underlying3→I4,underlying4→I5
open Value renaming ownBlock→IN
theorem xd{b:aU}(h:au b)(hf:eu b=true):(aD b).length≤100:=by
 simp only[eu,IH] at hf;have h0:=jl hf.2.1;have h1:=aO (n:=b.name.length) (by omega);have h2:b.addr.2.length=16:=h.addr;have h3:=h.mac;simp only[aD,bw,Iz,cP,az,eR];omega
theorem sg{h:dq}(hr:dW h=true):(aL h).length≤276:=by
 simp only[dW,IH,decide_eq_true_eq,bF] at hr;have h1:=aO (n:=h.name.length) (by omega);have h2:=aO (n:=h.run.toNat) (by omega);have h3:=cP h.down;simp only[aL,bw,Iz];omega
theorem xe{f:dE}(hk:cy f.key)(hr:du f=true):(bR f).length≤102:=by
 simp only[du,IH,bF] at hr;have h0:=jl hr.2.1;have h1:=aO (n:=f.name.length) (by omega);have h2:=aO (n:=f.state.toNat) (by omega);have h3:=aO (n:=f.seen.toNat) (by omega);have h4:=aO (n:=f.no.toNat) (by omega);simp only[bR,bw,Iz,jB hk];omega
theorem zj{s:bA}(hs:iU s)(h:eM s=true):(eF s).length≤1000000:=by
 have hR:=pi h;have h1:=dR (enc:=aD) (N:=100) s.pool.backs fun b hb=>xd (hs.backs b hb) (hR.backs b hb)
 have h2:=dR (enc:=aL) (N:=276) s.healths fun b hb=>sg (hR.healths b hb)
 have h3:=dR (enc:=bR) (N:=102) s.flows fun b hb=>xe (hs.flows b hb) (hR.flows b hb)
 have h4:=gX (iy s) fun n hn=>by have:=tx hR n hn;omega
 have h5:=rQ hs.count;have a1:=hR.bl;have a2:=hR.hl;have a3:=hR.fl;have b1:=aO (n:=s.pool.backs.length) (by omega);have b2:=aO (n:=s.healths.length) (by omega);have b3:=aO (n:=s.flows.length) (by omega);simp only[eF,eV,Iz];omega
theorem pw{s:cE}(h:fE s=true):k7 s.conf s.st=true∧eM s.st=true∧(0≤s.first∧s.first≤1152921504606846976)∧0≤s.lost∧s.lost≤s.first:=by
 simpa only[fE,IH,bF] using h
theorem jS{w:World}{base:Nat}{e:TypeId}{size n:Nat}{v:Value}{xs:List Value}(h:w.ownsRow base e size v n xs):∀k,v.ownBlock=some k→base≤k∧k<w.heap.size:=by
 rcases h.2 with ⟨rfl,_⟩|⟨g,cap,cur,rfl,hb,hh,_⟩
 ·intro k hk;simp[IN] at hk
 ·intro k hk
  obtain rfl:g=k:=by simpa[IN] using hk
  exact⟨hb,(Array.getElem?_eq_some_iff.1 hh).1⟩
theorem jp{w w':World}{b:Nat}{e:TypeId}{s n:Nat}{v v':Value}{xs:List Value}(h:w.ownsRow b e s v n xs)(hv:∀k,v'.ownBlock=some k→k<b)(hg:w.grownBy w' v'.ownBlock):w'.ownsRow b e s v n xs:=by
 refine h.kept hg ?_;rcases ho:v.ownBlock with _|k
 ·exact .inl rfl
 ·refine .inr fun e=>?_
  have:=(jS h k ho).1;have:=hv k e.symm;omega
theorem Eh(w:World)(l:List UInt8)(hl:l.length≤1000)(cs:Array Value)(h:cs=(ab l).toArray):(w.alloc (.cells cs 5)).ownsRow w.heap.size 5 1 (.slice (some ⟨w.heap.size,0,none⟩) l.length l.length) l.length (ab l):=by
 subst h;have hx:aj (w.alloc (.cells (ab l).toArray 5)) w.heap.size 5 (ab l).toArray:=aj.new w _ _ _ rfl;have hlen:(ab l).length=l.length:=ap l;exact⟨by rw[hlen,I6],.inr ⟨w.heap.size,l.length,(ab l).toArray,rfl,II _,hx,II _,by unfold maxLen;omega,by rw[IC,hlen,I6],by rw[I6,←hlen,List.take_length]⟩⟩
theorem kU{x:jY}{xs:List (ek×dI)}{s:cE}{w:World}(h:fk w w.heap.size x xs s) :
  Calls qq 12 #[.agg (av x s).toArray] w (ix w (fE s) (dB s)):=by
 obtain⟨i0,hi0,hz0,hz1,hz2⟩:=info_parts bB;obtain⟨W,hW⟩:∃W,W=w.alloc (.cells (av x s).toArray 40):=⟨_,rfl⟩;have HY:Hid (aj W w.heap.size 40 (av x s).toArray):=by rw[hW];exact aj.new w _ _ _ rfl
 have HB:Hid (Below w.heap.size w W):=by rw[hW];exact (Below.refl _ _).alloc (II _) _
 have HS:=hid (h.on HB.out);have HW:=hid hW;have l1:w.heap.size<W.heap.size:=HY.out.lt;have Hsh:=hid h.sh;have Hsz:=hid (fp (x:=x) h.sh);clear hW h;go_enter Tryz.func12,Tryz.ntmps12
 go_upto_region 1 with fail
 rw[←HW.out];clear HW;refine Sd.plain ?_
 repeat ((first|refine sl (ag HY.out) l1 aH Hsz.out ?_|refine cl (fun u hu=>r6 (HS.out.on hu)) ?_|refine pt ?_);simp only[ld,lg,lf,IV])
 refine Ja fun w2 hb2=>?_
 have Hb2:=hid hb2;have Hw2:=hid (HB.out.trans (hb2.mono HB.out.size));clear hb2;rcases hv:fE s with _|_
 ·have Hv:=hid hv
  simp only[hv,IP];clear hv
  go_wp2
  go_ret2
  unfold ix;rw[Hv.out];exact⟨Hw2.out,fun _=>rfl,fun h=>(by cases h)⟩
 have Hbr:=hid hv;simp only[hv,IB];obtain⟨he,hsn,hfst,hlst⟩:=pw hv;have hE:=mn.1 he;have Hrc:=hid hE.conf;have Hsn:=hid hsn;obtain⟨fi,hfi⟩:∃n:Nat,s.first=(n:Int):=⟨s.first.toNat,by omega⟩;obtain⟨lo,hlo⟩:∃n:Nat,s.lost=(n:Int):=⟨s.lost.toNat,by omega⟩;have fil:fi≤1152921504606846976:=by omega
 have lol:lo≤1152921504606846976:=by omega
 have Hhd:Hid (da s=[119,97,121,49]++aC fi++aC lo++bM s.conf):=by
  show _=_
  unfold da kO;rw[hfi,hlo];simp
 have HY2:=hid (HY.out.below Hb2.out l1);have HS2:=hid (HS.out.on Hb2.out);have b0:w2.cell? ⟨w.heap.size,54,none⟩=some (.int .i64 (fi:Int)):=by have:=fx Hsh.out HY2.out 0;rw[this];show some (zv s.first)=_;rw[hfi];rfl
 have Hcl:=hid (oB Hsh.out.conf hE.conf);have Hsl:=hid (zj Hsh.out.st hsn);have l2:w.heap.size<w2.heap.size:=HY2.out.lt;have RF:=hid (jK Hsh.out HY2.out);have Hlo:=hid hlo;clear hv he hsn hE hfst hlst hfi hlo
 go_wp2_with ((with_reducible refine aB 29 ?_);refine aa (by rfl) 29 (.tmp 15) rfl w.heap.size 0 rfl _ _ RF.out dV rfl (by rw[dD Hsh.out.conf];exact cB) ?_)
 refine (Ee x.v s.conf.vips.length x.cv s.conf Hsh.out.conf w2 rfl HS2.out.cv.1 HS2.out.vs HS2.out.cv.2).mono ?_;rintro e w3 ⟨hb3,hno,hyes⟩;clear hno;obtain⟨Ac,cc,rfl,hownc⟩:=hyes Hrc.out;obtain⟨cb,hcb⟩:∃m,m=bM s.conf:=⟨_,rfl⟩;rw[←hcb] at hownc Hcl Hhd ⊢;have HC3:=hid (IJ hownc).1;have HB3:=hid (Hb2.out.trans (hb3.mono Hb2.out.size));have l3:=IG l2 hb3.size;have b0:w3.cell? ⟨w.heap.size,54,none⟩=some (.int .i64 (fi:Int)):=(bg hb3 _ _ l2).trans b0;clear hyes hcb hownc hb3 RF Hb2 Hw2;have hnc:(fi:Int)<18446744073709551616:=by omega
 have hncv:IntKind.u64.wrap (fi:Int)=(fi:Int):=I7 _ (by omega);have kc:=fun (w:World) (C:Array Value) (n c:Nat)=>Lib.run_convert_bytes_const (P:=qq) w 43 5 C n c IF I2
 go_wp2_with fail
 clear kc;obtain⟨W4,hW4⟩:∃V,V=w3.alloc (.cells #[.int .u8 119,.int .u8 97,.int .u8 121,.int .u8 49] 5 (4,5)):=⟨_,rfl⟩;rw[←hW4];have hb4:Below w3.heap.size w3 W4:=by rw[hW4];exact (Below.refl _ _).alloc (II _) _
 have hm4:W4.heap[w3.heap.size]?=some (.cells #[.int .u8 119,.int .u8 97,.int .u8 121,.int .u8 49] 5 (4,5)):=by rw[hW4];exact heap_alloc_new w3 _
 refine (oV fi W4 (by omega)).mono ?_;rintro e w5 ⟨A5,c5,rfl,hown5,hb5⟩;have hm5:w5.heap[w3.heap.size]?=some (.cells #[.int .u8 119,.int .u8 97,.int .u8 121,.int .u8 49] 5 (4,5)):=(hb5.block _ (by rw[hW4];simp)).trans hm4;have hvp:=iO fi;obtain⟨ad5,rfl,_,hc5⟩:=(IJ hown5).1 hvp;have Hb5:=hid (hb4.trans (hb5.mono hb4.size));have hvl:=aO (n:=fi) (by omega);have hbz:w3.heap.size≤w5.heap.size:=Hb5.out.size;have Hc5:Hid (∀j u,(ab (aC fi))[j]?=some u→w5.cell? (ad5.add j)=some u):=fun j u hj=>by
  rw[ab,List.getElem?_map] at hj;obtain⟨y,h1,rfl⟩:=Option.map_eq_some_iff.1 hj;exact hc5 j y h1
 have Ho5:Hid (∀b,(some ⟨w3.heap.size,0,none⟩:Option Addr)=some b→∀j u,(ab [119,97,121,49])[j]?=some u→w5.cell? (b.add j)=some u):=fun b hb j u hj=>by
  injection hb with hb
  subst hb;rw[show (⟨w3.heap.size,0,none⟩:Addr).add j=⟨w3.heap.size,j,none⟩ by unfold Addr.add;split<;>simp_all,cell_of_row w5 _ j _ _ (4,5) hm5];simpa[ab,mD] using hj
 clear hb4 hown5 hb5 hW4 hm4 hm5 hc5;go_upto_region 5 with (at_builtin;refine wpList_append_grows _ rfl _ _ 43 rfl 5 i0 (.int .u8 0) 1 1 IF hi0 hz0 hz1 hz2 rfl (by decide) (some ⟨w3.heap.size,0,none⟩) 4 4 (ab [119,97,121,49]) rfl (by intro h;cases h) rfl Ho5.out ad5 (aC fi).length c5 (ab (aC fi)) rfl (by rw[ap];omega) Hc5.out (eP _) (by omega) (by unfold maxLen;omega) (by omega) ?_;intro v6 w6 hown6 hg6)
 obtain⟨m6,hm6⟩:∃m:List UInt8,m=[119,97,121,49]++aC fi:=⟨_,rfl⟩;have hm6l:m6.length=4+(aC fi).length:=by rw[hm6];simp;omega
 rw[←dL,←hm6,←hm6l] at hown6;obtain⟨A6,c6,rfl,_⟩:=cw hown6;have HB6:=hid (Hb5.out.grown hg6 Hb5.out.size (by simp));have HO6:=hid (bP hown6 hbz);have hm6b:m6.length≤20:=by omega
 have HM6:=hid hm6;have b1:w6.cell? ⟨w.heap.size,55,none⟩=some (.int .i64 (lo:Int)):=by
  have h1:=fx Hsh.out HY.out 1;have h2:w6.cell? ⟨w.heap.size,55,none⟩=w3.cell? ⟨w.heap.size,55,none⟩:=bg HB6.out _ _ l3;have h3:w3.cell? ⟨w.heap.size,55,none⟩=W.cell? ⟨w.heap.size,55,none⟩:=bg HB3.out _ _ l1;rw[h2,h3,h1];show some (zv s.lost)=_
  rw[Hlo.out];rfl
 have hbz6:w3.heap.size≤w6.heap.size:=HB6.out.size;clear hown6 hg6 hm6 hm6l Hc5 Ho5 Hb5 hvl b0 hvp hbz;have hnc2:(lo:Int)<18446744073709551616:=by omega
 have hncv2:IntKind.u64.wrap (lo:Int)=(lo:Int):=I7 _ (by omega)
 go_wp2_with fail
 refine (oV lo w6 (by omega)).mono ?_;rintro e w7 ⟨A7,c7,rfl,hown7,hb7⟩;have HO7:=hid (an HO6.out hb7);have HV7:=hid (IJ hown7).1;have HB7:=hid (HB6.out.trans (hb7.mono hbz6));have hvl:=aO (n:=lo) (by omega);have hbz7:w3.heap.size≤w7.heap.size:=HB7.out.size;clear hown7 hb7 HB6 HO6 b1;go_upto_region 6 with (at_builtin;refine ae _ rfl _ _ 43 rfl w3.heap.size 5 i0 (.int .u8 0) 1 IF hi0 hz0 hz1 hz2 rfl (.slice A6 m6.length c6) m6 rfl HO7.out _ A7 _ c7 (aC lo) rfl rfl HV7.out (by unfold maxLen;omega) (by omega) hbz7 ?_;intro A8 c8 w8 hown8 hg8 _)
 obtain⟨m8,hm8⟩:∃m:List UInt8,m=m6++aC lo:=⟨_,rfl⟩;rw[←Iz,←hm8];rw[←hm8] at hown8;have HB8:=hid (HB7.out.grown hg8 HB7.out.size (fun k hk=>(jS HO7.out k hk).1));have HO8:=hid hown8;have hm8b:m8.length≤30:=by rw[hm8,Iz];omega
 have HM8:=hid hm8;have hbz8:w3.heap.size≤w8.heap.size:=HB8.out.size;have HY8:=hid ((HY.out.below HB3.out l1).below HB8.out l3);have HS8:Hid (fk w8 w8.heap.size x xs s):=(HS.out.on HB3.out).on HB8.out;have RF:=hid (k8 Hsh.out HY8.out);clear hown8 hg8 hm8 HB7 HO7 HV7 hvl hbz7
 go_wp2_with ((with_reducible refine aB 37 ?_);refine aa (by rfl) 37 (.tmp 34) rfl w.heap.size 56 rfl _ _ RF.out eB rfl (kS Hsh.out.st) ?_)
 refine (wM x.st s.st w8 HS8.out.st).mono ?_;rintro e w9 ⟨hb9,hno,hyes⟩;obtain⟨A9,c9,rfl,hown9⟩:=hyes Hsn.out;clear hno hyes RF HS8 HY8;obtain⟨sb,hsb⟩:∃m,m=eF s.st:=⟨_,rfl⟩;rw[←hsb] at hown9 Hsl ⊢;have Hsb:=hid hsb;have HO9:=hid (an HO8.out hb9);have hkk:=fun k hk=>(jS HO8.out k hk).2
 have HB9:=hid (HB8.out.trans (hb9.mono hbz8));have HQ9:=hid hown9;have HC9:=hid (HC3.out.below HB9.out);have hbz9:w3.heap.size≤w9.heap.size:=HB9.out.size;have hcl:=Hcl.out;clear hown9 hb9 hsb HB8 HO8
 go_wp2_with (at_builtin;refine ae _ rfl _ _ 43 rfl w3.heap.size 5 i0 (.int .u8 0) 1 IF hi0 hz0 hz1 hz2 rfl (.slice A8 m8.length c8) m8 rfl HO9.out _ Ac _ cc cb rfl rfl HC9.out (by unfold maxLen;omega) (by omega) hbz9 ?_;intro A10 c10 w10 hown10 hg10 _)
 obtain⟨m10,hm10⟩:∃m:List UInt8,m=m8++cb:=⟨_,rfl⟩;rw[←Iz,←hm10];rw[←hm10] at hown10;have hq10:=jp HQ9.out hkk hg10;have hB10:=HB9.out.grown hg10 hbz9 (fun k hk=>(jS HO9.out k hk).1);have hm10e:m10=da s:=by rw[hm10,HM8.out,HM6.out,Hhd.out]
 have hm10b:m10.length≤2030:=by rw[hm10,Iz];omega
 obtain⟨W11,hW11⟩:∃V,V=w10.alloc (.cells #[.slice A10 m10.length c10,.slice A9 sb.length c9] 43):=⟨_,rfl⟩;rw[←hW11];have hb11:Below w10.heap.size w10 W11:=by rw[hW11];exact (Below.refl _ _).alloc (II _) _
 have hx11:aj W11 w10.heap.size 43 #[.slice A10 m10.length c10,.slice A9 sb.length c9]:=by rw[hW11];exact aj.new w10 _ _ _ rfl
 have hbs1:=((IJ hown10).1.below hb11).more hb11.size;have hbs2:=((IJ hq10).1.below hb11).more hb11.size;have hLS:LS W11 W11.heap.size (some ⟨w10.heap.size,0,none⟩) [m10,sb]:=fun _=>by
  refine⟨_,rfl,hx11.lt,fun j l hj=>?_⟩;rw[show (⟨w10.heap.size,0,none⟩:Addr).add j=⟨w10.heap.size,j,none⟩ by unfold Addr.add;split<;>simp_all,hx11.cell];match j,hj with
  |0,hj=>injection hj with hj;subst hj;exact⟨A10,c10,rfl,jb hown10,hbs1⟩
  |1,hj=>injection hj with hj;subst hj;exact⟨A9,c9,rfl,jb hq10,hbs2⟩
 have hrow:nU [m10,sb]:=by
  intro l hl;simp only[I9,I3,or_false] at hl;rcases hl with rfl|rfl
  ·omega
  ·have:=Hsl.out;omega
 have hsl:=Hsl.out;refine (Fn (some ⟨w10.heap.size,0,none⟩) 2 2 [m10,sb] W11 rfl hLS (by decide) (by simp[room];omega)).mono ?_;rintro e w12 (⟨_,A12,c12,rfl,hown12,hb12⟩|⟨hbad,_⟩);rotate_left
 ·exact (hbad hrow).elim
 have hres:oq [m10,sb]=dB s:=by rw[hm10e,Hsb.out];simp[oq,dB]
 rw[hres] at hown12 ⊢;have hB11:=hB10.trans (hb11.mono hB10.size);have HF:Hid (Below w.heap.size w w12):=by
  have h1:=hB11.trans (hb12.mono hB11.size);have h2:=HB3.out.trans (h1.mono HB3.out.size);exact HB.out.trans (h2.mono HB.out.size)
 have HO12:Hid (w12.ownsRow w.heap.size 5 1 (.slice A12 (dB s).length c12) (dB s).length (ab (dB s))):=bP hown12 (by have:=hB11.size;omega);clear hres hB11 hbs1 hbs2 hLS hrow hx11 hb11 hB10 hq10 hown10 hg10 hown12 hb12 hm10e hm10b hm10 hkk
 go_wp2
 go_ret2
 unfold ix;rw[Hbr.out];exact⟨HF.out,fun h=>(by cases h),fun _=>⟨A12,c12,rfl,HO12.out⟩⟩
theorem mQ{s:cE}(hs:bV s)(h:fE s=true):(dB s).length≤1003000:=by
 obtain⟨he,hsn,hf,hl⟩:=pw h;have h1:=oB hs.conf (mn.1 he).conf;have h2:=zj hs.st hsn;have h3:=aO (n:=s.first.toNat) (by omega);have h4:=aO (n:=s.lost.toNat) (by omega);have h5:=cT (da s);have h6:=cT (eF s.st);have h7:(da s).length≤2030:=by simp only[da,kO,Iz,List.length_cons,List.length_nil];omega
 have h8:=aO (n:=(da s).length) (by omega);have h9:=aO (n:=(eF s.st).length) (by omega);simp only[dB,Iz];omega
theorem lK{e:dI}(h:aP e)(hr:aG e=true):(cA e).length≤200020:=by
 have h1:=gG h hr;have h2:=cT (bT e);have h3:=aO (n:=(bT e).length) (by omega);unfold cA;omega
theorem mr{x:jY}{xs:List (ek×dI)}{s:cE}{w:World}(h:fk w w.heap.size x xs s) :
  Calls qq 11 #[.agg (av x s).toArray] w (ix w (iL s) (cg s)):=by
 obtain⟨i0,hi0,hz0,hz1,hz2⟩:=info_parts bB;obtain⟨W,hW⟩:∃W,W=w.alloc (.cells (av x s).toArray 40):=⟨_,rfl⟩;have HY:Hid (aj W w.heap.size 40 (av x s).toArray):=by rw[hW];exact aj.new w _ _ _ rfl
 have HB:Hid (Below w.heap.size w W):=by rw[hW];exact (Below.refl _ _).alloc (II _) _
 have HS:=hid (h.on HB.out);have HW:=hid hW;have l1:w.heap.size<W.heap.size:=HY.out.lt;have Hsh:=hid h.sh;have Hsz:=hid (fp (x:=x) h.sh);have RF:=hid (ag HY.out);have hxl:=h.len;clear hW h;go_enter Tryz.func11,Tryz.ntmps11
 go_upto_region 1 with fail
 rw[←HW.out];clear HW
 go_wp2_with ((with_reducible refine aB 40 ?_);refine aa (by rfl) 40 (.tmp 1) rfl w.heap.size 0 rfl _ _ RF.out aH rfl Hsz.out ?_)
 refine (kU HS.out).mono ?_;rintro e w2 ⟨hb2,hno,hyes⟩;have Hw2:=hid (HB.out.trans (hb2.mono HB.out.size));rcases hv:fE s with _|_
 ·obtain rfl:=hno hv
  have Hr:Hid (iL s=false):=by show _=_;unfold iL;rw[hv];simp
  clear hno hyes hb2 hv
  go_wp2
  go_ret2
  unfold ix;rw[Hr.out];exact⟨Hw2.out,fun _=>rfl,fun h=>(by cases h)⟩
 obtain⟨A2,c2,rfl,hown2⟩:=hyes hv;have hfit:=mQ Hsh.out hv;obtain⟨hd,hhd⟩:∃m,m=dB s:=⟨_,rfl⟩;rw[←hhd] at hown2 hfit ⊢;have Hhd:=hid hhd;have Hb2:=hid hb2;have Ho2:=hid hown2;have HY2:=hid (HY.out.below hb2 l1);have Hv:=hid hv;have l2:w.heap.size<w2.heap.size:=HY2.out.lt;clear hno hyes hb2 hown2 hhd hv;go_upto_region 2 with fail
 refine Sd.plain ?_
 repeat ((first|refine po ?_|refine gs (ag HY2.out) l2 aH Hsz.out ?_|refine gc (fun u hu=>iY ((HS.out.on Hb2.out).on hu)) ?_|refine gp ?_|refine pt ?_);simp only[ld,lg,lf,IV])
 refine Ja fun w3 hb3=>?_
 have HB3:=hid (Hb2.out.trans (hb3.mono Hb2.out.size));have Hw3:Hid (Below w.heap.size w w3):=HB.out.trans (HB3.out.mono HB.out.size);have Ho3:=hid (an Ho2.out hb3);clear hb3 Ho2 HY2 Hb2;rcases hs:iL s with _|_
 ·have Hr:=hid hs
  simp only[hs,IP,Bool.or_true];clear hs
  go_wp2
  go_ret2
  unfold ix;rw[Hr.out];exact⟨Hw3.out,fun _=>rfl,fun h=>(by cases h)⟩
 simp only[hs,IB,Bool.or_false];have Hr:=hid hs;have hall:∀p∈xs,aG p.2=true:=fun p hp=>by
  simp only[iL,IH,List.all_eq_true] at hs;exact hs.1 _ (by rw[HS.out.ev];exact I0 hp)
 have Hall:=hid hall;obtain⟨n,hn⟩:∃n,n=s.evs.length:=⟨_,rfl⟩;have hnx:Hid (n=xs.length):=by show _=_;rw[hn,hxl]
 have b0:w3.cell? ⟨w.heap.size,73,none⟩=some (.slice x.e n x.ce):=by rw[hn];exact (bg HB3.out _ _ l1).trans (mq Hsh.out HY.out)
 have hn1:n≤x.ce:=by rw[hn];exact HS.out.ce.1
 have hn2:n≤1000000:=by rw[hn];exact HS.out.ce.2
 have Hput:Hid (cg s=hd++xs.flatMap (fun p=>cA p.2)):=by
  show _=_
  unfold cg;rw[Hhd.out,HS.out.ev,List.flatMap_map]
 obtain⟨L,hL⟩:∃L,L=hd.length:=⟨_,rfl⟩;have HL:=hid hL;rw[←hL] at hfit;clear hs hall hn hxl hL
 go_wp2
 go_loopw [4,25] (fun v i wr=>∃(k:Nat) (l:List UInt8) (A':Option Addr) (c':Nat),k≤n∧i=.int .i64 (k:Int)∧v=.slice A' l.length c'∧Hid (wr.ownsRow W.heap.size 5 1 (.slice A' l.length c') l.length (ab l))∧Hid (Below W.heap.size W wr)∧Hid (l=hd++(xs.take k).flatMap (fun p=>cA p.2))) (fun _ i _=>n-(intOf i).toNat)
 case atStart=>exact⟨0,hd,A2,c2,by omega,rfl,rfl,Ho3,HB3,by simp[Hid]⟩
 case round =>
  obtain⟨k,l,A',c',hk,rfl,rfl,hown,hg,hlv⟩:=hrel;rename World=>wr
  by_cases hlt:k<n
  ·have hltI:(k:Int)<(n:Int):=by omega
   have hk0:(0:Int)≤(k:Int):=by omega
   obtain⟨b,o,hA,hbB,hc⟩:=(HS.out.evs.below hg.out) (by rw[←hnx.out];omega);obtain⟨p,hp⟩:∃p,xs[k]?=some p:=⟨_,IE (by rw[←hnx.out];exact hlt)⟩;have hpm:p∈xs:=IL hp;have Hrg:=hid (hc k p hp);have Hps:=hid (HS.out.shp hpm);have Hz:=hid (kz (p:=p) Hps.out);have hpr:=Hall.out p hpm;have hrl:=lK Hps.out hpr;have Hpr:=hid hpr;obtain⟨x1,y1,X1,Y1,T1,B1,L1⟩:=ei wr 65 (bh none 0 0 none 0 0 mZ) (ky p) (by rw[nB Hps.out];rfl);rw[kL] at X1;have HB1:Hid (Below W.heap.size W y1):=hg.out.trans (L1.out.mono hg.out.size);have Hfr:=hid ((HS.out.on HB1.out).fr p hpm).1;have Ho1:=hid (an hown.out L1.out);have Hst:Hid (l++cA p.2=hd++(xs.take (k+1)).flatMap (fun p=>cA p.2)):=by show _=_;rw[gM _ xs hp,hlv.out,IU]
   have hll:l.length≤1003000+k*200020:=by
    have h1:=dR (enc:=fun (p:ek×dI)=>cA p.2) (N:=200020) (xs.take k) fun q hq=>lK (HS.out.shp (IY hq)) (Hall.out q (IY hq))
    have h2:(xs.take k).length≤k:=by rw[List.length_take];omega
    have h3:=Nat.mul_le_mul_right 200020 h2;rw[hlv.out,Iz,←HL.out];omega
   obtain⟨er,her⟩:∃m,m=cA p.2:=⟨_,rfl⟩;rw[←her] at Hst hrl;have Her:=hid her;rw[hA];have hBw:=HB1.out.size;clear hc hp hpm hpr hA b0 hown hg her;go_upto_region 7 with (first
    |((with_reducible refine aB 65 ?_);refine aa (by rfl) 65 (.tmp 27) rfl b (o+k*42) rfl (ky p) _ Hrg.out eh rfl Hz.out ?_)
    |(rw[←X1.out];(with_reducible refine aR 65 ?_);refine wpList_store_mid rfl 65 (.tmp 7) (.tmp 28) rfl wr.heap.size 0 (ky p).toArray rfl rfl T1.out (by rw[IC];exact Hz.out) (qT _) ?_))
   rw[←Y1.out];have RE:=hid (ag B1.out);clear X1 Y1 T1 Hrg
   go_wp2_with ((with_reducible refine aB 65 ?_);refine aa (by rfl) 65 (.tmp 7) rfl wr.heap.size 0 rfl (ky p) _ RE.out eh rfl Hz.out ?_)
   refine (pv p Hps.out y1 Hfr.out).mono ?_;rintro e w5 ⟨hb5,hno,hyes⟩;obtain⟨A5,c5,rfl,hown5⟩:=hyes Hpr.out;clear hno hyes;rw[←Her.out] at hown5 ⊢;have Ho5:=hid (an Ho1.out hb5);have HV5:=hid (IJ hown5).1;have HB5:=hid (HB1.out.trans (hb5.mono hBw));have hbz5:W.heap.size≤w5.heap.size:=HB5.out.size;clear hown5 hb5
   go_wp2_with (at_builtin;refine ae _ rfl _ _ 43 rfl W.heap.size 5 i0 (.int .u8 0) 1 IF hi0 hz0 hz1 hz2 rfl (.slice A' l.length c') l rfl Ho5.out _ A5 _ c5 er rfl rfl HV5.out (by unfold maxLen;omega) (by omega) hbz5 ?_;intro A6 c6 w6 hown6 hg6 _)
   have HB6:=hid (HB5.out.grown hg6 hbz5 (fun j hj=>(jS Ho5.out j hj).1));have Ho6:=hid hown6;clear hown6 hg6;go_roundw
   case rel=>exact⟨k+1,l++er,A6,c6,by omega,by go_num,by simp,Ho6,HB6,Hst⟩
   case measure=>simp[intOf];omega
  ·have hltI:¬(k:Int)<(n:Int):=by omega
   have He:Hid (l=cg s):=by show _=_;rw[Hput.out,hlv.out,List.take_of_length_le (by rw[←hnx.out];omega)]
   obtain rfl:=He.out;clear He hlv
   go_wp2
   go_ret2
   unfold ix;rw[Hr.out];exact⟨HB.out.trans (hg.out.mono HB.out.size),fun h=>(by cases h),fun _=>⟨A',c',rfl,bP hown.out HB.out.size⟩⟩
def eI:jY:=⟨none,0,gO,none,0⟩
theorem gQ:(av eI dS).toArray=Tryz.zeroCells40:=by kernel_rfl
theorem eJ(x:jY)(s:cE):(av x s).toArray.all (·.oneCell')=true:=all_oneCell_toArray (by
 intro u hu;simp only[av,IX,I9,I3,or_false] at hu;rcases hu with hu|rfl|rfl|hu|rfl
 ·exact IK.1 (gP x.v s.conf.vips.length x.cv s.conf) u (by simpa using hu)
 ·rfl
 ·rfl
 ·exact IK.1 (uL x.st s.st) u (by simpa using hu)
 ·rfl)
structure EO(T:TypeId)(rc:List Value)(w wr:World)(g bx:Nat)(l:List UInt8)(s:St)(cs:List Value):Prop where
 rd:eY wr (w.heap.size+2) g l s
 ok:em l s
 res:aj wr w.heap.size T rc.toArray
 box:aj wr bx T cs.toArray
 bel:Below w.heap.size w wr
 gn:w.heap.size≠g∧bx≠g∧w.heap.size≠bx∧w.heap.size≤g∧w.heap.size≤bx
 ty:T≠195∧T≠5
section
variable {T:TypeId} {rc:List Value} {w wr w':World} {g bx:Nat} {l:List UInt8} {s s':St} {cs cs':List Value}
theorem EO.after(h:EO T rc w wr g bx l s cs)(hr:eY w' (w.heap.size+2) g l s')(ok:em l s')(hg:wr.grownBy w' (some g)):EO T rc w w' g bx l s' cs :=
 ⟨hr,ok,h.res.grown hg (by simpa using h.gn.1),h.box.grown hg (by simpa using h.gn.2.1),h.bel.grown hg h.bel.size (fun k hk=>by injection hk with hk;have:=h.gn.2.2.2.1;omega),h.gn,h.ty⟩
theorem EO.below(h:EO T rc w wr g bx l s cs)(hb:Below wr.heap.size wr w'):EO T rc w w' g bx l s cs :=
 ⟨h.rd.below hb,h.ok,h.res.below hb h.res.lt,h.box.below hb h.box.lt,h.bel.trans (hb.mono h.bel.size),h.gn,h.ty⟩
theorem EO.put(h:EO T rc w wr g bx l s cs)(hg:wr.grownBy w' (some bx))(hb:aj w' bx T cs'.toArray):EO T rc w w' g bx l s cs' :=
 ⟨h.rd.off hg h.box h.ty.1 h.ty.2,h.ok,h.res.grown hg (by simpa using h.gn.2.2.1),hb,h.bel.grown hg h.bel.size (fun k hk=>by injection hk with hk;have:=h.gn.2.2.2.2;omega),h.gn,h.ty⟩
end
def Ei(w:World)(l:List UInt8)(e:Ending)(w':World):Prop :=
 Below w.heap.size w w'∧∃x h,e=.returned (.tuple #[.agg (av x h).toArray,.bool (gJ l).isSome])∧bV h∧∀h',gJ l=some h'→h=h'∧jR w' w.heap.size x.v x.cv h.conf.vips∧h.conf.vips.length≤x.cv∧x.st=gO∧x.e=none∧x.ce=0
theorem Cl(A:Option Addr)(n c:Nat)(l:List UInt8)(w:World)(hn:n=l.length)(hb:BS w w.heap.size A l)(hl:n≤1000000000) :
  Calls qq 44 #[.slice A n c] w (Ei w l):=by
 subst hn;obtain⟨W1,hW1⟩:∃W,W=w.alloc (.cells (av eI dS).toArray 40):=⟨_,rfl⟩;obtain⟨W,hW⟩:∃W,W=W1.alloc (.cells (av eI dS).toArray 40):=⟨_,rfl⟩;have hs1:W1.heap.size=w.heap.size+1:=by rw[hW1];simp
 have hs2:W.heap.size=w.heap.size+2:=by rw[hW];simp[hs1]
 have hX1:aj W1 w.heap.size 40 (av eI dS).toArray:=by rw[hW1];exact aj.new w _ _ _ rfl
 have hY:aj W w.heap.size 40 (av eI dS).toArray:=by rw[hW];exact hX1.alloc _
 have hX:aj W (w.heap.size+1) 40 (av eI dS).toArray:=by rw[hW];exact aj.new W1 _ _ _ hs1
 have HB:Hid (Below w.heap.size w W):=by rw[hW,hW1];exact ((Below.refl _ _).alloc (II _) _).alloc (by simp) _
 obtain⟨bx,hbx⟩:∃b,b=w.heap.size+1:=⟨_,rfl⟩;rw[←hbx] at hX;have HA:=hid ((hb.below HB.out).more HB.out.size);rw[gQ] at hW1 hW;have HW1:=hid hW1;have HW:=hid hW;have HX:=hid hX;have HY:=hid hY;have Hbx:=hid hbx;have Hs2:=hid hs2;obtain⟨R,hR⟩:∃R,R=gJ l:=⟨_,rfl⟩;obtain⟨s1,x,h1⟩:∃u z,bG l (0,0,0) 4=(u,z):=⟨_,_,rfl⟩;have hok0:em l (0,0,0):=⟨IM _,IM _,IM _⟩;have ok1:=dX hok0 4;rw[h1] at ok1;have H1:=hid h1;have Ok1:=hid ok1;have HR:=hid hR;have hx4:=ii (n:=4) h1;clear hW1 hW hX hY hbx hs1 hs2 hX1 hb hR h1 ok1 hok0;go_enter Tryz.func44,Tryz.ntmps44
 go_upto_region 2 with fail
 rw[←HW1.out,←HW.out,←Hbx.out];clear HW HW1
 go_wp2_with fail
 refine (mX A l.length c l W rfl HA.out hl).mono ?_;rintro e w2 ⟨g,rfl,hg1,hg2,hr,hbel⟩;have H2:Hid (EO 40 (av eI dS) w w2 g bx l (0,0,0) (av eI dS)):=by
  have e:=Hbx.out;have e2:=Hs2.out;refine⟨by rw[e2] at hr;exact hr,⟨IM _,IM _,IM _⟩,HY.out.below hbel HY.out.lt,HX.out.below hbel HX.out.lt,HB.out.trans (hbel.mono HB.out.size),?_,by decide⟩;omega
 clear hg1 hg2 hr hbel HA HX HY HB
 go_wp2_with fail
 refine (ew (w.heap.size+2) g l (0,0,0) w2 4 H2.out.rd H2.out.ok hl (by decide)).mono ?_;rw[H1.out];rintro e w3 ⟨A3,c3,rfl,hown,hr,hg⟩;have hcv:=bJ (P:=qq) 43 9 5 IF I2 IW w3 _ A3 x (IJ hown).1 _ c3 rfl;have H3:=hid (H2.out.after hr Ok1.out hg);clear hown hr hg H2;have h74:∀(y:jY) (h:cE),bV h→(qq.info? 40).map (·.size)=some (av y h).length:=fun y h hh=>fp hh
 have H74:=hid h74;clear h74;by_cases hm:x=kO
 rotate_left
 ·have hm2:(x==[119,97,121,49])=false:=by rw[beq_eq_false_iff_ne];exact hm
  have hRn:Hid (gJ l=none):=by show _=_;unfold gJ;rw[H1.out,if_neg hm]
  obtain⟨W7,hW7,T7,B7,G7⟩:=ga (cs:=av eI dS) H3.out.res (by simp);have RF:=hid (ag H3.out.box);have Hbl:Hid (Below w.heap.size w W7):=H3.out.bel.grown G7.out H3.out.bel.size (fun k hk=>by injection hk with hk;omega);have Hz:=hid (H74.out eI dS dP)
  go_wp2_with (first
   |((with_reducible refine aB 40 ?_);refine aa (by rfl) 40 (.tmp 4) rfl bx 0 rfl (av eI dS) _ RF.out aH rfl Hz.out ?_)
   |((with_reducible refine aR 40 ?_);refine wpList_store_mid rfl 40 (.tmp 2) (.tmp 16) rfl w.heap.size 0 (av eI dS).toArray rfl rfl T7.out Hz.out (eJ _ _) ?_))
  rw[←hW7.out];refine bodyPost_ret (v:=.tuple #[.agg (av eI dS).toArray,.bool false]) (aN (P:=qq) (p:=2) (u:=3) rfl _ _ w.heap.size _ _ _ _ rfl B7.out aH rfl Hz.out) rfl ?_;unfold Ei;rw[hRn.out];exact⟨Hbl.out,eI,dS,rfl,dP,fun h' hh=>by cases hh⟩
 ·have hm':x=[119,97,121,49]:=hm
  clear hm;subst hm';rw[show ([119,97,121,49]:List UInt8).length=4 from rfl] at hcv;obtain⟨s2,fi,h2⟩:∃u n,g9 l s1=(u,n):=⟨_,_,rfl⟩;obtain⟨s3,lo,h3⟩:∃u n,g9 l s2=(u,n):=⟨_,_,rfl⟩;obtain⟨s4,cb,h4⟩:∃u z,bG l s3 ((l.length-s3.1:Nat):Int)=(u,z):=⟨_,_,rfl⟩;have ok2:=n0 Ok1.out;rw[h2] at ok2;have ok3:=n0 ok2;rw[h3] at ok3;have ok4:=dX ok3 ((l.length-s3.1:Nat):Int);rw[h4] at ok4;have hRe:Hid (gJ l=match cz cb with|some c=>if nT s4 then some { conf:=c,first:=(min fi 1152921504606846977:Nat),lost:=(min lo 1152921504606846977:Nat),st:=dl,evs:=[] } else none|none=>none):=by
   show _=_
   have e1:BJ l=(s2,fi):=by unfold BJ;rw[H1.out];exact h2
   have e2:yL l=(s3,lo):=by unfold yL;rw[e1];exact h3
   have e3:BK l=(s4,cb):=by unfold BK;rw[e2];exact h4
   unfold gJ;rw[H1.out,e3,e1,e2];exact if_pos rfl
  have H2v:=hid h2;have H3v:=hid h3;have H4v:=hid h4;have Ok:=hid (Jc ok2 (Jc ok3 ok4));have hs3:=ok3.1;have hcbl:cb.length≤1000000000:=by
   have:=ii (n:=l.length-s3.1) h4;omega
  clear h2 h3 h4 ok2 ok3 ok4 H1
  go_wp2_with fail
  refine (j8 (w.heap.size+2) g l s1 w3 H3.out.rd H3.out.ok hl).mono ?_;rw[H2v.out];rintro e w4 ⟨rfl,hr,hg⟩;have H4:=hid (H3.out.after hr Ok.out.1 hg);clear hr hg H3
  go_wp2_with fail
  refine (j8 (w.heap.size+2) g l s2 w4 H4.out.rd H4.out.ok hl).mono ?_;rw[H3v.out];rintro e w5 ⟨rfl,hr,hg⟩;have H5:=hid (H4.out.after hr Ok.out.2.1 hg);clear hr hg H4
  go_wp2_with fail
  refine (lh (w.heap.size+2) g l s3 w5 H5.out.rd H5.out.ok hl).mono ?_;rintro e w6 ⟨rfl,⟨dm,rfl⟩⟩;have H6:=hid (H5.out.below (jD (B:=w5.heap.size) (w:=w5) dm));rw[show ((l.length:Int)-(s3.1:Int))=((l.length-s3.1:Nat):Int) by omega];clear H5
  go_wp2_with fail
  refine (ew (w.heap.size+2) g l s3 (w5.drewN dm) ((l.length-s3.1:Nat):Int) H6.out.rd H6.out.ok hl (by omega)).mono ?_;rw[H4v.out];rintro e w7 ⟨A7,c7,rfl,hown,hr,hg⟩;have H7:=hid (H6.out.after hr Ok.out.2.2 hg);have HB7:=hid (IJ hown).1;clear hown hr hg H6 hcv
  go_wp2_with fail
  refine (Ed A7 cb.length c7 cb w7 rfl HB7.out hcbl).mono ?_;rintro e w8 ⟨hb8,hno,hyes⟩;obtain⟨Av,cv,f,why,rfl,hfs,hcase⟩:∃Av cv f,∃why:Int,e=.returned (.tuple #[.agg (am Av f.vips.length cv f).toArray,.int .i64 why])∧ao f∧((cz cb=none∧why=3)∨(cz cb=some f∧why=0∧jR w8 w7.heap.size Av cv f.vips∧f.vips.length≤cv)):=by
   rcases hc:cz cb with _|f
   ·exact⟨none,0,bH,3,hno hc,jI,.inl ⟨rfl,rfl⟩⟩
   ·obtain⟨Av,cv,h1,h2,h3,h4⟩:=hyes f hc
    exact⟨Av,cv,f,0,h1,h4,.inr ⟨rfl,rfl,h2,h3⟩⟩
  clear hno hyes;have H8:=hid (H7.out.below hb8);have Hfs:=hid hfs;have Hc54:Hid ((am Av f.vips.length cv f).length=54):=dD hfs;obtain⟨x9,w9,X9,Y9,T9,B9,L9⟩:=ei w8 29 (am none 0 0 bH) (am Av f.vips.length cv f) (by rw[Hc54.out];rfl);rw[nC] at X9;have H9:=hid (H8.out.below L9.out);have Hcase:Hid ((cz cb=none∧why=3)∨(cz cb=some f∧why=0∧jR w9 w.heap.size Av cv f.vips∧f.vips.length≤cv)):=by
   rcases hcase with h|⟨h1,h2,h3,h4⟩
   ·exact .inl h
   ·have h5:=h3.below L9.out
    exact .inr ⟨h1,h2,⟨bP h5.1 H7.out.bel.size,h5.2⟩,h4⟩
  have hwc:∃why0:Nat,why=(why0:Int)∧why0≤3:=by rcases hcase with ⟨_,h⟩|⟨_,h,_⟩;exact⟨3,h,by omega⟩;exact⟨0,h,by omega⟩
  clear hb8 hcase H7 H8 HB7 hfs;go_upto_region 7 with (first
   |(rw[←X9.out];(with_reducible refine aR 29 ?_);refine wpList_store_mid rfl 29 (.tmp 8) (.tmp 27) rfl w8.heap.size 0 (am Av f.vips.length cv f).toArray rfl rfl T9.out (by rw[IC,Hc54.out];exact cB) (gP _ _ _ _) ?_))
  rw[←Y9.out];clear X9 Y9 T9;have hth:w9.there bx 0 (am Av f.vips.length cv f).toArray.size:=H9.out.box.there (by rw[IC,IC,Hc54.out,eG dP];decide);obtain⟨ya,hya⟩:∃v,v=w9.setCells bx 0 (am Av f.vips.length cv f):=⟨_,rfl⟩;have hba:aj ya bx 40 (am Av f.vips.length cv f++zv 0::(zv 0::(cU gO dl++[.slice none 0 0]))).toArray:=by
   rw[hya];have h:=aj.setCells (am Av f.vips.length cv f) 0 H9.out.box;rw[iC _ _ _ (by rw[Hc54.out,eG dP];decide),Hc54.out] at h;exact h
  have hga:w9.grownBy ya (some bx):=by rw[hya];exact aY w9 bx 0 _ 0 (World.grownBy.refl _ _)
  obtain⟨d0,df,dk⟩:=mp (n:=54) hba rfl Hc54.out;have e55:∀v:Value,(am Av f.vips.length cv f++v::(zv 0::(cU gO dl++[.slice none 0 0])))=(am Av f.vips.length cv f++[v])++zv 0::(cU gO dl++[.slice none 0 0]):=fun v=>by simp
  have k2:=fun v=>mp (n:=55) (dk v) (e55 v) (by simp[Hc54.out])
  have d1:ya.cell? ⟨bx,55,none⟩=some (zv 0):=(mp (n:=55) hba (e55 (zv 0)) (by simp[Hc54.out])).1;have dg:=fun v=>(k2 v).2.1
  obtain⟨hh,hhh⟩:∃h:cE,h={ conf:=f,first:=(min fi 1152921504606846977:Nat),lost:=(min lo 1152921504606846977:Nat),st:=dl,evs:=[] }:=⟨_,rfl⟩;have hsh:bV hh:=by rw[hhh];exact⟨Hfs.out,jm,by simp⟩
  obtain⟨yb,hyb⟩:∃v,v=(ya.setCell ⟨bx,54,none⟩ (.int .i64 ((min fi 1152921504606846977:Nat):Int))).setCell ⟨bx,55,none⟩ (.int .i64 ((min lo 1152921504606846977:Nat):Int)):=⟨_,rfl⟩;have hbb:aj yb bx 40 (av ⟨Av,cv,gO,none,0⟩ hh).toArray:=by
   rw[hyb,hhh];have:=(k2 (.int .i64 ((min fi 1152921504606846977:Nat):Int))).2.2 (.int .i64 ((min lo 1152921504606846977:Nat):Int));rw[IU] at this;exact this
  have hgb:w9.grownBy yb (some bx):=by rw[hyb];exact aq hga (aq (a8 _ _ _) (a8 _ _ _))
  have Hb:=hid (H9.out.put hgb hbb);have Hcase2:Hid ((cz cb=none∧why=3)∨(cz cb=some f∧why=0∧jR yb w.heap.size Av cv f.vips∧f.vips.length≤cv)):=by
   rcases Hcase.out with h|⟨h1,h2,h3,h4⟩
   ·exact .inl h
   ·exact .inr ⟨h1,h2,h3.grown H9.out.box (by decide) hgb,h4⟩
  have Hsh:=hid hsh;have Hhh:=hid hhh;have Hth:=hid hth;have Hya:=hid hya;have emf:min (fi:Int) 1152921504606846977=((min fi 1152921504606846977:Nat):Int):=by omega
  have eml:min (lo:Int) 1152921504606846977=((min lo 1152921504606846977:Nat):Int):=by omega
  have RC:=hid (ag B9.out);have Emf:=hid emf;have Eml:=hid eml;have hfi64:(min fi 1152921504606846977:Nat)≤1152921504606846977:=by omega
  have hlo64:(min lo 1152921504606846977:Nat)≤1152921504606846977:=by omega
  clear emf eml hth hya hba hga dk k2 e55 hsh hhh hbb hgb H9 Hcase;unfold zv at d0 d1;go_upto_region 8 with (first
   |((with_reducible refine aB 29 ?_);refine aa (by rfl) 29 (.tmp 8) rfl w8.heap.size 0 rfl (am Av f.vips.length cv f) _ RC.out dV rfl (by rw[Hc54.out];exact cB) ?_)
   |((with_reducible refine aR 29 ?_);refine wpList_store_mid rfl 29 (.tmp 36) (.tmp 29) rfl bx 0 (am Av f.vips.length cv f).toArray rfl rfl Hth.out (by rw[IC,Hc54.out];exact cB) (gP _ _ _ _) ?_;rw[←Hya.out]))
  rw[Emf.out,Eml.out,←hyb];clear hyb d0 d1 df dg;have Hz:=hid (H74.out ⟨Av,cv,gO,none,0⟩ hh Hsh.out);have hd:=Hb.out.below ((Below.refl yb.heap.size yb).drew);have HD:=hid hd;obtain⟨q0,fa,fe⟩:=s4;rcases Hcase2.out with ⟨hcn,rfl⟩|⟨hcs,rfl,hvo,hvc⟩
  ·have hRn:Hid (gJ l=none):=by show _=_;rw[hRe.out,hcn]
   refine Wz.start (S:=fun v=>aj v bx 40 (av ⟨Av,cv,gO,none,0⟩ hh).toArray) hd.box fun hH=>?_
   refine lw 0 hH (yieldsIf_load_mid rfl _ _ rfl bx 0 rfl (av ⟨Av,cv,gO,none,0⟩ hh) _ (fun v hv=>ag hv) aH rfl Hz.out) ?_;simp only[ld,lg,lf];refine zt (K:=fun _=>True) 1 (fun _ _=>trivial) hH ?_;simp only[ld,lg,lf];refine zt (K:=fun _=>True) 2 (fun _ _=>trivial) hH ?_;simp only[ld,lg,lf];refine zt (K:=fun _=>True) 3 (fun _ _=>trivial) hH ?_;simp only[ld,lg,lf];refine lw 4 hH (.inr ⟨rfl,rfl⟩) ?_;simp only[ld,lg,lf];refine lw 5 hH (.inr ⟨rfl,rfl⟩) ?_;simp only[ld,lg,lf];refine lw 6 hH (.inr ⟨rfl,rfl⟩) ?_;simp only[ld,lg,lf];refine lw 7 hH (.inr ⟨rfl,rfl⟩) ?_;simp only[ld,lg,lf];refine zt (K:=fun _=>True) 8 (fun _ _=>trivial) hH ?_;simp only[ld,lg,lf];obtain⟨W7,hW7,T7,B7,G7⟩:=ga (cs:=av ⟨Av,cv,gO,none,0⟩ hh) HD.out.res (by rw[eG Hsh.out,IC,eG dP]);refine one 9 (On.op0 fun K hK=>?_);refine wp_store_mid 40 _ _ rfl w.heap.size 0 (av ⟨Av,cv,gO,none,0⟩ hh).toArray rfl rfl T7.out (by rw[IC];exact Hz.out) (eJ _ _) ?_;rw[←hW7.out];have hX7:=HD.out.box.grown G7.out (by simpa using Ne.symm HD.out.gn.2.2.1);refine hK.out _ _ hX7 (fun _=>?_);clear hK K;have hH:=hX7;refine zt (K:=fun _=>True) 10 (fun _ _=>trivial) hH ?_;simp only[ld,lg,lf];refine Wh.done ?_;have HF:Hid (Below w.heap.size w W7):=HD.out.bel.grown G7.out HD.out.bel.size (fun k hk=>by injection hk with hk;omega)
   go_wp2
   refine bodyPost_ret (v:=.tuple #[.agg (av ⟨Av,cv,gO,none,0⟩ hh).toArray,.bool false]) (aN (P:=qq) (p:=2) (u:=3) rfl _ _ w.heap.size _ _ _ _ rfl B7.out aH rfl Hz.out) rfl ?_;unfold Ei;rw[hRn.out];exact⟨HF.out,_,hh,rfl,Hsh.out,fun h' hh=>by cases hh⟩
  ·have hRs:Hid (gJ l=if nT (q0,fa,fe) then some hh else none):=by show _=_;rw[hRe.out,hcs,Hhh.out]
   have hrd:∃A c,Rd yb.drew g A l.length c q0 fa fe:=by obtain⟨A,c,h,_⟩:=HD.out.rd;exact⟨A,c,h⟩
   obtain⟨Ar,cr,hrd⟩:=hrd;refine Wz.start (S:=fun v=>aj v bx 40 (av ⟨Av,cv,gO,none,0⟩ hh).toArray) hd.box fun hH=>?_
   refine lw 0 hH (yieldsIf_load_mid rfl _ _ rfl bx 0 rfl (av ⟨Av,cv,gO,none,0⟩ hh) _ (fun v hv=>ag hv) aH rfl Hz.out) ?_;simp only[ld,lg,lf];refine zt (K:=fun _=>True) 1 (fun _ _=>trivial) hH ?_;simp only[ld,lg,lf];refine zt (K:=fun _=>True) 2 (fun _ _=>trivial) hH ?_;simp only[ld,lg,lf];refine zt (K:=fun _=>True) 3 (fun _ _=>trivial) hH ?_;simp only[ld,lg,lf];refine zt (K:=fun _=>True) 4 (fun _ _=>trivial) hH ?_;simp only[ld,lg,lf];refine zt (K:=fun _=>True) 6 (fun _ _=>trivial) hH ?_;simp only[ld,lg,lf];refine one 5 (On.call (eK g Ar l.length cr q0 fa fe yb.drew hrd) ?_);rintro e we ⟨rfl,hbe⟩;have He:=hid (HD.out.below hbe);have hve:=(hvo.below (Below.refl yb.heap.size yb).drew).below hbe;have hH:=He.out.box;refine⟨_,rfl,hH,?_⟩;simp only[ld,lg,lf];refine zt (K:=fun _=>True) (v:=.bool (nT (q0,fa,fe))) 7 (fun _ _=>trivial) hH ?_ (hy:=fun u _=>by
    by_cases e1:fa=0
    ·by_cases e2:fe=0
     ·subst e1 e2
      go_simp
      rfl
     ·have e3:¬(fe:Int)=0:=by omega
      subst e1;go_simp
      simp[nT,e2]
    ·have e3:¬(fa:Int)=0:=by omega
     go_simp
     simp[nT,e1])
   simp only[ld,lg,lf];refine zt (K:=fun _=>True) 8 (fun _ _=>trivial) hH ?_;simp only[ld,lg,lf];obtain⟨W7,hW7,T7,B7,G7⟩:=ga (cs:=av ⟨Av,cv,gO,none,0⟩ hh) He.out.res (by rw[eG Hsh.out,IC,eG dP]);refine one 9 (On.op0 fun K hK=>?_);refine wp_store_mid 40 _ _ rfl w.heap.size 0 (av ⟨Av,cv,gO,none,0⟩ hh).toArray rfl rfl T7.out (by rw[IC];exact Hz.out) (eJ _ _) ?_;rw[←hW7.out];have hX7:=He.out.box.grown G7.out (by simpa using Ne.symm He.out.gn.2.2.1);refine hK.out _ _ hX7 (fun _=>?_);clear hK K;have hH:=hX7;refine zt (K:=fun _=>True) 10 (fun _ _=>trivial) hH ?_;simp only[ld,lg,lf];refine Wh.done ?_;have HF:Hid (Below w.heap.size w W7):=He.out.bel.grown G7.out He.out.bel.size (fun k hk=>by injection hk with hk;omega);have hv7:=hve.grown He.out.res (by decide) G7.out;have Hv7:=hid hv7;have Hb7:=hid B7.out;rcases hok:nT (q0,fa,fe) with _|_
   ·have hRn:Hid (gJ l=none):=by show _=_;rw[hRs.out,hok];rfl
    clear hok hve hv7
    go_wp2
    refine bodyPost_ret (v:=.tuple #[.agg (av ⟨Av,cv,gO,none,0⟩ hh).toArray,.bool false]) (aN (P:=qq) (p:=2) (u:=3) rfl _ _ w.heap.size _ _ _ _ rfl Hb7.out aH rfl Hz.out) rfl ?_;unfold Ei;rw[hRn.out];exact⟨HF.out,_,hh,rfl,Hsh.out,fun h' hh=>by cases hh⟩
   ·have hRn:Hid (gJ l=some hh):=by show _=_;rw[hRs.out,hok];rfl
    have Hhv:Hid (hh.conf.vips=f.vips):=by show _=_;rw[Hhh.out]
    clear hok hve hv7
    go_wp2
    refine bodyPost_ret (v:=.tuple #[.agg (av ⟨Av,cv,gO,none,0⟩ hh).toArray,.bool true]) (aN (P:=qq) (p:=2) (u:=3) rfl _ _ w.heap.size _ _ _ _ rfl Hb7.out aH rfl Hz.out) rfl ?_;unfold Ei;rw[hRn.out];refine⟨HF.out,_,hh,rfl,Hsh.out,fun h' he=>?_⟩;injection he with he
    rw[←he,Hhv.out];exact⟨rfl,Hv7.out,hvc,rfl,rfl,rfl⟩
theorem lL{w:World}{b b':Nat}{e e':TypeId}{s s' n n':Nat}{v v':Value}{xs xs':List Value}(h:w.ownsRow b e s v n xs)(h':w.ownsRow b' e' s' v' n' xs')(hne:e≠e'):v.ownBlock=none∨v.ownBlock≠v'.ownBlock:=by
 rcases h.2 with ⟨rfl,_⟩|⟨g,cap,cur,rfl,_,hh,_⟩
 ·exact .inl rfl
 ·right
  rcases h'.2 with ⟨rfl,_⟩|⟨g',cap',cur',rfl,_,hh',_⟩
  ·simp[IN]
  ·intro e1
   have:g=g':=by simpa[IN] using e1
   subst this;rw[hh] at hh';injection hh' with hh'
   injection hh' with _ ht
   exact hne ht
structure eC(w:World)(base:Nat)(x:jY)(xs:List (ek×dI))(s:cE):Prop where
 vs:jR w base x.v x.cv s.conf.vips
 vl:s.conf.vips.length≤1000000
 st:iX w base x.st s.st
 sh:bV s
 ev:s.evs=xs.map (·.2)
 evs:w.ownsRow base 65 42 (.slice x.e s.evs.length x.ce) s.evs.length (fT ky xs)
 el:s.evs.length≤1000000
 fr:∀p∈xs,w.ownsRow base 5 1 (.slice p.1.f p.2.act.frame.length p.1.cf) p.2.act.frame.length (ab p.2.act.frame)∧p.2.o.out=[]
section
variable {w w':World} {base:Nat} {x:jY} {xs:List (ek×dI)} {s:cE}
theorem eC.shp(h:eC w base x xs s){p:ek×dI}(hp:p∈xs):aP p.2:=h.sh.evs _ (by rw[h.ev];exact I0 hp)
theorem eC.len(h:eC w base x xs s):s.evs.length=xs.length:=by rw[h.ev,List.length_map]
theorem eC.held(h:eC w base x xs s):fk w w.heap.size x xs s:=by
 refine⟨h.vs.vs,⟨jb h.vs.1,h.vl⟩,h.st.held,h.sh,h.ev,?_,⟨jb h.evs,h.el⟩,fun p hp=>⟨(IJ (h.fr p hp).1).1,by rw[(h.fr p hp).2];exact BS.nil _ _ _⟩⟩;have he:=h.evs;rw[h.len] at he;exact uI he fun p hp=>nB (h.shp hp)
theorem eC.below(h:eC w base x xs s)(hb:Below w.heap.size w w'):eC w' base x xs s :=
 ⟨h.vs.below hb,h.vl,h.st.below hb,h.sh,h.ev,an h.evs hb,h.el,fun p hp=>⟨an (h.fr p hp).1 hb,(h.fr p hp).2⟩⟩
theorem eC.other(h:eC w base x xs s){g:Nat}{t:TypeId}{cs:Array Value}(hb:aj w g t cs)(h1:t≠108∧t≠56∧t≠115∧t≠120∧t≠65∧t≠5)(hg:w.grownBy w' (some g)):eC w' base x xs s :=
 ⟨h.vs.grown hb h1.1 hg,h.vl,⟨h.st.b.kept hg (aK h.st.b hb h1.2.1),h.st.h.kept hg (aK h.st.h hb h1.2.2.1),h.st.f.kept hg (aK h.st.f hb h1.2.2.2.1),h.st.ok,h.st.nb,h.st.nh,h.st.nf⟩,h.sh,h.ev,h.evs.kept hg (aK h.evs hb h1.2.2.2.2.1),h.el,
  fun p hp=>⟨(h.fr p hp).1.kept hg (aK (h.fr p hp).1 hb h1.2.2.2.2.2),(h.fr p hp).2⟩⟩
theorem eC.state(h:eC w base x xs s){y:nJ}{st:bA}(hs:iX w base y st):eC w base { x with st:=y } xs { s with st:=st } :=
 ⟨h.vs,h.vl,hs,⟨h.sh.conf,hs.ok,h.sh.evs⟩,h.ev,h.evs,h.el,h.fr⟩
theorem eC.snoc(h:eC w base x xs s){p:ek×dI}{A:Option Addr}{c:Nat}(hg:w.grownBy w' (Value.slice x.e s.evs.length x.ce).ownBlock)(ho:w'.ownsRow base 65 42 (.slice A (s.evs.length+1) c) (s.evs.length+1) (fT ky xs++ky p))
  (hp:w.ownsRow base 5 1 (.slice p.1.f p.2.act.frame.length p.1.cf) p.2.act.frame.length (ab p.2.act.frame)) (hsh:aP p.2) (ho2:p.2.o.out=[]) (hl:s.evs.length+1≤1000000):eC w' base { x with e:=A,ce:=c } (xs++[p]) { s with evs:=s.evs++[p.2] }:=by
 have hl2:(s.evs++[p.2]).length=s.evs.length+1:=by simp
 refine⟨⟨h.vs.1.kept hg (lL h.vs.1 h.evs (by decide)),h.vs.2⟩,h.vl,⟨h.st.b.kept hg (lL h.st.b h.evs (by decide)),h.st.h.kept hg (lL h.st.h h.evs (by decide)),h.st.f.kept hg (lL h.st.f h.evs (by decide)),h.st.ok,h.st.nb,h.st.nh,h.st.nf⟩,⟨h.sh.conf,h.sh.st,?_⟩,?_,?_,?_,?_⟩
 ·intro e he
  rcases IX.1 he with he|he
  ·exact h.sh.evs e he
  ·simp only[List.mem_singleton] at he
   rw[he];exact hsh
 ·show s.evs++[p.2]=_
  rw[h.ev];simp
 ·show w'.ownsRow base _ 42 (.slice A (s.evs++[p.2]).length c) (s.evs++[p.2]).length (fT ky (xs++[p]))
  rw[hl2,show fT ky (xs++[p])=fT ky xs++ky p by simp[fT]];exact ho
 ·show (s.evs++[p.2]).length≤_
  rw[hl2];exact hl
 ·intro q hq
  rcases IX.1 hq with hq|hq
  ·exact⟨(h.fr q hq).1.kept hg (lL (h.fr q hq).1 h.evs (by decide)),(h.fr q hq).2⟩
  ·simp only[List.mem_singleton] at hq
   rw[hq];exact⟨hp.kept hg (lL hp h.evs (by decide)),ho2⟩
theorem eC.zero(w:World)(base:Nat):eC w base eI [] dS :=
 ⟨jR.nil w base,by decide,iX.zero w base,dP,rfl,World.ownsRow_nil _ _ _ _,by decide,by simp⟩
end
theorem dc{P:Program}{fn:Func}{p u v:Tmp}{ty:TypeId}(h:fn.results=#[.cell p ty,.tmp u,.tmp v])(tmps:Array Value)(w:World)(g:Nat)(t:TypeId)(cs:Array Value)(fr:Nat×Nat)(d:TypeDesc)
  (hp:tmps.getD p undef=.pointer (some ⟨g,0,none⟩)) (hg:w.heap[g]?=some (.cells cs t fr))
  (hu:P.underlying ty=some d) (hd:(match d with | .struct _ | .array _ _=>true|_=>false)=true) (hi:(P.info? ty).map (·.size)=some cs.size) :
  (results fn tmps).run P w=.ok (.tuple #[.agg cs,tmps.getD u undef,tmps.getD v undef]) w:=by
 have e:(results fn tmps).run P w=((asAddr (tmps.getD p undef)).run P w).andThen fun a w₁=>((loadVar ty a).run P w₁).andThen fun x w₂=>.ok (.tuple #[x,tmps.getD u undef,tmps.getD v undef]) w₂:=by
  simp only[results,h];simp[ID,IZ]
 rw[e,hp];simp[asAddr,run_loadVar_row w g t ty cs fr d hg hu hd hi]
theorem tJ{l:List UInt8}{f:dI}(h:fg l=some f):f.o.out=[]:=by
 unfold fg at h;split at h
 ·injection h with h
  rw[←h];simp only[EM]
 ·cases h
def il(w:World)(l:List UInt8)(e:Ending)(w':World):Prop :=
 Below w.heap.size w w'∧∃x xs,e=.returned (.tuple #[.agg (av x (bW l).1).toArray,.int .i64 ((bW l).2.1:Int),.int .i64 ((bW l).2.2:Int)])∧eC w' w.heap.size x xs (bW l).1
theorem As(d:Nat)(a b:List UInt8)(w:World):(IQ (d+1) 9 (sv a) (sv b)).run qq w=.ok (a==b) w:=by
 have:=run_equalIn_string (P:=qq) w d 9 ⟨a.toArray⟩ ⟨b.toArray⟩ IW;rw[ByteArray.toList_eq,ByteArray.toList_eq] at this;simpa[sv] using this
theorem mt(d:Nat)(a b:Int)(w:World):(IQ (d+1) 3 (zv a) (zv b)).run qq w=.ok (a==b) w:=run_equalIn_int (P:=qq) w d 3 .i64 .i64 a b I4
theorem FF(d:Nat)(a b:Bool)(w:World):(IQ (d+1) 4 (.bool a) (.bool b)).run qq w=.ok (a==b) w:=run_equalIn_bool (P:=qq) w d 4 a b I5
theorem cQ{T:TypeId}(w:World)(cs:List Value)(k:Nat)(v:Value)(hi:(isAgg T).run qq w=.ok false w)(h:cs[k]?=some v):(part T cs.toArray k).run qq w=.ok v w:=by
 simp[part,hi,IZ,h]
theorem lM{T:TypeId}{n:Nat}(w:World)(cs pre mid post:List Value)(k:Nat)(hi:(isAgg T).run qq w=.ok true w)(hs:(sizeOf T).run qq w=.ok n w)(h:cs=pre++(mid++post))(hk:pre.length=k)(hm:mid.length=n):(part T cs.toArray k).run qq w=.ok (.agg mid.toArray) w:=by
 have e:List.take n (List.drop k cs)=mid:=by rw[h,List.drop_left' hk,List.take_left' hm]
 simp[part,hi,hs,IZ,e]
theorem Ik(w:World):(isAgg 9).run qq w=.ok false w:=by simp[isAgg,run_underlying IW]
theorem At(w:World):(isAgg 3).run qq w=.ok false w:=by simp[isAgg,run_underlying I4]
theorem Iv(w:World):(isAgg 4).run qq w=.ok false w:=by simp[isAgg,run_underlying I5]
theorem Il(w:World):(isAgg 27).run qq w=.ok true w:=by simp[isAgg,run_underlying I1]
theorem Iw(w:World):(isAgg 118).run qq w=.ok true w:=by simp[isAgg,run_underlying IR]
theorem Gg(w:World):(sizeOf 118).run qq w=.ok 37 w:=by
 obtain⟨i,hi⟩:=info_of_underlying IR;rw[run_sizeOf w hi,show qq.cellsOf 118=37 by kernel_rfl]
theorem Aw(w:World):(sizeOf 27).run qq w=.ok 17 w:=by
 obtain⟨i,hi⟩:=info_of_underlying I1;rw[run_sizeOf w hi,show qq.cellsOf 27=17 by kernel_rfl]
theorem xg:qq.stoodInHeld 115=false:=by kernel_rfl
theorem uQ:qq.eqGuardType qq.depth 115=false:=by kernel_rfl
theorem xl(d:Nat)(a b:dq)(w:World):(IQ (d+3) 115 (.agg (aF a).toArray) (.agg (aF b).toArray)).run qq w=.ok (a.name==b.name&&(a.down==b.down&&a.run==b.run)) w:=by
 have pa0:=cQ w (aF a) 0 _ (Ik w) rfl;have pb0:=cQ w (aF b) 0 _ (Ik w) rfl;have e0:=As (d+1) a.name b.name w;have pa1:=cQ w (aF a) 1 _ (Iv w) rfl;have pb1:=cQ w (aF b) 1 _ (Iv w) rfl;have e1:=FF (d+1) a.down b.down w;have pa2:=cQ w (aF a) 2 _ (At w) rfl;have pb2:=cQ w (aF b) 2 _ (At w) rfl;have e2:=mt (d+1) a.run b.run w;rw[run_equalIn_struct w (d+2) _ _ _ dQ xg];simp only[Program.fieldsOf,Tryz.underlying115,Op.eqFields];rw[if_pos (by decide)];simp only[ID,pa0,pb0,Iy,e0];cases hc0:(a.name==b.name)
 ·simp
 simp only[IB,IA,if_false];rw[if_pos (by decide)];simp only[ID,pa1,pb1,Iy,e1];cases hc1:(a.down==b.down)
 ·simp
 simp only[IB,IA,if_false];rw[if_pos (by decide)];simp only[ID,pa2,pb2,Iy,e2];cases hc2:(a.run==b.run)<;>simp
theorem lN{k:fL}(h:cy k)(j:Nat):(aM k)[34+j]?=[zv k.proto,zv k.sport,zv k.dport][j]?:=by
 have h1:=ar h.src;have h2:=ar h.dst;rw[aM,←IU,IS (by simp[h1,h2])];simp[h1,h2]
theorem Ej:qq.stoodInHeld 118=false:=by kernel_rfl
theorem si(d:Nat)(a b:fL)(ha:cy a)(hb:cy b)(w:World):(IQ (d+4) 118 (.agg (aM a).toArray) (.agg (aM b).toArray)).run qq w=.ok (fD a b) w:=by
 have pa0:=lM w (aM a) [] (ai a.src) (ai a.dst++[zv a.proto,zv a.sport,zv a.dport]) 0 (Il w) (Aw w) rfl rfl (ar ha.src);have pb0:=lM w (aM b) [] (ai b.src) (ai b.dst++[zv b.proto,zv b.sport,zv b.dport]) 0 (Il w) (Aw w) rfl rfl (ar hb.src);have e0:=gT d a.src b.src ha.src hb.src w;have pa1:=lM w (aM a) (ai a.src) (ai a.dst) [zv a.proto,zv a.sport,zv a.dport] 17 (Il w) (Aw w) rfl (ar ha.src) (ar ha.dst);have pb1:=lM w (aM b) (ai b.src) (ai b.dst) [zv b.proto,zv b.sport,zv b.dport] 17 (Il w) (Aw w) rfl (ar hb.src) (ar hb.dst);have e1:=gT d a.dst b.dst ha.dst hb.dst w;have pa2:=cQ w (aM a) (34+0) _ (At w) (lN ha 0);have pb2:=cQ w (aM b) (34+0) _ (At w) (lN hb 0);have e2:=mt (d+2) a.proto b.proto w;have pa3:=cQ w (aM a) (34+1) _ (At w) (lN ha 1);have pb3:=cQ w (aM b) (34+1) _ (At w) (lN hb 1);have e3:=mt (d+2) a.sport b.sport w;have pa4:=cQ w (aM a) (34+2) _ (At w) (lN ha 2);have pb4:=cQ w (aM b) (34+2) _ (At w) (lN hb 2);have e4:=mt (d+2) a.dport b.dport w;unfold fD;rw[run_equalIn_struct w (d+3) _ _ _ cI Ej];simp only[Program.fieldsOf,IR,Op.eqFields];rw[if_pos (by decide)];simp only[ID,pa0,pb0,Iy,e0];cases hc0:(a.src==b.src)
 ·simp
 simp only[IB,IA,if_false];rw[if_pos (by decide)];simp only[ID,pa1,pb1,Iy,e1];cases hc1:(a.dst==b.dst)
 ·simp
 simp only[IB,IA,if_false];rw[if_pos (by decide)];simp only[ID,pa2,pb2,Iy,e2];cases hc2:(a.proto==b.proto)
 ·simp
 simp only[IB,IA,if_false];rw[if_pos (by decide)];simp only[ID,pa3,pb3,Iy,e3];cases hc3:(a.sport==b.sport)
 ·simp
 simp only[IB,IA,if_false];rw[if_pos (by decide)];simp only[ID,pa4,pb4,Iy,e4];cases hc4:(a.dport==b.dport)<;>simp
theorem kV{f:dE}(h:cy f.key)(j:Nat):(aw f)[37+j]?=[sv f.name,zv f.state,zv f.seen,zv f.no][j]?:=by
 rw[aw,IS (by rw[fX h];omega),fX h,Nat.add_sub_cancel_left]
def jT(a b:dE):Bool:=fD a.key b.key&&(a.name==b.name&&(a.state==b.state&&(a.seen==b.seen&&a.no==b.no)))
theorem Cm:qq.stoodInHeld 120=false:=by kernel_rfl
theorem zk:qq.eqGuardType qq.depth 120=false:=by kernel_rfl
theorem Cn(d:Nat)(a b:dE)(ha:cy a.key)(hb:cy b.key)(w:World):(IQ (d+5) 120 (.agg (aw a).toArray) (.agg (aw b).toArray)).run qq w=.ok (jT a b) w:=by
 have pa0:=lM w (aw a) [] (aM a.key) [sv a.name,zv a.state,zv a.seen,zv a.no] 0 (Iw w) (Gg w) rfl rfl (fX ha);have pb0:=lM w (aw b) [] (aM b.key) [sv b.name,zv b.state,zv b.seen,zv b.no] 0 (Iw w) (Gg w) rfl rfl (fX hb);have e0:=si d a.key b.key ha hb w;have pa1:=cQ w (aw a) (37+0) _ (Ik w) (kV ha 0);have pb1:=cQ w (aw b) (37+0) _ (Ik w) (kV hb 0);have e1:=As (d+3) a.name b.name w;have pa2:=cQ w (aw a) (37+1) _ (At w) (kV ha 1);have pb2:=cQ w (aw b) (37+1) _ (At w) (kV hb 1);have e2:=mt (d+3) a.state b.state w;have pa3:=cQ w (aw a) (37+2) _ (At w) (kV ha 2);have pb3:=cQ w (aw b) (37+2) _ (At w) (kV hb 2);have e3:=mt (d+3) a.seen b.seen w;have pa4:=cQ w (aw a) (37+3) _ (At w) (kV ha 3);have pb4:=cQ w (aw b) (37+3) _ (At w) (kV hb 3);have e4:=mt (d+3) a.no b.no w;unfold jT;rw[run_equalIn_struct w (d+4) _ _ _ bI Cm];simp only[Program.fieldsOf,Tryz.underlying120,Op.eqFields];rw[if_pos (by decide)];simp only[ID,pa0,pb0,Iy,e0];cases hc0:(fD a.key b.key)
 ·simp
 simp only[IB,IA,if_false];rw[if_pos (by decide)];simp only[ID,pa1,pb1,Iy,e1];cases hc1:(a.name==b.name)
 ·simp
 simp only[IB,IA,if_false];rw[if_pos (by decide)];simp only[ID,pa2,pb2,Iy,e2];cases hc2:(a.state==b.state)
 ·simp
 simp only[IB,IA,if_false];rw[if_pos (by decide)];simp only[ID,pa3,pb3,Iy,e3];cases hc3:(a.seen==b.seen)
 ·simp
 simp only[IB,IA,if_false];rw[if_pos (by decide)];simp only[ID,pa4,pb4,Iy,e4];cases hc4:(a.no==b.no)<;>simp
def tK{α:Type}(f:α→α→Bool):List α→List α→Bool
 |[],[]=>true
 |a::us,b::bs=>f a b&&tK f us bs
 |_,_=>false
theorem pz{α:Type}{f:α→α→Bool}:∀{us bs:List α},us.length≠bs.length→tK f us bs=false
 |[],[],h=>absurd rfl h
 |a::us,b::bs,h=>by rw[tK,pz (by simpa using h),I8]
 |[],b::bs,_=>rfl
 |a::us,[],_=>rfl
theorem sj{α:Type}{f:α→α→Bool}:∀{us bs:List α},us.length=bs.length→(∀(i:Nat) a b,us[i]?=some a→bs[i]?=some b→f a b=true)→tK f us bs=true
 |[],[],_,_=>rfl
 |a::us,b::bs,hl,h=>by
  rw[tK,h 0 a b rfl rfl,sj (by simpa using hl) fun i x y hx hy=>h (i+1) x y (by simpa using hx) (by simpa using hy)];rfl
 |[],b::bs,hl,_=>by simp at hl
 |a::us,[],hl,_=>by simp at hl
theorem sm{α:Type}{f:α→α→Bool}:∀{us bs:List α} (i:Nat) {a b:α},us[i]?=some a→bs[i]?=some b→f a b=false→tK f us bs=false
 |x::us,y::bs,0,a,b,ha,hb,h=>by
  simp only[List.getElem?_cons_zero,Option.some.injEq] at ha hb;subst ha hb;rw[tK,h];rfl
 |x::us,y::bs,i+1,a,b,ha,hb,h=>by rw[tK,sm i (by simpa using ha) (by simpa using hb) h,I8]
 |[],_,i,a,b,ha,_,_=>by simp at ha
 |x::us,[],i,a,b,_,hb,_=>by simp at hb
def gR(a b:dq):Bool:=a.name==b.name&&(a.down==b.down&&a.run==b.run)
theorem uR(A:Option Addr)(n c:Nat)(us:List dq)(A':Option Addr)(n' c':Nat)(bs:List dq)(w:World)(hn:n=us.length)(hn':n'=bs.length)(hnc:n≤c)(hnc':n'≤c')(ha:RW aF 3 w w.heap.size A us)(hb:RW aF 3 w w.heap.size A' bs)(hl:n≤1000000)(hl':n'≤1000000) :
  Calls qq 108 #[.slice A n c,.slice A' n' c'] w fun e w'=>e=.returned (.bool (tK gR us bs))∧Below w.heap.size w w':=by
 have HA:=hid ha;have HA':=hid hb;have Hn:=hid hn;have Hn':=hid hn';obtain⟨r,hr⟩:∃r,r=tK gR us bs:=⟨_,rfl⟩;rw[←hr];have Hr:=hid hr;clear ha hb hn hn' hr;by_cases hne:n=n'
 rotate_left
 ·have hI:((n:Int) != (n':Int))=true:=by simp;omega
  have hf:Hid (r=false):=by show _=_;rw[Hr.out];exact pz (by rw[←Hn.out,←Hn'.out];exact hne)
  clear hne;go_enter Tryz.func108,Tryz.ntmps108
  go_wp2
  go_ret
  exact⟨by rw[hf.out];rfl,Below.refl _ _⟩
 subst hne;go_enter Tryz.func108,Tryz.ntmps108
 go_wp2
 go_loopw [5] (fun i wr=>∃k:Nat,k≤n∧i=.int .i64 (k:Int)∧Hid (Below w.heap.size w wr)∧Hid (∀i a b,i<k→us[i]?=some a→bs[i]?=some b→gR a b=true)) (fun i _=>n-(intOf i).toNat)
 case atStart=>exact⟨0,by omega,rfl,Below.refl _ _,fun i a b h=>absurd h (by omega)⟩
 case round =>
  obtain⟨k,hk,rfl,hbel,hat⟩:=hrel;rename World=>wr
  by_cases hlt:k<n
  ·have hltI:(k:Int)<(n:Int):=by omega
   have hk0:(0:Int)≤(k:Int):=by omega
   obtain⟨b1,o1,rfl,hb1,hc1⟩:=(HA.out.below hbel.out) (by rw[←Hn.out];omega);obtain⟨b2,o2,rfl,hb2,hc2⟩:=(HA'.out.below hbel.out) (by rw[←Hn'.out];omega);obtain⟨x,hx⟩:∃x,us[k]?=some x:=⟨_,IE (by rw[←Hn.out];exact hlt)⟩;obtain⟨y,hy⟩:∃y,bs[k]?=some y:=⟨_,IE (by rw[←Hn'.out];exact hlt)⟩;have Hx:=hid (hc1 k x hx);have Hy:=hid (hc2 k y hy);have l1:b1<wr.heap.size:=IG hb1 hbel.out.size;have l2:b2<wr.heap.size:=IG hb2 hbel.out.size;have Hno:Hid (gR x y=false→r=false):=fun h=>by rw[Hr.out];exact sm k hx hy h
   have Hyes:Hid (gR x y=true→∀i a b,i<k+1→us[i]?=some a→bs[i]?=some b→gR a b=true):=fun h i a b hi ha hb=>by
    rcases Jb i k with h1|h1
    ·exact hat.out i a b h1 ha hb
    ·obtain rfl:i=k:=by omega
     rw[hx] at ha;rw[hy] at hb;injection ha with ha
     injection hb with hb
     rw[←ha,←hb];exact h
   clear hc1 hc2 hx hy hat;go_upto_region 6 with fail
   refine Sd.start ?_
   repeat ((first|refine sl Hx.out l1 dQ (dG x) ?_|refine sl Hy.out l2 dQ (dG y) ?_|refine en (r:=gR x y) (xl 9997 x y) uQ ?_|refine pt ?_);simp only[ld,lg,lf,IV])
   refine Ja fun w2 hb2'=>?_
   have Hb2:=hid (hbel.out.trans (hb2'.mono hbel.out.size));clear hb2' hbel;rcases hv:gR x y with _|_
   ·have hf:=hid (Hno.out hv)
    simp only[hv,IP];clear hv
    go_wp2
    go_ret
    exact⟨by rw[hf.out];rfl,Hb2.out⟩
   ·have hf:=hid (Hyes.out hv)
    simp only[hv,IB];clear hv
    go_wp2
    go_roundw
    case rel=>exact⟨k+1,by omega,by go_num,Hb2,hf⟩
    case measure=>simp[intOf];omega
  ·have hltI:¬(k:Int)<(n:Int):=by omega
   have hf:Hid (r=true):=by
    show _=_
    rw[Hr.out];exact sj (Hn.out.symm.trans Hn'.out) fun i a b ha hb=>hat.out i a b (by have:=(IT.1 ha).1;rw[←Hn.out] at this;omega) ha hb
   go_wp2
   go_ret
   exact⟨by rw[hf.out];rfl,hbel.out⟩
theorem uS(A:Option Addr)(n c:Nat)(us:List dE)(A':Option Addr)(n' c':Nat)(bs:List dE)(w:World)(hn:n=us.length)(hn':n'=bs.length)(hnc:n≤c)(hnc':n'≤c')(ha:RW aw 41 w w.heap.size A us)(hb:RW aw 41 w w.heap.size A' bs)(hl:n≤1000000)(hl':n'≤1000000)(hs:∀f∈us,cy f.key)(hs2:∀f∈bs,cy f.key) :
  Calls qq 109 #[.slice A n c,.slice A' n' c'] w fun e w'=>e=.returned (.bool (tK jT us bs))∧Below w.heap.size w w':=by
 have HA:=hid ha;have HA':=hid hb;have Hn:=hid hn;have Hn':=hid hn';obtain⟨r,hr⟩:∃r,r=tK jT us bs:=⟨_,rfl⟩;rw[←hr];have Hr:=hid hr;have Hs:=hid hs;have Hs2:=hid hs2;clear ha hb hn hn' hr hs hs2;by_cases hne:n=n'
 rotate_left
 ·have hI:((n:Int) != (n':Int))=true:=by simp;omega
  have hf:Hid (r=false):=by show _=_;rw[Hr.out];exact pz (by rw[←Hn.out,←Hn'.out];exact hne)
  clear hne;go_enter Tryz.func109,Tryz.ntmps109
  go_wp2
  go_ret
  exact⟨by rw[hf.out];rfl,Below.refl _ _⟩
 subst hne;go_enter Tryz.func109,Tryz.ntmps109
 go_wp2
 go_loopw [5] (fun i wr=>∃k:Nat,k≤n∧i=.int .i64 (k:Int)∧Hid (Below w.heap.size w wr)∧Hid (∀i a b,i<k→us[i]?=some a→bs[i]?=some b→jT a b=true)) (fun i _=>n-(intOf i).toNat)
 case atStart=>exact⟨0,by omega,rfl,Below.refl _ _,fun i a b h=>absurd h (by omega)⟩
 case round =>
  obtain⟨k,hk,rfl,hbel,hat⟩:=hrel;rename World=>wr
  by_cases hlt:k<n
  ·have hltI:(k:Int)<(n:Int):=by omega
   have hk0:(0:Int)≤(k:Int):=by omega
   obtain⟨b1,o1,rfl,hb1,hc1⟩:=(HA.out.below hbel.out) (by rw[←Hn.out];omega);obtain⟨b2,o2,rfl,hb2,hc2⟩:=(HA'.out.below hbel.out) (by rw[←Hn'.out];omega);obtain⟨x,hx⟩:∃x,us[k]?=some x:=⟨_,IE (by rw[←Hn.out];exact hlt)⟩;obtain⟨y,hy⟩:∃y,bs[k]?=some y:=⟨_,IE (by rw[←Hn'.out];exact hlt)⟩;have Hx:=hid (hc1 k x hx);have Hy:=hid (hc2 k y hy);have l1:b1<wr.heap.size:=IG hb1 hbel.out.size;have l2:b2<wr.heap.size:=IG hb2 hbel.out.size;have Hxo:=hid (Hs.out x (IL hx));have Hyo:=hid (Hs2.out y (IL hy));have Hno:Hid (jT x y=false→r=false):=fun h=>by rw[Hr.out];exact sm k hx hy h
   have Hyes:Hid (jT x y=true→∀i a b,i<k+1→us[i]?=some a→bs[i]?=some b→jT a b=true):=fun h i a b hi ha hb=>by
    rcases Jb i k with h1|h1
    ·exact hat.out i a b h1 ha hb
    ·obtain rfl:i=k:=by omega
     rw[hx] at ha;rw[hy] at hb;injection ha with ha
     injection hb with hb
     rw[←ha,←hb];exact h
   clear hc1 hc2 hx hy hat;go_upto_region 6 with fail
   refine Sd.start ?_
   repeat ((first|refine sl Hx.out l1 bI (iu Hxo.out) ?_|refine sl Hy.out l2 bI (iu Hyo.out) ?_|refine en (Cn 9995 x y Hxo.out Hyo.out) zk ?_|refine pt ?_);simp only[ld,lg,lf,IV])
   refine Ja fun w2 hb2'=>?_
   have Hb2:=hid (hbel.out.trans (hb2'.mono hbel.out.size));clear hb2' hbel;rcases hv:jT x y with _|_
   ·have hf:=hid (Hno.out hv)
    simp only[hv,IP];clear hv
    go_wp2
    go_ret
    exact⟨by rw[hf.out];rfl,Hb2.out⟩
   ·have hf:=hid (Hyes.out hv)
    simp only[hv,IB];clear hv
    go_wp2
    go_roundw
    case rel=>exact⟨k+1,by omega,by go_num,Hb2,hf⟩
    case measure=>simp[intOf];omega
  ·have hltI:¬(k:Int)<(n:Int):=by omega
   have hf:Hid (r=true):=by
    show _=_
    rw[Hr.out];exact sj (Hn.out.symm.trans Hn'.out) fun i a b ha hb=>hat.out i a b (by have:=(IT.1 ha).1;rw[←Hn.out] at this;omega) ha hb
   go_wp2
   go_ret
   exact⟨by rw[hf.out];rfl,hbel.out⟩
