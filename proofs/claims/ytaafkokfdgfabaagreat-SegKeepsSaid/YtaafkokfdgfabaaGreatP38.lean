import Derived.Test.YtaafkokfdgfabaaGreatP32
set_option maxHeartbeats 8000000
set_option maxRecDepth 100000
set_option linter.unusedVariables false
set_option linter.unusedSimpArgs false
open Bool renaming false_and→IA,and_false→IB,not_true→IG,and_eq_true→I0
open Int renaming toNat_of_nonneg→Iz
open List renaming length_append→qq,getElem?_eq_getElem→Iy,length_take→IE,append_assoc→IF,take_of_length_le→IH,getElem?_map→II,getElem_mem→IL,mem_of_getElem?→IM,mem_of_mem_take→IN,take_add_one→IS,getElem?_cons_succ→IT,getElem?_toArray→IV,map_cons→IX,map_nil→IY,nil_append→I1
open Nat renaming le_refl→IJ,lt_or_ge→IQ
open UInt8 renaming ofNat→IP,toNat_ofNat'→IR
namespace Go.Proofs.YtaafkokfdgfabaaGreat
open Go.RowKit
open Lib (hid)
open BS renaming of_own→IZ,one'→I2
open Tryz renaming underlying27→IC,underlying43→ID,underlying108→IK,prog→IW
open Value renaming int→IU
theorem uV{v:ct}(hv:aS v.1):(IW.info? 108).map (·.size)=some (aI v).toArray.size:=by
 rw[List.size_toArray,bK hv];exact iR
theorem qV{v:ct}(hv:aS v.1):(IW.info? 108).map (·.size)=some (aI v).length:=by
 rw[bK hv];exact iR
theorem qW{w:World}{g:Nat}{t:TypeId}{v:ct}(hv:aS v.1)(h:aj w g t (aI v).toArray):w.cell? ⟨g,17,none⟩=some (.int .i64 v.2.1):=by
 rw[h.cell 17];exact n8 hv 0
theorem qX{w:World}{g:Nat}{t:TypeId}{v:ct}(hv:aS v.1)(h:aj w g t (aI v).toArray):w.cell? ⟨g,18,none⟩=some (.int .i64 v.2.2.1):=by
 rw[h.cell 18];exact n8 hv 1
theorem Ex{vs:List ct}{k:Nat}{v:ct}(h:vs[k]?=some v):kp vs k=(i6 v&&!((vs.take k).any (eT v.1 v.2.1 v.2.2.1))):=by
 unfold kp;rw[h]
theorem xC{vs:List ct}{k:Nat}(hk:k<vs.length)(h:kp vs k=false):jG vs=false:=by
 rcases hb:jG vs with _|_
 ·rfl
 ·have:=(jd.1 hb).2 k hk
  rw[h] at this;cases this
theorem qf{f:bf}(h:jG f.vips=false):aQ f=false:=by
 simp only[aQ,h,IA,IB]
theorem tU{f:bf}(h:mH f.idle=false):aQ f=false:=by
 simp only[aQ,h,IA,IB]
theorem xD{vs:List ct}{k:Nat}{P:ct→Bool}(h:∀j u,j<k→vs[j]?=some u→P u=false):(vs.take k).any P=false:=by
 rw[List.any_eq_false];intro u hu;obtain⟨j,hj,rfl⟩:=List.getElem_of_mem hu;rw[IE] at hj;have:=h j vs[j] (by omega) (Iy (by omega));rw[List.getElem_take,this];simp
theorem uW{vs:List ct}{k j:Nat}{u:ct}{P:ct→Bool}(hj:j<k)(hu:vs[j]?=some u)(h:P u=true):(vs.take k).any P=true:=by
 rw[List.any_eq_true];exact⟨u,IM (by rw[List.getElem?_take];rw[if_pos hj];exact hu),h⟩
theorem uX(A:Option Addr)(n c:Nat)(f:bf)(hs:ao f)(w:World)(hn:n=f.vips.length)(hb:VS w w.heap.size A f.vips)(hl:n≤1000000) :
  Calls IW 70 #[iT A n c f] w fun e w'=>e=.returned (.bool (aQ f))∧Below w.heap.size w w':=by
 subst hn;unfold iT;obtain⟨W,hW⟩:∃W,W=w.alloc (.cells (am A f.vips.length c f).toArray 29):=⟨_,rfl⟩;have hX:aj W w.heap.size 29 (am A f.vips.length c f).toArray:=by rw[hW];exact aj.new w _ _ _ rfl
 have hB:Below w.heap.size w W:=by rw[hW];exact (Below.refl _ _).alloc (IJ _) _
 have HX:Hid (∀w',Below W.heap.size W w'→aj w' w.heap.size 29 (am A f.vips.length c f).toArray):=fun w' h=>aj.below hX h hX.lt
 have HV:=hid ((hb.below hB).more hB.size);have Hs:=hid hs;have a0:=i8 hX;have HW:=hid hW;have HB:=hid hB;clear hW hX hB hb hs;by_cases h64:f.vips.length≤64
 rotate_left
 ·have h64I:(64:Int)<(f.vips.length:Int):=by omega
  have Hr:Hid (aQ f=false):=qf (by
   rcases hb:jG f.vips with _|_
   ·rfl
   ·exact absurd (jd.1 hb).1 h64)
  go_enter Tryz.func70,Tryz.ntmps70
  go_upto_region 1 with fail
  rw[←HW.out]
  go_wp2
  go_ret
  exact⟨by rw[Hr.out];rfl,HB.out⟩
 have h64I:¬(64:Int)<(f.vips.length:Int):=by omega
 go_enter Tryz.func70,Tryz.ntmps70
 go_upto_region 1 with fail
 rw[←HW.out]
 go_wp2_with fail
 go_loopw [3] (fun i wr=>∃k:Nat,k≤f.vips.length∧i=.int .i64 (k:Int)∧Hid (Below W.heap.size W wr)∧Hid (∀j,j<k→kp f.vips j=true)) (fun i _=>f.vips.length-(intOf i).toNat)
 case atStart=>exact⟨0,by omega,rfl,Below.refl _ _,fun j hj=>by omega⟩
 case round =>
  obtain⟨k,hk,rfl,hbel,hat⟩:=hrel;rename World=>wo
  clear a0;have a0:=i8 (HX.out wo hbel.out);by_cases hlt:k<f.vips.length
  ·have hltI:(k:Int)<(f.vips.length:Int):=by omega
   have hk0:(0:Int)≤(k:Int):=by omega
   obtain⟨b1,o1,hA,hbB,hc⟩:=HV.out (by omega);subst hA;have HV2:Hid (∀w',Below W.heap.size W w'→∀j v,f.vips[j]?=some v→w'.rangeAt b1 (o1+j*20) (aI v)):=fun w' h j v hv i u hu=>(h.cell (p:=⟨b1,_,none⟩) hbB).trans (hc j v hv i u hu)
   obtain⟨v,hv⟩:∃v,v=f.vips[k]:=⟨_,rfl⟩;have hv?:f.vips[k]?=some v:=by rw[Iy hlt,hv]
   have hvo:aS v.1:=Hs.out.vips v (by rw[hv];exact IL hlt);have HRv:=hid (HV2.out wo hbel.out k v hv?);have Hvo:=hid hvo;have Hv?:=hid hv?;have Bw:=hbel;clear hv hv? hvo hc;obtain⟨x1,hx1⟩:∃W,W=wo.alloc (.cells (aI ia).toArray 108):=⟨_,rfl⟩;obtain⟨y1,hy1⟩:∃W,W=x1.setCells wo.heap.size 0 (aI v):=⟨_,rfl⟩;obtain⟨hth1,hbx1,hbe1⟩:=jE wo x1 y1 108 (aI ia) (aI v) (by rw[bK Hvo.out,bK (v:=ia) mF]) hx1 hy1;rw[qd] at hx1;have HX1:=hid hx1;have HY1:=hid hy1;have Hth1:=hid hth1;have Hbe1:=hid hbe1;have H4n:=hid hbx1;clear hx1 hy1 hth1 hbx1 hbe1;go_upto_region 7 with (first
    |(rw[←HX1.out];(with_reducible refine aR 108 ?_);refine wpList_store_mid rfl 108 (.tmp 4) (.tmp 23) rfl wo.heap.size 0 (aI v).toArray rfl rfl Hth1.out (uV Hvo.out) (gV v) ?_)
    |((with_reducible refine aB 108 ?_);refine aa (by rfl) 108 (.tmp 22) rfl b1 (o1+k*20) rfl (aI v) _ HRv.out IK rfl (qV Hvo.out) ?_))
   rw[←HY1.out];clear HX1 HY1 Hth1;have Bw':Hid (Below W.heap.size W y1):=Bw.out.trans (Hbe1.out.mono Bw.out.size);clear Bw;have Bw:=Bw';clear Bw';have H4:=H4n;clear H4n Hbe1;go_frame
   clear a0 HRv;have R4a:=hid (eL H4.out);have Haz:=hid (eo Hvo.out);go_cut [43] from 24 to 43 (fun v43 wc=>∃b:Bool,v43=.bool b∧Hid (i6 v=!b)∧Hid (Below y1.heap.size y1 wc))
   case first =>
    go_wp2_with (first|((with_reducible refine aB 27 ?_);refine aa (by rfl) 27 (.tmp 24) rfl wo.heap.size 0 rfl (ai v.1) _ R4a.out IC rfl Haz.out ?_))
    refine (oT v.1 Hvo.out y1).mono ?_;rintro e w3 ⟨rfl,hb3⟩;have Hc3:=hid hb3;have H43:=aj.below H4.out hb3 H4.out.lt;have c17:=qW Hvo.out H43;have c18:=qX Hvo.out H43;clear hb3 H43;rcases v with ⟨va,p,q,vt⟩
    simp only at c17 c18;rcases hsh:de va with _|_
    ·have Hvr:Hid (i6 (va,p,q,vt)=false):=by show _=_;simp only[i6,hsh,IA]
     clear hsh
     go_wp2
     go_meet
     case rel=>exact⟨true,rfl,Hvr,Hc3⟩
    have Hsh:=hid hsh;clear hsh;by_cases hp6:p=6
    rotate_left
    ·by_cases hp17:p=17
     rotate_left
     ·have Hvr:Hid (i6 (va,p,q,vt)=false):=by show _=_;simp[i6,hp6,hp17]
      have h6:(p==6)=false:=beq_eq_false_iff_ne.2 hp6;have h17:(p==17)=false:=beq_eq_false_iff_ne.2 hp17
      go_wp2
      go_meet
      case rel=>exact⟨true,rfl,Hvr,Hc3⟩
     subst hp17;have Hvr:Hid (i6 (va,17,q,vt)=mx q 1 65535):=by show _=_;simp[i6,Hsh.out]
     go_wp2_with fail
     refine (go q 1 65535 w3).mono ?_;rintro e w4 ⟨rfl,rfl⟩;rcases hq:mx q 1 65535 with _|_
     ·rw[hq] at Hvr
      clear hq
      go_wp2
      go_meet
      case rel=>exact⟨true,rfl,Hvr,Hc3⟩
     ·rw[hq] at Hvr
      clear hq
      go_wp2
      go_meet
      case rel=>exact⟨false,rfl,Hvr,Hc3⟩
    subst hp6;have Hvr:Hid (i6 (va,6,q,vt)=mx q 1 65535):=by show _=_;simp[i6,Hsh.out]
    go_wp2_with fail
    refine (go q 1 65535 w3).mono ?_;rintro e w4 ⟨rfl,rfl⟩;rcases hq:mx q 1 65535 with _|_
    ·rw[hq] at Hvr
     clear hq
     go_wp2
     go_meet
     case rel=>exact⟨true,rfl,Hvr,Hc3⟩
    ·rw[hq] at Hvr
     clear hq
     go_wp2
     go_meet
     case rel=>exact⟨false,rfl,Hvr,Hc3⟩
   case rest =>
    obtain⟨bb,rfl,Hvr,Hc⟩:=hcut;clear R4a Haz;have H4':=hid (aj.below H4.out Hc.out H4.out.lt);clear H4;have H4:=H4';clear H4';have Bw':Hid (Below W.heap.size W wc):=Bw.out.trans (Hc.out.mono Bw.out.size);clear Bw;have Bw:=Bw';clear Bw';clear Hc;have hat2:=Ex Hv?.out;rcases bb with _|_
    rotate_left
    ·have Hr:Hid (aQ f=false):=qf (xC hlt (by rw[hat2,Hvr.out];rfl))
     clear hat2
     go_wp2
     go_ret
     exact⟨by rw[Hr.out];rfl,HB.out.trans (Bw.out.mono HB.out.size)⟩
    rw[Hvr.out,Bool.not_false,Bool.true_and] at hat2;have Hat2:=hid hat2;clear hat2
    go_wp2_with fail
    go_loopw [5] (fun i wr=>∃m:Nat,m≤k∧i=.int .i64 (m:Int)∧Hid (Below W.heap.size W wr)∧Hid (aj wr wo.heap.size 108 (aI v).toArray)∧Hid (∀j u,j<m→f.vips[j]?=some u→eT v.1 v.2.1 v.2.2.1 u=false)) (fun i _=>k-(intOf i).toNat)
    case atStart=>exact⟨0,by omega,rfl,Bw,H4,fun j u hj=>by omega⟩
    case round =>
     clear Bw H4;obtain⟨m,hm,rfl,Bw,H4,hno⟩:=hrel;rename World=>wi
     have a0:=i8 (HX.out wi Bw.out);by_cases hlm:m<k
     ·skip
      have hlmI:(m:Int)<(k:Int):=by omega
      have hm0:(0:Int)≤(m:Int):=by omega
      have hml:m<f.vips.length:=by omega
      obtain⟨u,hu⟩:∃u,u=f.vips[m]:=⟨_,rfl⟩;have hu?:f.vips[m]?=some u:=by rw[Iy hml,hu]
      have huo:aS u.1:=Hs.out.vips u (by rw[hu];exact IL hml);have HRu:=hid (HV2.out wi Bw.out m u hu?);have Huo:=hid huo;have Hu?:=hid hu?;clear hu hu? huo;obtain⟨x2,hx2⟩:∃W,W=wi.alloc (.cells (aI ia).toArray 108):=⟨_,rfl⟩;obtain⟨y2,hy2⟩:∃W,W=x2.setCells wi.heap.size 0 (aI u):=⟨_,rfl⟩;obtain⟨hth2,hbx2,hbe2⟩:=jE wi x2 y2 108 (aI ia) (aI u) (by rw[bK Huo.out,bK (v:=ia) mF]) hx2 hy2;rw[qd] at hx2;have HX2:=hid hx2;have HY2:=hid hy2;have Hth2:=hid hth2;have Hbe2:=hid hbe2;have H6n:=hid hbx2;clear hx2 hy2 hth2 hbx2 hbe2;have R4:=hid (ag H4.out);go_upto_region 13 with (first
       |((with_reducible refine aB 108 ?_);refine aa (by rfl) 108 (.tmp 4) rfl wo.heap.size 0 rfl (aI v) _ R4.out IK rfl (qV Hvo.out) ?_)
       |(rw[←HX2.out];(with_reducible refine aR 108 ?_);refine wpList_store_mid rfl 108 (.tmp 6) (.tmp 53) rfl wi.heap.size 0 (aI u).toArray rfl rfl Hth2.out (uV Huo.out) (gV u) ?_)
       |((with_reducible refine aB 108 ?_);refine aa (by rfl) 108 (.tmp 52) rfl b1 (o1+m*20) rfl (aI u) _ HRu.out IK rfl (qV Huo.out) ?_))
      clear R4;rw[←HY2.out];clear HX2 HY2 Hth2;have H4':=hid (aj.below H4.out Hbe2.out H4.out.lt);clear H4;have H4:=H4';clear H4';have Bw':Hid (Below W.heap.size W y2):=Bw.out.trans (Hbe2.out.mono Bw.out.size);clear Bw;have Bw:=Bw';clear Bw';have H6:=H6n;clear H6n Hbe2;go_frame
      clear a0 HRu;have R4a:=hid (eL H4.out);have R6a:=hid (eL H6.out);have Haz:=hid (eo Hvo.out);have Hbz:=hid (eo Huo.out);have c17:=qW Hvo.out H4.out;have c18:=qX Hvo.out H4.out;have d17:=qW Huo.out H6.out;have d18:=qX Huo.out H6.out;have hEq:=gT 9997 v.1 u.1 Hvo.out Huo.out y2;rcases he:(v.1==u.1) with _|_
      ·rw[he] at hEq
       have HEq:=hid hEq;have hn:eT v.1 v.2.1 v.2.2.1 u=false:=by
        have h1:(u.1==v.1)=false:=beq_eq_false_iff_ne.2 (fun h=>by rw[h] at he;simp at he);unfold eT;rw[h1];rfl
       have Hn:=hid hn;clear hEq he hn;have Hno2:Hid (∀j y,j<m+1→f.vips[j]?=some y→eT v.1 v.2.1 v.2.2.1 y=false):=fun j y hj hy=>by
        rcases IQ j m with h1|h1
        ·exact hno.out j y h1 hy
        ·obtain rfl:j=m:=by omega
         rw[Hu?.out] at hy;injection hy with hy
         rw[←hy];exact Hn.out
       go_wp2_with (first|((with_reducible refine aB 27 ?_);refine aa (by rfl) 27 (.tmp 54) rfl wo.heap.size 0 rfl (ai v.1) _ R4a.out IC rfl Haz.out ?_)|((with_reducible refine aB 27 ?_);refine aa (by rfl) 27 (.tmp 56) rfl wi.heap.size 0 rfl (ai u.1) _ R6a.out IC rfl Hbz.out ?_)|((with_reducible refine vp 27 ?_);refine eD (by rfl) 27 27 (.tmp 55) (.tmp 57) rfl (ai v.1).toArray (ai u.1).toArray rfl rfl eQ false HEq.out ?_))
       go_roundw
       case rel=>exact⟨m+1,by omega,by go_num,Bw,H4,Hno2⟩
       case measure=>simp[intOf];omega
      ·rw[he] at hEq
       have HEq:=hid hEq;have hvu:u.1=v.1:=(beq_iff_eq.1 he).symm;have Hvu:=hid hvu;clear hEq he hvu;obtain⟨p,hp⟩:∃p,p=v.2.1:=⟨_,rfl⟩;obtain⟨q,hq⟩:∃p,p=v.2.2.1:=⟨_,rfl⟩;obtain⟨p2,hp2⟩:∃p,p=u.2.1:=⟨_,rfl⟩;obtain⟨q2,hq2⟩:∃p,p=u.2.2.1:=⟨_,rfl⟩;rw[←hp] at c17;rw[←hq] at c18;rw[←hp2] at d17;rw[←hq2] at d18;by_cases hpp:p=p2
       ·by_cases hqq:q=q2
        ·have Hr:Hid (aQ f=false):=qf (xC hlt (by
          rw[Hat2.out,uW hlm Hu?.out (by unfold eT;rw[Hvu.out,←hp2,←hq2,←hpp,←hqq,hp,hq];simp)];rfl))
         rw[←hpp] at d17;rw[←hqq] at d18;clear hp hq hp2 hq2 hpp hqq
         go_wp2_with (first|((with_reducible refine aB 27 ?_);refine aa (by rfl) 27 (.tmp 54) rfl wo.heap.size 0 rfl (ai v.1) _ R4a.out IC rfl Haz.out ?_)|((with_reducible refine aB 27 ?_);refine aa (by rfl) 27 (.tmp 56) rfl wi.heap.size 0 rfl (ai u.1) _ R6a.out IC rfl Hbz.out ?_)|((with_reducible refine vp 27 ?_);refine eD (by rfl) 27 27 (.tmp 55) (.tmp 57) rfl (ai v.1).toArray (ai u.1).toArray rfl rfl eQ true HEq.out ?_))
         go_ret
         exact⟨by rw[Hr.out];rfl,HB.out.trans (Bw.out.mono HB.out.size)⟩
        ·have Hn:Hid (eT v.1 v.2.1 v.2.2.1 u=false):=by
          show _=_
          have h1:(u.2.2.1==v.2.2.1)=false:=beq_eq_false_iff_ne.2 (by rw[←hq,←hq2];exact fun h=>hqq h.symm);unfold eT;rw[h1,IB]
         have hqB:(q==q2)=false:=beq_eq_false_iff_ne.2 hqq;rw[←hpp] at d17;clear hp hq hp2 hq2 hpp;have Hno2:Hid (∀j y,j<m+1→f.vips[j]?=some y→eT v.1 v.2.1 v.2.2.1 y=false):=fun j y hj hy=>by
          rcases IQ j m with h1|h1
          ·exact hno.out j y h1 hy
          ·obtain rfl:j=m:=by omega
           rw[Hu?.out] at hy;injection hy with hy
           rw[←hy];exact Hn.out
         go_wp2_with (first|((with_reducible refine aB 27 ?_);refine aa (by rfl) 27 (.tmp 54) rfl wo.heap.size 0 rfl (ai v.1) _ R4a.out IC rfl Haz.out ?_)|((with_reducible refine aB 27 ?_);refine aa (by rfl) 27 (.tmp 56) rfl wi.heap.size 0 rfl (ai u.1) _ R6a.out IC rfl Hbz.out ?_)|((with_reducible refine vp 27 ?_);refine eD (by rfl) 27 27 (.tmp 55) (.tmp 57) rfl (ai v.1).toArray (ai u.1).toArray rfl rfl eQ true HEq.out ?_))
         go_roundw
         case rel=>exact⟨m+1,by omega,by go_num,Bw,H4,Hno2⟩
         case measure=>simp[intOf];omega
       ·have Hn:Hid (eT v.1 v.2.1 v.2.2.1 u=false):=by
         show _=_
         have h1:(u.2.1==v.2.1)=false:=beq_eq_false_iff_ne.2 (by rw[←hp,←hp2];exact fun h=>hpp h.symm);unfold eT;rw[h1,IB,IA]
        have hpB:(p==p2)=false:=beq_eq_false_iff_ne.2 hpp;clear hp hq hp2 hq2;have Hno2:Hid (∀j y,j<m+1→f.vips[j]?=some y→eT v.1 v.2.1 v.2.2.1 y=false):=fun j y hj hy=>by
         rcases IQ j m with h1|h1
         ·exact hno.out j y h1 hy
         ·obtain rfl:j=m:=by omega
          rw[Hu?.out] at hy;injection hy with hy
          rw[←hy];exact Hn.out
        go_wp2_with (first|((with_reducible refine aB 27 ?_);refine aa (by rfl) 27 (.tmp 54) rfl wo.heap.size 0 rfl (ai v.1) _ R4a.out IC rfl Haz.out ?_)|((with_reducible refine aB 27 ?_);refine aa (by rfl) 27 (.tmp 56) rfl wi.heap.size 0 rfl (ai u.1) _ R6a.out IC rfl Hbz.out ?_)|((with_reducible refine vp 27 ?_);refine eD (by rfl) 27 27 (.tmp 55) (.tmp 57) rfl (ai v.1).toArray (ai u.1).toArray rfl rfl eQ true HEq.out ?_))
        go_roundw
        case rel=>exact⟨m+1,by omega,by go_num,Bw,H4,Hno2⟩
        case measure=>simp[intOf];omega
     ·obtain rfl:m=k:=by omega
      have Hat3:Hid (∀j,j<m+1→kp f.vips j=true):=fun j hj=>by
       rcases IQ j m with h1|h1
       ·exact hat.out j h1
       ·obtain rfl:j=m:=by omega
        rw[Hat2.out,xD hno.out];rfl
      clear hlm
      go_wp2_with fail
      go_roundw
      case rel=>exact⟨m+1,by omega,by go_num,Bw,Hat3⟩
      case measure=>simp[intOf];omega
  ·have hltI:¬(k:Int)<(f.vips.length:Int):=by omega
   have HVt:Hid (jG f.vips=true):=jd.2 ⟨h64,fun j hj=>hat.out j (by omega)⟩;have hX:=HX.out wo hbel.out;have HBE:Hid (Below w.heap.size w wo):=HB.out.trans (hbel.out.mono HB.out.size);have hidl:f.idle.length=6:=Hs.out.idle;obtain⟨z0,hz0⟩:∃z,f.idle[0]?=some z:=⟨_,Iy (by omega)⟩;have c3:wo.cell? ⟨w.heap.size,3,none⟩=some (.int .i64 z0):=by
    have:=jv hX Hs.out (k:=0) (by decide);rw[hz0] at this;exact this
   have Hz0:=hid hz0;have HX2:=hid hX;clear hz0 hX hat;by_cases hz:z0=0
   rotate_left
   ·have Hr:Hid (aQ f=false):=tU (rW Hz0.out (.inr (.inr ⟨rfl,hz⟩)))
    have hzB:(z0==0)=false:=beq_eq_false_iff_ne.2 hz
    go_wp2
    go_ret
    exact⟨by rw[Hr.out];rfl,HBE.out⟩
   subst hz
   go_wp2_with fail
   clear c3;go_loopw [7] (fun i wr=>∃k:Nat,1≤k∧k≤6∧i=.int .i64 (k:Int)∧wo=wr∧Hid (∀j z,1≤j→j<k→f.idle[j]?=some z→0≤z∧z≤1000000)) (fun i _=>6-(intOf i).toNat)
   case atStart=>exact⟨1,by omega,by omega,rfl,rfl,fun j z h1 h2=>by omega⟩
   case round =>
    obtain⟨k3,hk1,hk6,rfl,rfl,hat⟩:=hrel;by_cases hlt3:k3<6
    ·have hlt3I:(k3:Int)<6:=by omega
     obtain⟨z,hz⟩:∃z,f.idle[k3]?=some z:=⟨_,Iy (by omega)⟩;have c3:wo.cell? ⟨w.heap.size,3+k3,none⟩=some (.int .i64 z):=by
      rw[jv HX2.out Hs.out hlt3,hz];rfl
     have Hz:=hid hz;clear hz
     go_wp2_with fail
     refine (go z 0 1000000 wo).mono ?_;rintro e wz ⟨rfl,rfl⟩;rcases hi:mx z 0 1000000 with _|_
     ·have Hr:Hid (aQ f=false):=tU (rW Hz.out (by
       by_cases h0:z<0
       ·exact .inl h0
       ·by_cases h1:1000000<z
        ·exact .inr (.inl h1)
        ·have:mx z 0 1000000=true:=j4.2 ⟨by omega,by omega⟩
         rw[hi] at this;cases this))
      clear hi
      go_wp2
      go_ret
      exact⟨by rw[Hr.out];rfl,HBE.out⟩
     ·have hib:=j4.1 hi
      have Hat3:Hid (∀j y,1≤j→j<k3+1→f.idle[j]?=some y→0≤y∧y≤1000000):=fun j y h1 hj hy=>by
       rcases IQ j k3 with h2|h2
       ·exact hat.out j y h1 h2 hy
       ·obtain rfl:j=k3:=by omega
        rw[Hz.out] at hy;injection hy with hy
        rw[←hy];exact hib
      clear hi hib c3
      go_wp2
      go_roundw
      case rel=>exact⟨k3+1,by omega,by omega,by go_num,trivial,Hat3⟩
      case measure=>simp[intOf];omega
    ·obtain rfl:k3=6:=by omega
     have HI:Hid (mH f.idle=true):=tE (fun j z hz=>by
      rcases Nat.eq_zero_or_pos j with rfl|hj
      ·rw[Hz0.out] at hz
       injection hz with hz
       exact⟨by omega,by omega,fun _=>hz.symm⟩
      ·have:=(List.getElem?_eq_some_iff.1 hz).1
       have:=hat.out j z hj (by omega) hz;exact⟨this.1,this.2,fun h=>by omega⟩) (by omega)
     clear hat hlt3 hk1 hk6;have cs:=lT HX2.out;have cr:=lU HX2.out;have ci:=lV HX2.out Hs.out;have cf:=lW HX2.out Hs.out;have c4:=vy HX2.out Hs.out;have HR4:=hid (lX HX2.out Hs.out);have Hasz:=hid (eo Hs.out.four)
     go_wp2_with fail
     refine (go f.size 2 65537 wo).mono ?_;rintro e wz ⟨rfl,rfl⟩;rcases h2:mx f.size 2 65537 with _|_
     ·have Hr:Hid (aQ f=false):=by show _=_;simp only[aQ,h2,IG,IA,IB]
      clear h2
      go_wp2
      go_ret
      exact⟨by rw[Hr.out];rfl,HBE.out⟩
     have H2:=hid h2;have hsz:=j4.1 h2;have hp:=ue f.size.toNat wo (by omega);rw[Iz (by omega)] at hp;have Hp:=hid hp;clear h2 hp hsz
     go_wp2_with fail
     refine (Hp.out).mono ?_;rintro e wz ⟨rfl,rfl⟩;rcases h3:jO f.size.toNat with _|_
     ·have Hr:Hid (aQ f=false):=by show _=_;simp only[aQ,h3,IG,IA,IB]
      clear h3
      go_wp2
      go_ret
      exact⟨by rw[Hr.out];rfl,HBE.out⟩
     have H3:=hid h3;clear h3 Hp
     go_wp2_with fail
     refine (go f.room 1 4096 wo).mono ?_;rintro e wz ⟨rfl,rfl⟩;rcases h4:mx f.room 1 4096 with _|_
     ·have Hr:Hid (aQ f=false):=by show _=_;simp only[aQ,h4,IG,IA,IB]
      clear h4
      go_wp2
      go_ret
      exact⟨by rw[Hr.out];rfl,HBE.out⟩
     have H4:=hid h4;clear h4
     go_wp2_with fail
     refine (go f.rise 1 100 wo).mono ?_;rintro e wz ⟨rfl,rfl⟩;rcases h5:mx f.rise 1 100 with _|_
     ·have Hr:Hid (aQ f=false):=by show _=_;simp only[aQ,h5,IG,IA,IB]
      clear h5
      go_wp2
      go_ret
      exact⟨by rw[Hr.out];rfl,HBE.out⟩
     have H5:=hid h5;clear h5
     go_wp2_with fail
     refine (go f.fall 1 100 wo).mono ?_;rintro e wz ⟨rfl,rfl⟩;rcases h6:mx f.fall 1 100 with _|_
     ·have Hr:Hid (aQ f=false):=by show _=_;simp only[aQ,h6,IG,IA,IB]
      clear h6
      go_wp2
      go_ret
      exact⟨by rw[Hr.out];rfl,HBE.out⟩
     have H6:=hid h6;clear h6;rcases h7:f.four.1 with _|_
     rotate_left
     ·rw[h7] at c4
      have Hr:Hid (aQ f=false):=by show _=_;simp only[aQ,h7,IG,IA,IB]
      clear h7
      go_wp2
      go_ret
      exact⟨by rw[Hr.out];rfl,HBE.out⟩
     rw[h7] at c4;have H7:=hid h7;have hsh:=oT f.four Hs.out.four wo;unfold iP at hsh;have Hsh:=hid hsh;clear h7 hsh
     go_wp2_with (first|((with_reducible refine aB 27 ?_);refine aa (by rfl) 27 (.tmp 120) rfl w.heap.size 17 rfl (ai f.four) _ HR4.out IC rfl Hasz.out ?_))
     refine Hsh.out.mono ?_;rintro e w3 ⟨rfl,hb3⟩;have HB3:Hid (Below w.heap.size w w3):=HBE.out.trans (hb3.mono HBE.out.size);rcases h8:de f.four with _|_
     ·have Hr:Hid (aQ f=false):=by show _=_;simp only[aQ,h8,IG,IA,IB]
      clear h8
      go_wp2
      go_ret
      exact⟨by rw[Hr.out];rfl,HB3.out⟩
     have H8:=hid h8;have hX3:=aj.below HX2.out hb3 HX2.out.lt;have c6:=uf hX3 Hs.out;have cm:=lY hX3 Hs.out;have ck:=lZ hX3 Hs.out;have cb:=ko hX3 Hs.out;clear h8 hb3 hX3 Hsh cs cr ci cf c4;rcases h9:f.six.1 with _|_
     ·rw[h9] at c6
      have Hr:Hid (aQ f=false):=by show _=_;simp only[aQ,h9,IA,IB]
      clear h9
      go_wp2
      go_ret
      exact⟨by rw[Hr.out];rfl,HB3.out⟩
     rw[h9] at c6;have H9:=hid h9;clear h9
     go_wp2_with fail
     refine (go f.most 1000 1048576 w3).mono ?_;rintro e wz ⟨rfl,rfl⟩;rcases h10:mx f.most 1000 1048576 with _|_
     ·have Hr:Hid (aQ f=false):=by show _=_;simp only[aQ,h10,IG,IA,IB]
      clear h10
      go_wp2
      go_ret
      exact⟨by rw[Hr.out];rfl,HB3.out⟩
     have H10:=hid h10;clear h10
     go_wp2_with fail
     refine (go f.keep 1 100 w3).mono ?_;rintro e wz ⟨rfl,rfl⟩;rcases h11:mx f.keep 1 100 with _|_
     ·have Hr:Hid (aQ f=false):=by show _=_;simp only[aQ,h11,IG,IA,IB]
      clear h11
      go_wp2
      go_ret
      exact⟨by rw[Hr.out];rfl,HB3.out⟩
     have H11:=hid h11;clear h11
     go_wp2_with fail
     refine (go f.batch 1 1000 w3).mono ?_;rintro e wz ⟨rfl,rfl⟩;rcases h12:mx f.batch 1 1000 with _|_
     ·have Hr:Hid (aQ f=false):=by show _=_;simp only[aQ,h12,IG,IA,IB]
      clear h12
      go_wp2
      go_ret
      exact⟨by rw[Hr.out];rfl,HB3.out⟩
     have H12:=hid h12;clear h12;have Hr:Hid (aQ f=true):=by show _=_;simp only[aQ,HI.out,HVt.out,H2.out,H3.out,H4.out,H5.out,H6.out,H7.out,H8.out,H9.out,H10.out,H11.out,H12.out];rfl
     go_wp2
     go_ret
     exact⟨by rw[Hr.out];rfl,HB3.out⟩
theorem qg(n:Nat)(w:World)(hn:n<18446744073709551616) :
  Calls IW 40 #[.int .u64 (n:Int)] w fun e w'=>∃A c,e=.returned (.slice A (aC n).length c)∧w'.ownsRow w.heap.size 5 1 (.slice A (aC n).length c) (aC n).length (ab (aC n))∧Below w.heap.size w w' :=
 (nZ n w n rfl hn).mono fun e w' ⟨v,h1,h2,h3⟩=>by
  obtain⟨A,c,rfl,_⟩:=cw h2;exact⟨A,c,h1,h2,h3⟩
theorem qh{n:Nat}(h:n<18446744073709551616):(aC n).length≤10:=by
 have:=fK (ns:=[n]) (by simpa using h);simpa[aJ] using this
theorem Fsx{w:World}{g:Nat}{t:TypeId}{A:Option Addr}{n c:Nat}{f:bf}(hb:aj w g t (am A n c f).toArray)(h:ao f){j:Nat}{u:UInt8}(hj:f.mac[j]?=some u):w.cell? ⟨g,11+j,none⟩=some (.int .u8 (u.toNat:Int)) :=
 qJ hb h j (mD u) (by rw[ab,II,hj];rfl)
theorem EF{w:World}{g:Nat}{t:TypeId}{A:Option Addr}{n c:Nat}{f:bf}(hb:aj w g t (am A n c f).toArray)(h:ao f){j:Nat}{u:UInt8}(hj:f.four.2[j]?=some u):w.cell? ⟨g,18+j,none⟩=some (.int .u8 (u.toNat:Int)):=by
 have:=lX hb h (1+j) (mD u) (by rw[ai,show 1+j=j+1 by omega,IT,ab,II,hj];rfl);rw[show 18+j=17+(1+j) by omega];exact this
theorem FT{w:World}{g:Nat}{t:TypeId}{A:Option Addr}{n c:Nat}{f:bf}(hb:aj w g t (am A n c f).toArray)(h:ao f){j:Nat}{u:UInt8}(hj:f.six.2[j]?=some u):w.cell? ⟨g,35+j,none⟩=some (.int .u8 (u.toNat:Int)):=by
 have:=rA hb h (1+j) (mD u) (by rw[ai,show 1+j=j+1 by omega,IT,ab,II,hj];rfl);rw[show 35+j=34+(1+j) by omega];exact this
def uZ(w:World)(m:List UInt8)(e:Ending)(w':World):Prop :=
 ∃A' c',e=.returned (.slice A' m.length c')∧w'.ownsRow w.heap.size 5 1 (.slice A' m.length c') m.length (ab m)∧Below w.heap.size w w'
theorem oH(xs:List UInt8)(k:Nat)(x:UInt8)(h:xs[k]?=some x):xs.take (k+1)=xs.take k++[x]:=by
 rw[IS,h];rfl
theorem CB(A:Option Addr)(c:Nat)(f:bf)(hf:ao f)(w:World)(hnc:f.vips.length≤c)(hb:VS w w.heap.size A f.vips)(hr:aQ f=true) :
  Calls IW 41 #[.agg (am A f.vips.length c f).toArray] w (uZ w (bM f)):=by
 obtain⟨i0,hi0,hz0,hz1,hz2⟩:=info_parts bB;have hrc:=gH.1 hr;have Hrc:=hid hrc;have hv64:=(jj hrc.vips).1;have hvR:Hid (∀v∈f.vips,i6 v=true):=(jj hrc.vips).2;obtain⟨W,hW⟩:∃W,W=w.alloc (.cells (am A f.vips.length c f).toArray 29):=⟨_,rfl⟩;have hX:aj W w.heap.size 29 (am A f.vips.length c f).toArray:=by rw[hW];exact aj.new w _ _ _ rfl
 have hB:Below w.heap.size w W:=by rw[hW];exact (Below.refl _ _).alloc (IJ _) _
 have a0:=i8 hX;have h0:nK w W w.heap.size (am A f.vips.length c f).toArray none 0 []:=⟨hX,World.ownsRow_nil _ _ _ _,hB⟩;have H0:=hid h0;have HV:=hid hb;have HW:=hid hW;clear hW hX hB hb hrc h0 hr;go_enter Tryz.func41,Tryz.ntmps41
 go_upto_region 1 with fail
 rw[←HW.out];clear HW
 go_wp2_with fail
 refine (qg f.vips.length W (by omega)).mono ?_;rintro e w2 ⟨A2,c2,rfl,hown2,hb2⟩;have h2:=H0.out.below hb2;have hsz2:=h2.2.2.size;have hl10:=qh (n:=f.vips.length) (by omega);have HB2:=hid (IZ hown2).1;have H2:=hid h2;clear hown2 hb2 h2 H0 a0;go_upto_region 3 with (at_builtin;refine ae _ rfl _ _ 43 rfl w.heap.size 5 i0 (.int .u8 0) 1 ID hi0 hz0 hz1 hz2 rfl (.slice none 0 0) [] rfl H2.out.2.1 _ A2 _ c2 (aC f.vips.length) rfl rfl HB2.out (by simp[maxLen];omega) (by simp;omega) hsz2 ?_;intro A3 c3 w3 hown3 hg3 _)
 have h3:=H2.out.grow hg3 hown3;simp only[I1] at h3;obtain⟨m0,hm0⟩:∃m0,m0=aC f.vips.length:=⟨_,rfl⟩;rw[←hm0] at h3 hl10 ⊢;have a0:=i8 h3.1;have H3:=hid h3;have Hm0:=hid hm0;clear h3 hown3 hg3 H2 HB2 hsz2 hm0
 go_wp2_with fail
 clear a0;go_loopw [3,4] (fun v i wr=>∃(k:Nat) (A':Option Addr) (c':Nat),k≤f.vips.length∧i=.int .i64 (k:Int)∧v=.slice A' (m0++(f.vips.take k).flatMap bC).length c'∧Hid (nK w wr w.heap.size (am A f.vips.length c f).toArray A' c' (m0++(f.vips.take k).flatMap bC))) (fun _ i _=>f.vips.length-(intOf i).toNat)
 case atStart=>exact⟨0,A3,c3,by omega,rfl,by simp,by have:=H3;simpa using this⟩
 case round =>
  obtain⟨k,A',c',hk,rfl,rfl,hat⟩:=hrel;rename World=>wr
  have a0:=i8 hat.out.1;by_cases hlt:k<f.vips.length
  ·have hltI:(k:Int)<(f.vips.length:Int):=by omega
   have hk0:(0:Int)≤(k:Int):=by omega
   obtain⟨b,oo,hA,hbB,hc⟩:=(HV.out.below hat.out.2.2) (by omega);subst hA;obtain⟨x,hx⟩:∃x,x=f.vips[k]:=⟨_,rfl⟩;have hx?:f.vips[k]?=some x:=by rw[Iy hlt,hx]
   have hrg:=hc k x hx?;have hxo:aS x.1:=hf.vips x (by rw[hx];exact IL hlt);have hxr:i6 x=true:=hvR.out x (by rw[hx];exact IL hlt);obtain⟨m,hm⟩:∃m,m=m0++(f.vips.take k).flatMap bC:=⟨_,rfl⟩;have hm2:m0++(f.vips.take (k+1)).flatMap bC=m++bC x:=by rw[tI _ _ _ hx?,←IF,←hm]
   have hml:m.length≤1400:=by
    have:=lI (f.vips.take k) (fun v hv=>hf.vips v (IN hv));rw[hm,qq];rw[IE] at this;omega
   rw[←hm] at hat ⊢;have Hm2:=hid hm2;have Hrg:=hid hrg;have Hxo:=hid hxo;have Hasz:=hid (eo hxo);have Hxr:=hid hxr;clear hc hrg hx hx? hm hm2 hxr hxo;have hszr:w.heap.size≤wr.heap.size:=hat.out.2.2.size;have Bw:Hid (Below w.heap.size w wr):=hat.out.2.2;obtain⟨x1,hx1⟩:∃W,W=wr.alloc (.cells (aI ia).toArray 108):=⟨_,rfl⟩;obtain⟨y1,hy1⟩:∃W,W=x1.setCells wr.heap.size 0 (aI x):=⟨_,rfl⟩;obtain⟨hth1,hbx1,hbe1⟩:=jE wr x1 y1 108 (aI ia) (aI x) (by rw[bK Hxo.out,bK (v:=ia) mF]) hx1 hy1;rw[qd] at hx1;have HX1:=hid hx1;have HY1:=hid hy1;have Hth1:=hid hth1;have Hbe1:=hid hbe1;have H5n:=hid hbx1;clear hx1 hy1 hth1 hbx1 hbe1;go_upto_region 7 with (first
    |(rw[←HX1.out];(with_reducible refine aR 108 ?_);refine wpList_store_mid rfl 108 (.tmp 5) (.tmp 31) rfl wr.heap.size 0 (aI x).toArray rfl rfl Hth1.out (uV Hxo.out) (gV x) ?_)
    |((with_reducible refine aB 108 ?_);refine aa (by rfl) 108 (.tmp 30) rfl b (oo+k*20) rfl (aI x) _ Hrg.out IK rfl (qV Hxo.out) ?_))
   rw[←HY1.out];clear HX1 HY1 Hth1;have hat':=hid (hat.out.below Hbe1.out);clear hat;have hat:=hat';clear hat';have Bw':Hid (Below w.heap.size w y1):=Bw.out.trans (Hbe1.out.mono Bw.out.size);clear Bw;have Bw:=Bw';clear Bw';have H5:=H5n;clear H5n Hbe1;have R5a:=hid (eL H5.out);clear Hrg a0 hszr Bw;rcases htun:x.2.2.2 with _|_
   all_goals
    have Htun:=hid htun;clear htun
    go_wp2_with (first
     |((with_reducible refine aB 27 ?_);refine aa (by rfl) 27 (.tmp 33) rfl wr.heap.size 0 rfl (ai x.1) _ R5a.out IC rfl Hasz.out ?_))
    refine (rx x.1 Hxo.out y1).mono ?_;rintro e w5 ⟨A5,c5,rfl,hown5,hb5⟩;have h5:=hat.out.below hb5;have hX5:=aj.below H5.out hb5 H5.out.lt;have hsz5:=h5.2.2.size;have hml2:m.length+(aW x.1).length≤1440:=by
     have hl16:x.1.2.length=16:=Hxo.out;unfold aW;split<;>simp<;>omega
    have Hown:=hid h5.2.1;have HB5:=hid (IZ hown5).1;have H5s:=hid h5;have HX5:=hid hX5;clear hown5 hb5 h5 hX5 R5a hat H5;go_upto_region 8 with (at_builtin;refine ae _ rfl (.tmp 32) (.tmp 35) 43 rfl w.heap.size 5 i0 (.int .u8 0) 1 ID hi0 hz0 hz1 hz2 rfl (.slice A' m.length c') m rfl Hown.out _ A5 _ c5 (aW x.1) rfl rfl HB5.out (by unfold maxLen;omega) (by omega) hsz5 ?_;intro A6 c6 w6 hown6 hg6 hob6)
    have h6:=H5s.out.grow hg6 hown6;have hX6:=aj.grown HX5.out hg6 (by
     rcases aK H5s.out.2.1 HX5.out (by decide) with h|h
     ·rw[h];simp
     ·exact fun e=>h e.symm)
    have c17:=qW Hxo.out hX6;have c18:=qX Hxo.out hX6;have c19:=hX6.cell 19;have H6:=hid h6;have HX6:=hid hX6;have hsz6:=h6.2.2.size;obtain⟨m1,hm1⟩:∃m1,m1=m++aW x.1:=⟨_,rfl⟩;have hm1l:m1.length≤1440:=by rw[hm1,qq];exact hml2
    rw[←hm1] at H6;rw[←qq,←hm1];have hp0:0≤x.2.1∧x.2.1≤17:=by
     have:=Hxr.out;simp only[i6,I0,Bool.or_eq_true,beq_iff_eq] at this;omega
    have hq0:1≤x.2.2.1∧x.2.2.1≤65535:=by
     have:=Hxr.out;simp only[i6,I0,j4] at this;exact this.2
    obtain⟨hp1,hp2⟩:=hp0;obtain⟨hq1,hq2⟩:=hq0;have hu1:x.2.1=((IP x.2.1.toNat).toNat:Int):=by rw[IR];omega
    have hu2:x.2.2.1/256=((IP (x.2.2.1.toNat/256)).toNat:Int):=by rw[IR];omega
    have hu3:x.2.2.1%256=((IP x.2.2.1.toNat).toNat:Int):=by rw[IR];omega
    obtain⟨L3,hL3⟩:∃L3,L3=[IP x.2.1.toNat,IP (x.2.2.1.toNat/256),IP x.2.2.1.toNat]:=⟨_,rfl⟩;have HL3l:Hid (L3.length=3):=by rw[hL3];rfl
    have Hcs:Hid ((#[.int .u8 x.2.1,.int .u8 (x.2.2.1/256),.int .u8 (x.2.2.1%256)]:Array Value)=(ab L3).toArray):=by
     show _=_
     rw[hL3];simp only[ab,IX,IY,mD];rw[←hu1,←hu2,←hu3]
    obtain⟨tb,htb⟩:∃tb:UInt8,tb=(if x.2.2.2 then 1 else 0):=⟨_,rfl⟩;have HM:Hid (m++bC x=m1++(L3++[tb])):=by show _=_;rw[hm1,hL3,htb,IF];rfl
    rw[Htun.out] at htb;simp only[reduceIte,Bool.false_eq_true] at htb;have Htb:=hid htb;clear htb c19;clear hu1 hu2 hu3 hL3 hm1 h6 hX6 hown6 hg6 hob6 H5s HX5 Hown HB5 hml2 hsz5;go_upto_region 9 with (at_builtin;refine ae _ rfl (.tmp 37) (.tmp 49) 43 rfl w.heap.size 5 i0 (.int .u8 0) 1 ID hi0 hz0 hz1 hz2 rfl (.slice A6 m1.length c6) m1 rfl (an H6.out.2.1 ((Below.refl _ _).alloc (IJ _) _)) _ (some ⟨w6.heap.size,0,none⟩) 3 3 L3 rfl HL3l.out.symm (BS.lit w6 L3 _ Hcs.out _ _) (by rw[HL3l.out];unfold maxLen;omega) (by rw[HL3l.out];omega) (by rw[show (w6.alloc _).heap.size=w6.heap.size+1 by simp];omega) ?_;intro A7 c7 w7 hown7 hg7 hob7)
    have h7:=(H6.out.alloc _).grow hg7 hown7;have hX7:=aj.grown (aj.alloc HX6.out _) hg7 (by
     rcases aK H6.out.2.1 HX6.out (by decide) with h|h
     ·rw[h];simp
     ·exact fun e=>h e.symm)
    have c19:w7.cell? ⟨wr.heap.size,19,none⟩=some (.bool x.2.2.2):=by rw[hX7.cell 19];exact n8 Hxo.out 2
    rw[Htun.out] at c19;obtain⟨m2,hm2⟩:∃m2,m2=m1++L3:=⟨_,rfl⟩;have hm2l:m2.length≤1450:=by have:=HL3l.out;rw[hm2,qq];omega
    rw[←hm2] at h7;rw[←qq,←hm2];have HM2:Hid (m++bC x=m2++[tb]):=by show _=_;rw[HM.out,hm2,IF]
    have H7:=hid h7;have hsz7:=h7.2.2.size;clear hm2 h7 hX7 hown7 hg7 hob7 H6 HX6 HM Hcs c17 c18 hsz6
    go_wp2_with (first
     |(at_builtin;refine ae _ rfl (.tmp 53) (.tmp 54) 43 rfl w.heap.size 5 i0 (.int .u8 0) 1 ID hi0 hz0 hz1 hz2 rfl (.slice A7 m2.length c7) m2 rfl (an H7.out.2.1 ((Below.refl _ _).alloc (IJ _) _)) _ (some ⟨w7.heap.size,0,none⟩) 1 1 [tb] rfl rfl (I2 w7 tb _ (by rw[Htb.out];rfl) _) (by simp;unfold maxLen;omega) (by simp;omega) (by rw[show (w7.alloc _).heap.size=w7.heap.size+1 by simp];omega) ?_;intro A8 c8 w8 hown8 hg8 hob8)
     |(at_builtin;refine ae _ rfl (.tmp 56) (.tmp 57) 43 rfl w.heap.size 5 i0 (.int .u8 0) 1 ID hi0 hz0 hz1 hz2 rfl (.slice A7 m2.length c7) m2 rfl (an H7.out.2.1 ((Below.refl _ _).alloc (IJ _) _)) _ (some ⟨w7.heap.size,0,none⟩) 1 1 [tb] rfl rfl (I2 w7 tb _ (by rw[Htb.out];rfl) _) (by simp;unfold maxLen;omega) (by simp;omega) (by rw[show (w7.alloc _).heap.size=w7.heap.size+1 by simp];omega) ?_;intro A8 c8 w8 hown8 hg8 hob8))
    have h8:=(H7.out.alloc _).grow hg8 hown8;rw[←HM2.out,←Hm2.out] at h8;have H8:=hid h8;have Hlen:Hid ((m0++(f.vips.take (k+1)).flatMap bC).length=m2.length+1):=by show _=_;rw[Hm2.out,HM2.out,qq];rfl
    clear h8 hown8 hg8 hob8 H7 c19 hp1 hp2 hq1 hq2;go_roundw
    case rel=>exact⟨k+1,A8,c8,by omega,by go_num,by rw[Hlen.out],H8⟩
    case measure=>simp[intOf];omega
  ·have hltI:¬(k:Int)<(f.vips.length:Int):=by omega
   have hkn:f.vips.take k=f.vips:=IH (by omega);rw[hkn] at hat ⊢;obtain⟨m1,hm1⟩:∃m1,m1=m0++f.vips.flatMap bC:=⟨_,rfl⟩;have hm1l:m1.length≤1400:=by
    have:=lI f.vips hf.vips;rw[hm1,qq];omega
   rw[←hm1] at hat ⊢;have Hm1:Hid (m1=aC f.vips.length++f.vips.flatMap bC):=by show _=_;rw[hm1,Hm0.out]
   clear hm1 hkn hl10 Hm0;obtain⟨ns,hns⟩:∃ns,ns=dd f:=⟨_,rfl⟩;obtain⟨ks,hks⟩:∃ks,ks=dN f:=⟨_,rfl⟩;have Hn64:Hid (∀n∈ns,n<9223372036854775808):=fun n hn=>by have:=mN hf Hrc.out n (by rw[←hns];exact hn);omega
   have Hk64:Hid (∀n∈ks,n<9223372036854775808):=fun n hn=>by have:=mO Hrc.out n (by rw[←hks];exact hn);omega
   have Hnl:Hid (ns.length=9):=by show _=_;rw[hns];simp[dd,hf.idle]
   have Hkl:Hid (ks.length=3):=by show _=_;rw[hks];rfl
   obtain⟨i0',i1,i2,i3,i4,i5,hidl⟩:∃a b c d e g,f.idle=[a,b,c,d,e,g]:=by
    have:=hf.idle;match h:f.idle,this with
    |[a,b,c,d,e,g],_=>exact⟨a,b,c,d,e,g,rfl⟩
   have hX:=hat.out.1;have hix:=(jc Hrc.out.idle).2;rw[hidl] at hix;have d1:=lT hX;have d2:=lU hX;have d4:wr.cell? ⟨w.heap.size,4,none⟩=some (.int .i64 i1):=by have:=jv hX hf (k:=1) (by decide);rw[hidl] at this;exact this
   have d5:wr.cell? ⟨w.heap.size,5,none⟩=some (.int .i64 i2):=by have:=jv hX hf (k:=2) (by decide);rw[hidl] at this;exact this
   have d6:wr.cell? ⟨w.heap.size,6,none⟩=some (.int .i64 i3):=by have:=jv hX hf (k:=3) (by decide);rw[hidl] at this;exact this
   have d7:wr.cell? ⟨w.heap.size,7,none⟩=some (.int .i64 i4):=by have:=jv hX hf (k:=4) (by decide);rw[hidl] at this;exact this
   have d8:wr.cell? ⟨w.heap.size,8,none⟩=some (.int .i64 i5):=by have:=jv hX hf (k:=5) (by decide);rw[hidl] at this;exact this
   have d9:=lV hX hf;have d10:=lW hX hf;have hr1:=Hrc.out.size;have hr2:=Hrc.out.room;have hr3:=Hrc.out.rise;have hr4:=Hrc.out.fall;have hj1:=hix i1 (by simp);have hj2:=hix i2 (by simp);have hj3:=hix i3 (by simp);have hj4:=hix i4 (by simp);have hj5:=hix i5 (by simp);have Hcells:Hid ((#[.int .i64 f.size,.int .i64 f.room,.int .i64 i1,.int .i64 i2,.int .i64 i3,.int .i64 i4,.int .i64 i5,.int .i64 f.rise,.int .i64 f.fall]:Array Value)=(ns.map fun n:Nat=>IU .i64 (n:Int)).toArray):=by
    show _=_
    rw[hns];unfold dd;rw[hidl];simp only[List.drop_succ_cons,List.drop_zero,IX,IY,List.cons_append,I1];rw[Iz (show 0≤f.size by omega),Iz (show 0≤f.room by omega),Iz hj1.1,Iz hj2.1,Iz hj3.1,Iz hj4.1,Iz hj5.1,Iz (show 0≤f.rise by omega),Iz (show 0≤f.fall by omega)]
   have Hns:=hid hns;have Hks:=hid hks;clear hns hks hidl hix hr1 hr2 hr3 hr4 hj1 hj2 hj3 hj4 hj5 hX;go_upto_region 14 with fail
   obtain⟨w9,hw9⟩:∃W,W=wr.alloc (.cells #[.int .i64 f.size,.int .i64 f.room,.int .i64 i1,.int .i64 i2,.int .i64 i3,.int .i64 i4,.int .i64 i5,.int .i64 f.rise,.int .i64 f.fall] 3):=⟨_,rfl⟩;rw[←hw9];have Hp9:Hid (nK w w9 w.heap.size (am A f.vips.length c f).toArray A' c' m1):=by rw[hw9];exact hat.out.alloc _
   have Hb9:Hid (aj w9 wr.heap.size 3 (ns.map fun n:Nat=>IU .i64 (n:Int)).toArray):=by rw[hw9,Hcells.out];exact aj.new _ _ _ _ rfl
   obtain⟨gn,hgn⟩:∃g,g=wr.heap.size:=⟨_,rfl⟩;rw[←hgn] at Hb9 ⊢;clear hw9 hgn d1 d2 d4 d5 d6 d7 d8 d9 d10 hat Hcells a0;skip
   go_loopw [3,7] (fun v i wr=>∃(k:Nat) (A':Option Addr) (c':Nat),k≤9∧i=.int .i64 (k:Int)∧v=.slice A' (m1++aJ (ns.take k)).length c'∧Hid (nK w wr w.heap.size (am A f.vips.length c f).toArray A' c' (m1++aJ (ns.take k)))∧Hid (aj wr gn 3 (ns.map fun n:Nat=>IU .i64 (n:Int)).toArray)) (fun _ i _=>9-(intOf i).toNat)
   case atStart=>exact⟨0,A',c',by omega,rfl,by simp[aJ],by have:=Hp9;simpa[aJ] using this,Hb9⟩
   case round =>
    obtain⟨k,A',c',hk,rfl,rfl,hat,hbn⟩:=hrel;rename World=>wr
    by_cases hlt:k<9
    ·have hltI:(k:Int)<9:=by omega
     have hk0:(0:Int)≤(k:Int):=by omega
     obtain⟨q,hq⟩:∃q,ns[k]?=some q:=⟨_,Iy (by have:=Hnl.out;omega)⟩;have hq64:=Hn64.out q (IM hq);have d0:wr.cell? ⟨gn,k,none⟩=some (.int .i64 (q:Int)):=by rw[hbn.out.cell k,IV,II,hq];rfl
     obtain⟨m,hm⟩:∃m,m=m1++aJ (ns.take k):=⟨_,rfl⟩;have hm2:m1++aJ (ns.take (k+1))=m++aC q:=by
      rw[IS,hq,fW,←IF,←hm];simp[aJ]
     have hml:m.length≤1490:=by
      have:=fK (ns:=ns.take k) (fun n hn=>by have:=Hn64.out n (IN hn);omega);rw[hm,qq];rw[IE] at this;omega
     rw[←hm] at hat ⊢;have Hm2:=hid hm2;clear hm hm2 hq
     go_wp2_with fail
     refine (qg q wr (by omega)).mono ?_;rintro e w5 ⟨A5,c5,rfl,hown5,hb5⟩;have h5:=hat.out.below hb5;have hB5:=aj.below hbn.out hb5 hbn.out.lt;have hsz5:=h5.2.2.size;have hq10:=qh (n:=q) (by omega);have Hown:=hid h5.2.1;have HB5:=hid (IZ hown5).1;have H5s:=hid h5;have HB5b:=hid hB5;clear hown5 hb5 h5 hB5 hat hbn d0
     go_wp2_with (at_builtin;refine ae _ rfl (.tmp 89) (.tmp 95) 43 rfl w.heap.size 5 i0 (.int .u8 0) 1 ID hi0 hz0 hz1 hz2 rfl (.slice A' m.length c') m rfl Hown.out _ A5 _ c5 (aC q) rfl rfl HB5.out (by unfold maxLen;omega) (by omega) hsz5 ?_;intro A6 c6 w6 hown6 hg6 hob6)
     have h6:=H5s.out.grow hg6 hown6;have hB6:=aj.grown HB5b.out hg6 (by
      rcases aK H5s.out.2.1 HB5b.out (by decide) with h|h
      ·rw[h];simp
      ·exact fun e=>h e.symm)
     rw[←Hm2.out] at h6;have H6:=hid h6;have HB6:=hid hB6;have Hlen:Hid ((m1++aJ (ns.take (k+1))).length=m.length+(aC q).length):=by show _=_;rw[Hm2.out,qq]
     clear h6 hB6 hown6 hg6 hob6 H5s HB5b Hown HB5;go_roundw
     case rel=>exact⟨k+1,A6,c6,by omega,by go_num,by rw[Hlen.out],H6,HB6⟩
     case measure=>simp[intOf];omega
    ·have hltI:¬(k:Int)<9:=by omega
     have hkn:ns.take k=ns:=IH (by have:=Hnl.out;omega);rw[hkn] at hat ⊢;obtain⟨m2,hm2⟩:∃m',m'=m1++aJ ns:=⟨_,rfl⟩;have hm2l:m2.length≤1490:=by
      rw[hm2,qq];have:=fK (ns:=ns) (fun n hn=>by have:=Hn64.out n hn;omega);have:=Hnl.out;omega
     rw[←hm2] at hat ⊢;have Hm2:=hid hm2;clear hm2 hkn hbn
     go_wp2_with fail
     go_loopw [3,8] (fun v i wr=>∃(k:Nat) (A':Option Addr) (c':Nat),k≤6∧i=.int .i64 (k:Int)∧v=.slice A' (m2++f.mac.take k).length c'∧Hid (nK w wr w.heap.size (am A f.vips.length c f).toArray A' c' (m2++f.mac.take k))) (fun _ i _=>6-(intOf i).toNat)
     case atStart=>exact⟨0,A',c',by omega,rfl,by simp,by have:=hat;simpa using this⟩
     case round =>
      clear hat;obtain⟨k,A',c',hk,rfl,rfl,hat⟩:=hrel;rename World=>wr
      by_cases hlt:k<6
      ·have hltI:(k:Int)<6:=by omega
       have hk0:(0:Int)≤(k:Int):=by omega
       obtain⟨x,hx⟩:∃x,f.mac[k]?=some x:=⟨_,Iy (by have:=hf.mac;have:f.four.2.length=16:=hf.four;have:f.six.2.length=16:=hf.six;omega)⟩;have d0:=Fsx hat.out.1 hf hx;obtain⟨m,hm⟩:∃m,m=m2++f.mac.take k:=⟨_,rfl⟩;have hm2:m2++f.mac.take (k+1)=m++[x]:=by rw[oH _ _ _ hx,←IF,←hm]
       have hml:m.length≤1500:=by
        rw[hm,qq,IE];omega
       rw[←hm] at hat ⊢;have hszr:=hat.out.2.2.size;have Hm2:=hid hm2;clear hm hm2 hx
       go_wp2_with (at_builtin;refine ae _ rfl (.tmp 101) (.tmp 106) 43 rfl w.heap.size 5 i0 (.int .u8 0) 1 ID hi0 hz0 hz1 hz2 rfl (.slice A' m.length c') m rfl (an hat.out.2.1 ((Below.refl _ _).alloc (IJ _) _)) _ (some ⟨wr.heap.size,0,none⟩) 1 1 [x] rfl rfl (I2 wr x _ rfl _) (by simp;unfold maxLen;omega) (by simp;omega) (by rw[show (wr.alloc _).heap.size=wr.heap.size+1 by simp];omega) ?_;intro A6 c6 w6 hown6 hg6 hob6)
       have h6:=(hat.out.alloc _).grow hg6 hown6;rw[←Hm2.out] at h6;have H6:=hid h6;have Hlen:Hid ((m2++f.mac.take (k+1)).length=m.length+1):=by show _=_;rw[Hm2.out,qq];rfl
       clear h6 hown6 hg6 hob6 hat d0;go_roundw
       case rel=>exact⟨k+1,A6,c6,by omega,by go_num,by rw[Hlen.out],H6⟩
       case measure=>simp[intOf];omega
      ·have hltI:¬(k:Int)<6:=by omega
       obtain rfl:k=6:=by omega
       obtain⟨m3,hm3⟩:∃m',m'=m2++f.mac.take 6:=⟨_,rfl⟩;have hm3l:m3.length≤1500:=by
        rw[hm3,qq];rw[IE];omega
       rw[←hm3] at hat ⊢;have Hm3:=hid hm3;clear hm3
       go_wp2_with fail
       go_loopw [3,9] (fun v i wr=>∃(k:Nat) (A':Option Addr) (c':Nat),k≤4∧i=.int .i64 (k:Int)∧v=.slice A' (m3++f.four.2.take k).length c'∧Hid (nK w wr w.heap.size (am A f.vips.length c f).toArray A' c' (m3++f.four.2.take k))) (fun _ i _=>4-(intOf i).toNat)
       case atStart=>exact⟨0,A',c',by omega,rfl,by simp,by have:=hat;simpa using this⟩
       case round =>
        clear hat;obtain⟨k,A',c',hk,rfl,rfl,hat⟩:=hrel;rename World=>wr
        by_cases hlt:k<4
        ·have hltI:(k:Int)<4:=by omega
         have hk0:(0:Int)≤(k:Int):=by omega
         obtain⟨x,hx⟩:∃x,f.four.2[k]?=some x:=⟨_,Iy (by have:=hf.mac;have:f.four.2.length=16:=hf.four;have:f.six.2.length=16:=hf.six;omega)⟩;have d0:=EF hat.out.1 hf hx;obtain⟨m,hm⟩:∃m,m=m3++f.four.2.take k:=⟨_,rfl⟩;have hm2:m3++f.four.2.take (k+1)=m++[x]:=by rw[oH _ _ _ hx,←IF,←hm]
         have hml:m.length≤1510:=by
          rw[hm,qq,IE];omega
         rw[←hm] at hat ⊢;have hszr:=hat.out.2.2.size;have Hm2:=hid hm2;clear hm hm2 hx
         go_wp2_with (at_builtin;refine ae _ rfl (.tmp 112) (.tmp 118) 43 rfl w.heap.size 5 i0 (.int .u8 0) 1 ID hi0 hz0 hz1 hz2 rfl (.slice A' m.length c') m rfl (an hat.out.2.1 ((Below.refl _ _).alloc (IJ _) _)) _ (some ⟨wr.heap.size,0,none⟩) 1 1 [x] rfl rfl (I2 wr x _ rfl _) (by simp;unfold maxLen;omega) (by simp;omega) (by rw[show (wr.alloc _).heap.size=wr.heap.size+1 by simp];omega) ?_;intro A6 c6 w6 hown6 hg6 hob6)
         have h6:=(hat.out.alloc _).grow hg6 hown6;rw[←Hm2.out] at h6;have H6:=hid h6;have Hlen:Hid ((m3++f.four.2.take (k+1)).length=m.length+1):=by show _=_;rw[Hm2.out,qq];rfl
         clear h6 hown6 hg6 hob6 hat d0;go_roundw
         case rel=>exact⟨k+1,A6,c6,by omega,by go_num,by rw[Hlen.out],H6⟩
         case measure=>simp[intOf];omega
        ·have hltI:¬(k:Int)<4:=by omega
         obtain rfl:k=4:=by omega
         obtain⟨m4,hm4⟩:∃m',m'=m3++f.four.2.take 4:=⟨_,rfl⟩;have hm4l:m4.length≤1510:=by
          rw[hm4,qq];rw[IE];omega
         rw[←hm4] at hat ⊢;have Hm4:=hid hm4;clear hm4
         go_wp2_with fail
         go_loopw [3,10] (fun v i wr=>∃(k:Nat) (A':Option Addr) (c':Nat),k≤16∧i=.int .i64 (k:Int)∧v=.slice A' (m4++f.six.2.take k).length c'∧Hid (nK w wr w.heap.size (am A f.vips.length c f).toArray A' c' (m4++f.six.2.take k))) (fun _ i _=>16-(intOf i).toNat)
         case atStart=>exact⟨0,A',c',by omega,rfl,by simp,by have:=hat;simpa using this⟩
         case round =>
          clear hat;obtain⟨k,A',c',hk,rfl,rfl,hat⟩:=hrel;rename World=>wr
          by_cases hlt:k<16
          ·have hltI:(k:Int)<16:=by omega
           have hk0:(0:Int)≤(k:Int):=by omega
           obtain⟨x,hx⟩:∃x,f.six.2[k]?=some x:=⟨_,Iy (by have:=hf.mac;have:f.four.2.length=16:=hf.four;have:f.six.2.length=16:=hf.six;omega)⟩;have d0:=FT hat.out.1 hf hx;obtain⟨m,hm⟩:∃m,m=m4++f.six.2.take k:=⟨_,rfl⟩;have hm2:m4++f.six.2.take (k+1)=m++[x]:=by rw[oH _ _ _ hx,←IF,←hm]
           have hml:m.length≤1530:=by
            rw[hm,qq,IE];omega
           rw[←hm] at hat ⊢;have hszr:=hat.out.2.2.size;have Hm2:=hid hm2;clear hm hm2 hx
           go_wp2_with (at_builtin;refine ae _ rfl (.tmp 124) (.tmp 130) 43 rfl w.heap.size 5 i0 (.int .u8 0) 1 ID hi0 hz0 hz1 hz2 rfl (.slice A' m.length c') m rfl (an hat.out.2.1 ((Below.refl _ _).alloc (IJ _) _)) _ (some ⟨wr.heap.size,0,none⟩) 1 1 [x] rfl rfl (I2 wr x _ rfl _) (by simp;unfold maxLen;omega) (by simp;omega) (by rw[show (wr.alloc _).heap.size=wr.heap.size+1 by simp];omega) ?_;intro A6 c6 w6 hown6 hg6 hob6)
           have h6:=(hat.out.alloc _).grow hg6 hown6;rw[←Hm2.out] at h6;have H6:=hid h6;have Hlen:Hid ((m4++f.six.2.take (k+1)).length=m.length+1):=by show _=_;rw[Hm2.out,qq];rfl
           clear h6 hown6 hg6 hob6 hat d0;go_roundw
           case rel=>exact⟨k+1,A6,c6,by omega,by go_num,by rw[Hlen.out],H6⟩
           case measure=>simp[intOf];omega
          ·have hltI:¬(k:Int)<16:=by omega
           obtain rfl:k=16:=by omega
           obtain⟨m5,hm5⟩:∃m',m'=m4++f.six.2.take 16:=⟨_,rfl⟩;have hm5l:m5.length≤1530:=by
            rw[hm5,qq];rw[IE];omega
           rw[←hm5] at hat ⊢;have Hm5:=hid hm5;clear hm5;skip
           have hX:=hat.out.1;have d1:=lY hX hf;have d2:=lZ hX hf;have d3:=ko hX hf;have hr5:=Hrc.out.most;have hr6:=Hrc.out.keep;have hr7:=Hrc.out.batch;have Hcells:Hid ((#[.int .i64 f.most,.int .i64 f.keep,.int .i64 f.batch]:Array Value)=(ks.map fun n:Nat=>IU .i64 (n:Int)).toArray):=by
            show _=_
            rw[Hks.out];unfold dN;simp only[IX,IY];rw[Iz (show 0≤f.most by omega),Iz (show 0≤f.keep by omega),Iz (show 0≤f.batch by omega)]
           clear hr5 hr6 hr7 hX;go_upto_region 31 with fail
           obtain⟨wA,hwA⟩:∃W,W=wr.alloc (.cells #[.int .i64 f.most,.int .i64 f.keep,.int .i64 f.batch] 3):=⟨_,rfl⟩;rw[←hwA];have HpA:Hid (nK w wA w.heap.size (am A f.vips.length c f).toArray A' c' m5):=by rw[hwA];exact hat.out.alloc _
           have HbA:Hid (aj wA wr.heap.size 3 (ks.map fun n:Nat=>IU .i64 (n:Int)).toArray):=by rw[hwA,Hcells.out];exact aj.new _ _ _ _ rfl
           obtain⟨gk,hgk⟩:∃g,g=wr.heap.size:=⟨_,rfl⟩;rw[←hgk] at HbA ⊢;clear hwA hgk d1 d2 d3 hat Hcells;go_loopw [3,12] (fun v i wr=>∃(k:Nat) (A':Option Addr) (c':Nat),k≤3∧i=.int .i64 (k:Int)∧v=.slice A' (m5++aJ (ks.take k)).length c'∧Hid (nK w wr w.heap.size (am A f.vips.length c f).toArray A' c' (m5++aJ (ks.take k)))∧Hid (aj wr gk 3 (ks.map fun n:Nat=>IU .i64 (n:Int)).toArray)) (fun _ i _=>3-(intOf i).toNat)
           case atStart=>exact⟨0,A',c',by omega,rfl,by simp[aJ],by have:=HpA;simpa[aJ] using this,HbA⟩
           case round =>
            obtain⟨k,A',c',hk,rfl,rfl,hat,hbn⟩:=hrel;rename World=>wr
            by_cases hlt:k<3
            ·have hltI:(k:Int)<3:=by omega
             have hk0:(0:Int)≤(k:Int):=by omega
             obtain⟨q,hq⟩:∃q,ks[k]?=some q:=⟨_,Iy (by have:=Hkl.out;omega)⟩;have hq64:=Hk64.out q (IM hq);have d0:wr.cell? ⟨gk,k,none⟩=some (.int .i64 (q:Int)):=by rw[hbn.out.cell k,IV,II,hq];rfl
             obtain⟨m,hm⟩:∃m,m=m5++aJ (ks.take k):=⟨_,rfl⟩;have hm2:m5++aJ (ks.take (k+1))=m++aC q:=by
              rw[IS,hq,fW,←IF,←hm];simp[aJ]
             have hml:m.length≤1560:=by
              have:=fK (ns:=ks.take k) (fun n hn=>by have:=Hk64.out n (IN hn);omega);rw[hm,qq];rw[IE] at this;omega
             rw[←hm] at hat ⊢;have Hm2:=hid hm2;clear hm hm2 hq
             go_wp2_with fail
             refine (qg q wr (by omega)).mono ?_;rintro e w5 ⟨A5,c5,rfl,hown5,hb5⟩;have h5:=hat.out.below hb5;have hB5:=aj.below hbn.out hb5 hbn.out.lt;have hsz5:=h5.2.2.size;have hq10:=qh (n:=q) (by omega);have Hown:=hid h5.2.1;have HB5:=hid (IZ hown5).1;have H5s:=hid h5;have HB5b:=hid hB5;clear hown5 hb5 h5 hB5 hat hbn d0
             go_wp2_with (at_builtin;refine ae _ rfl (.tmp 145) (.tmp 151) 43 rfl w.heap.size 5 i0 (.int .u8 0) 1 ID hi0 hz0 hz1 hz2 rfl (.slice A' m.length c') m rfl Hown.out _ A5 _ c5 (aC q) rfl rfl HB5.out (by unfold maxLen;omega) (by omega) hsz5 ?_;intro A6 c6 w6 hown6 hg6 hob6)
             have h6:=H5s.out.grow hg6 hown6;have hB6:=aj.grown HB5b.out hg6 (by
              rcases aK H5s.out.2.1 HB5b.out (by decide) with h|h
              ·rw[h];simp
              ·exact fun e=>h e.symm)
             rw[←Hm2.out] at h6;have H6:=hid h6;have HB6:=hid hB6;have Hlen:Hid ((m5++aJ (ks.take (k+1))).length=m.length+(aC q).length):=by show _=_;rw[Hm2.out,qq]
             clear h6 hB6 hown6 hg6 hob6 H5s HB5b Hown HB5;go_roundw
             case rel=>exact⟨k+1,A6,c6,by omega,by go_num,by rw[Hlen.out],H6,HB6⟩
             case measure=>simp[intOf];omega
            ·have hltI:¬(k:Int)<3:=by omega
             have hkn:ks.take k=ks:=IH (by have:=Hkl.out;omega);rw[hkn] at hat ⊢;have He:Hid (m5++aJ ks=bM f):=by
              show _=_
              have h16:f.six.2.take 16=f.six.2:=IH (by have:f.six.2.length=16:=hf.six;omega);have h6:f.mac.take 6=f.mac:=IH (by have:=hf.mac;omega);rw[Hm5.out,Hm4.out,Hm3.out,Hm2.out,Hm1.out,Hns.out,Hks.out,h16,h6];unfold bM;simp only[IF]
             rw[He.out] at hat ⊢;clear hkn hbn
             go_wp2
             go_ret
             exact⟨A',c',rfl,hat.out.2.1,hat.out.2.2⟩
