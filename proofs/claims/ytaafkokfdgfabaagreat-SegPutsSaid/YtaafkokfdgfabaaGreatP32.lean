import Derived.Test.YtaafkokfdgfabaaGreatP10
import Derived.Test.YtaafkokfdgfabaaGreatP20
import Derived.Test.YtaafkokfdgfabaaGreatP27
import Derived.Deep.LoopGhost
import Derived.Deep.RegionHeld3
import Derived.Deep.Cut
import Derived.Deep.CutRange
import Derived.Deep.CutBlock
set_option maxHeartbeats 8000000
set_option maxRecDepth 100000
set_option linter.unusedVariables false
set_option linter.unusedSimpArgs false
open List renaming setIfInBounds_toArray→qq,getElem_cons_succ→Iy,getElem_cons_zero→Iz,getElem_toArray→IA,set_cons_zero→IB,set_cons_succ→IC,length_append→IQ
open Nat renaming le_refl→IF,le_trans→IJ,zero_le→IN,eq_zero_or_pos→IR
open Option renaming getD_some→IS,some→IT,map_some→IU
open Or renaming inl→II
namespace Go.Proofs.YtaafkokfdgfabaaGreat
open Go.RowKit
open Lib (hid)
open Act renaming put→IE
open AllReadyH renaming cons→ID,nil→IG
open BS renaming of_own→IW
open IntWalk renaming i64_in→IV
open NoPanic renaming normal→IK
open Tryz renaming prog→IH,underlying43→IM,underlying108→IP
open World renaming grownBy→IL
theorem nC:(am none 0 0 bH).toArray=(#[.slice none 0 0,.int .i64 0,.int .i64 0,.int .i64 0,.int .i64 0,.int .i64 0,.int .i64 0,.int .i64 0,.int .i64 0,.int .i64 0,.int .i64 0,.int .u8 0,.int .u8 0,.int .u8 0,.int .u8 0,.int .u8 0,.int .u8 0,.bool false,.int .u8 0,.int .u8 0,.int .u8 0,.int .u8 0,.int .u8 0,.int .u8 0,.int .u8 0,.int .u8 0,.int .u8 0,.int .u8 0,.int .u8 0,.int .u8 0,.int .u8 0,.int .u8 0,.int .u8 0,.int .u8 0,.bool false,.int .u8 0,.int .u8 0,.int .u8 0,.int .u8 0,.int .u8 0,.int .u8 0,.int .u8 0,.int .u8 0,.int .u8 0,.int .u8 0,.int .u8 0,.int .u8 0,.int .u8 0,.int .u8 0,.int .u8 0,.int .u8 0,.int .i64 0,.int .i64 0,.int .i64 0]:Array Value):=rfl
theorem Ch:∃i z,IH.info? 108=some i∧i.zero=some z∧i.size=20∧i.bytes=48∧z.cells.size=20:=by
 have h:=Cb;rcases hi:IH.info? 108 with _|i
 ·rw[hi] at h;cases h
 ·rw[hi] at h
  simp only[IU,IT.injEq,Prod.mk.injEq] at h;obtain⟨h1,h2,h3⟩:=h;rcases hz:i.zero with _|z
  ·rw[hz] at h1;cases h1
  ·rw[hz] at h1
   simp only[IU,IT.injEq] at h1;exact⟨i,z,rfl,hz,h2,h3,h1⟩
def ec(m:Nat):Nat:=if m≤64 then m else 0
theorem Ed(A:Option Addr)(n c:Nat)(l:List UInt8)(w:World)(hn:n=l.length)(hb:BS w w.heap.size A l)(hl:n≤1000000000) :
  Calls IH 91 #[.slice A n c] w (uM w l):=by
 subst hn;obtain⟨i0,z0,hi0,hz0,hz1,hz2,hzc⟩:=Ch;obtain⟨W,hW⟩:∃W,W=(w.alloc (.cells (am none 0 0 bH).toArray 29)).alloc (.cells (am none 0 0 bH).toArray 29):=⟨_,rfl⟩;have hX2:aj W w.heap.size 29 (am none 0 0 bH).toArray:=by rw[hW];exact aj.alloc (aj.new w _ _ _ rfl) _
 have hX4:aj W (w.heap.size+1) 29 (am none 0 0 bH).toArray:=by rw[hW];exact aj.new _ _ _ _ (by simp)
 have hB:Below w.heap.size w W:=by rw[hW];exact ((Below.refl _ _).alloc (IF _) _).alloc (by simp) _
 have Hnew:=hid (mX A _ c l W rfl ((hb.below hB).more hB.size) hl);have HW:=hid hW;have HX2:=hid hX2;have HX4:=hid hX4;have HB:=hid hB;rw[nC] at HW;clear hW hX2 hX4 hB hb;go_enter Tryz.func91,Tryz.ntmps91
 go_upto_region 2 with fail
 rw[←HW.out]
 go_wp2_with fail
 refine Hnew.out.mono ?_;rintro e w1 ⟨g,rfl,hg1,hg2,hR1,hb1⟩;have hwW:w.heap.size≤W.heap.size:=HB.out.size;have h1:k9 w w1 W.heap.size g l (0,0,0) none 0 bH:=⟨hR1,⟨IN _,IN _,IN _⟩,aj.below HX4.out hb1 HX4.out.lt,aj.below HX2.out hb1 HX2.out.lt,jR.nil _ _,HB.out.trans (hb1.mono HB.out.size),jI,by omega,hwW⟩;have Hnum:=hid (fV W.heap.size g l (0,0,0) w1 h1.rd h1.ok hl);have okm:=ft h1.ok;have H1:=hid h1;obtain⟨base,hbase⟩:∃b,b=W.heap.size:=⟨_,rfl⟩;rw[←hbase] at H1 Hnum;clear h1 hR1 hb1 HX2 HX4 HB HW Hnew hg1 hg2 hwW hbase
 go_wp2_with fail
 refine Hnum.out.mono ?_;rcases hm:bm l (0,0,0) with ⟨s1,many⟩
 rw[hm] at okm;rintro e w2 ⟨rfl,hR2,hg2⟩;have H2:=hid (H1.out.after hR2 okm hg2);have hmany:many≤1048577:=by have:(bm l (0,0,0)).2≤1048577:=Nat.min_le_right _ _;rw[hm] at this;exact this
 have Hm:=hid hm;clear hR2 hg2 H1 Hnum hm okm;go_upto_block 0 with fail
 have Hat0:Hid (fw l (ec many) s1=(fw l (ec many-0) s1).map fun p=>(p.1,([]:List ct)++p.2)):=by
  show _=_
  rw[Nat.sub_zero];rcases fw l (ec many) s1 with _|⟨p1,p2⟩<;>rfl
 go_cut [7] from 16 (fun v7 wc=>∃(s:St) (Av:Option Addr) (cv:Nat) (vs:List ct),Hid (k9 w wc base g l s Av cv { bH with vips:=vs })∧Hid (qo l (s1,many)=some (s,vs))∧vs.length≤64)
 case first =>
  go_wp2_with fail
  go_loopg [7] (ec many) (fun gk v7 wr=>∃(k:Nat) (s:St) (A:Option Addr) (c:Nat) (vs:List ct),k≤ec many∧gk=ec many-k∧vs.length=k∧Hid (k9 w wr base g l s A c { bH with vips:=vs })∧Hid (fw l (ec many) s1=(fw l (ec many-k) s).map fun p=>(p.1,vs++p.2)))
  case atStart=>exact⟨0,s1,none,0,[],IN _,rfl,rfl,H2,Hat0⟩
  case round =>
   obtain⟨k,s,Av,cv,vs,hk,rfl,hvl,H,hat⟩:=hrel;subst hvl;have c0:=i8 H.out.box;by_cases hlt:vs.length<ec many
   ·have h64:many≤64:=by
     unfold ec at hlt;split at hlt
     ·assumption
     ·omega
    have hkm:vs.length<many:=by unfold ec at hlt;rw[if_pos h64] at hlt;exact hlt
    have hkI:(vs.length:Int)<(many:Int):=by omega
    have h64I:(many:Int)≤64:=by omega
    have Htake:=hid (uy base g l s wr H.out.rd H.out.ok hl);have oka:=qp H.out.ok;have hao:=Eb l s;obtain⟨⟨s6,bl⟩,ha⟩:∃a,a=jW l s:=⟨_,rfl⟩;rw[←ha] at hao;obtain⟨y0,y1,y2,y3,y4,y5,y6,y7,y8,y9,ya,yb,yc,yd,ye,yf,hl16⟩:=G0 hao;simp only at hl16;subst hl16;unfold DX at Htake;rw[←ha] at Htake;rcases hp:aT l (nS l s) 1 true with ⟨s2,pN⟩
    rcases hq:aT l s2 2 true with ⟨s3,qN⟩
    rcases ht:aT l s3 1 true with ⟨s4,tN⟩
    have hv2:rN l s=s2:=by unfold rN;rw[hp]
    have hv3:pg l s=s3:=by unfold pg;rw[hv2,hq]
    have hv4:lF l s=s4:=by unfold lF;rw[hv3,ht]
    have hpb:pN≤255:=by have:=FC l (nS l s);rw[hp] at this;exact this
    have hqb:qN≤65535:=by have:=FD l s2;rw[hq] at this;exact this
    have ok2:em l s2:=by have:=cK (l:=l) (s:=nS l s) oka 1 true;rw[hp] at this;exact this
    have ok3:em l s3:=by have:=cK ok2 2 true;rw[hq] at this;exact this
    have ok4:em l s4:=by have:=cK ok3 1 true;rw[ht] at this;exact this
    have hvS:ph l s=(match (bD l s).2 with|some a=>if tN≤1 then some (a,(pN:Int),(qN:Int),tN==1) else none|none=>none):=by
     unfold ph z6;rw[hv2,hv3,hp,hq,ht];rfl
    have Hp:=hid hp;have Hq:=hid hq;have Ht:=hid ht;have HvS:=hid hvS;have Hv4:=hid hv4;have Ha:=hid ha;clear hp hq ht hvS hv2 hv3 hv4 ha;obtain⟨okb,hokb⟩:∃b,b=(bD l s).2.isSome:=⟨_,rfl⟩;rw[←hokb] at Htake;have Hokb:=hid hokb;clear hokb
    ·skip
     go_wp2_with fail
     refine Htake.out.mono ?_;rintro e w3 ⟨rfl,hR3,hg3⟩;have h3:=H.out.after hR3 oka hg3;obtain⟨W4,hW4⟩:∃W4,W4=w3.alloc (.cells (ai dy).toArray 27):=⟨_,rfl⟩;have hX4:aj W4 w3.heap.size 27 (ai dy).toArray:=by rw[hW4];exact aj.new _ _ _ _ rfl
     have hB4:Below w3.heap.size w3 W4:=by rw[hW4];exact (Below.refl _ _).alloc (IF _) _
     have Hth:Hid (W4.there w3.heap.size 0 17):=hX4.there (by rw[iD];decide);have HW4:=hid hW4;rw[iD] at HW4;obtain⟨W5,hW5⟩:∃W5,W5=W4.setCells w3.heap.size 0 (ai (s6,[y0,y1,y2,y3,y4,y5,y6,y7,y8,y9,ya,yb,yc,yd,ye,yf])):=⟨_,rfl⟩;have hX5:aj W5 w3.heap.size 27 (ai (s6,[y0,y1,y2,y3,y4,y5,y6,y7,y8,y9,ya,yb,yc,yd,ye,yf])).toArray:=by
      rw[hW5];have:=aj.setCells (ai (s6,[y0,y1,y2,y3,y4,y5,y6,y7,y8,y9,ya,yb,yc,yd,ye,yf])) 0 hX4;rw[bn (vs:=ai (s6,[y0,y1,y2,y3,y4,y5,y6,y7,y8,y9,ya,yb,yc,yd,ye,yf])) (cs:=ai dy) rfl] at this;exact this
     have hB5:Below w3.heap.size w3 W5:=by rw[hW5];exact bq (IF _) _ _ hB4
     have h5:=h3.below hB5;have hsz5:w3.heap.size<W5.heap.size:=hX5.lt;have hsz3:wr.heap.size≤w3.heap.size:=hg3.size;have HW5:=hid hW5;have HX5:=hid hX5;have H5:=hid h5;have hgne:some w3.heap.size≠some g:=fun e=>by injection e with e;have:=h3.rd.lt;omega
     have HA5:Hid (∀w',W5.grownBy w' (some g)→w'.rangeAt w3.heap.size 0 (ai (s6,[y0,y1,y2,y3,y4,y5,y6,y7,y8,y9,ya,yb,yc,yd,ye,yf]))):=fun w' h=>ag (aj.grown hX5 h hgne)
     have hrowlt:∀k,(Value.slice Av vs.length cv).ownBlock=some k→k<wr.heap.size:=fun k hk=>(H.out.row.1.lt k hk).2
     have Hrow:=hid hrowlt;clear hW4 hX4 hB4 hW5 hX5 hB5 h5 h3 hR3 hg3 hgne hrowlt;go_upto_region 6 with (first
      |(rw[←HW4.out]
        (with_reducible refine aR 27 ?_)
        refine wpList_store_mid rfl 27 (.tmp 7) (.tmp 28) rfl w3.heap.size 0 (ai (s6,[y0,y1,y2,y3,y4,y5,y6,y7,y8,y9,ya,yb,yc,yd,ye,yf])).toArray rfl rfl Hth.out gh (li _) ?_))
     rw[←HW5.out];have hpw:IntKind.i64.wrap (pN:Int)=(pN:Int):=IV _ (by omega);have hqw:IntKind.i64.wrap (qN:Int)=(qN:Int):=IV _ (by omega);have hRd:=H5.out.rd.drew;have hgD:W5.grownBy W5.drew (some g):=mV _ _;have hsz0:W5.heap.size≤W5.drew.heap.size:=IF _;go_cut [9] from 16 to 55 (fun v9 wc=>∃b9:Nat,v9=.pointer (some ⟨b9,0,none⟩)∧Hid (k9 w wc base g l s3 Av cv { bH with vips:=vs })∧Hid (aj wc b9 108 (aI ((s6,[y0,y1,y2,y3,y4,y5,y6,y7,y8,y9,ya,yb,yc,yd,ye,yf]),(pN:Int),(qN:Int),false)).toArray)∧W5.heap.size≤b9∧g<b9)
     case first =>
      refine wp_region_noPanic ?_;refine wp_region_held_drew (S:=fun w'=>W5.grownBy w' (some g)) (by kernel_rfl) hgD (fun hHeld=>?_);refine wpAnyH_take (i:=0) rfl (by kernel_rfl) (by kernel_rfl) (by kernel_rfl) (fun _ _ _ h=>h) (yieldsIf_load_mid (by rfl) 27 (.tmp 7) rfl (w3.heap.size) (0) rfl ([.bool s6,.int .u8 (y0.toNat:Int),.int .u8 (y1.toNat:Int),.int .u8 (y2.toNat:Int),.int .u8 (y3.toNat:Int),.int .u8 (y4.toNat:Int),.int .u8 (y5.toNat:Int),.int .u8 (y6.toNat:Int),.int .u8 (y7.toNat:Int),.int .u8 (y8.toNat:Int),.int .u8 (y9.toNat:Int),.int .u8 (ya.toNat:Int),.int .u8 (yb.toNat:Int),.int .u8 (yc.toNat:Int),.int .u8 (yd.toNat:Int),.int .u8 (ye.toNat:Int),.int .u8 (yf.toNat:Int)]) _ (HA5.out) Tryz.underlying27 rfl gh) hHeld ?_;simp only[IE,IA,Iy,Iz,qq,IB,IC];refine wpAnyH_take (i:=1) (v:=?_) rfl (by kernel_rfl) (by kernel_rfl) (by kernel_rfl) (fun _ _ _ h=>h) (II ⟨by rfl,?_⟩) hHeld ?_;rotate_left
      ·intro w' hSw
       skip
       go_simp
       try with_reducible rfl
      simp only[IE,IA,Iy,Iz,qq,IB,IC];refine wpAnyH_take (i:=4) (v:=?_) rfl (by kernel_rfl) (by kernel_rfl) (by kernel_rfl) (fun _ _ _ h=>h) (II ⟨by rfl,?_⟩) hHeld ?_;rotate_left
      ·intro w' hSw
       skip
       go_simp
       try with_reducible rfl
      simp only[IE,IA,Iy,Iz,qq,IB,IC];refine wpAnyH_ready (rs:=[2,8]) (by kernel_rfl) (by simp) ?_;refine ID (i:=2) rfl (fun K hK=>?_) ?_
      ·go_simp
       refine (cV base g l (nS l s) _ 1 true hRd oka hl).mono ?_;rw[Hp.out];rintro e wa ⟨rfl,hRd,hgN⟩;have hBehind:=aq hHeld hgN
       go_wp2_with fail
       refine hK.out _ _ hBehind (fun hHeld=>?_);clear hK K
       try simp only[IE,IA,Iy,Iz,qq,IB,IC]
       refine wpAnyH_take (i:=3) (v:=?_) rfl (by kernel_rfl) (by kernel_rfl) (by kernel_rfl) (fun _ _ _ h=>h) (II ⟨by rfl,?_⟩) hHeld ?_;rotate_left
       ·intro w' hSw
        skip
        go_simp
        try with_reducible rfl
       simp only[IE,IA,Iy,Iz,qq,IB,IC];refine wpAnyH_ready (rs:=[5,8]) (by kernel_rfl) (by simp) ?_;refine ID (i:=5) rfl (fun K hK=>?_) ?_
       ·go_simp
        refine (cV base g l s2 _ 2 true hRd ok2 hl).mono ?_;rw[Hq.out];rintro e wb ⟨rfl,hRd,hgN⟩;have hBehind:=aq hHeld hgN
        go_wp2_with fail
        refine hK.out _ _ hBehind (fun hHeld=>?_);clear hK K
        try simp only[IE,IA,Iy,Iz,qq,IB,IC]
        refine wpAnyH_take (i:=6) (v:=?_) rfl (by kernel_rfl) (by kernel_rfl) (by kernel_rfl) (fun _ _ _ h=>h) (II ⟨by rfl,?_⟩) hHeld ?_;rotate_left
        ·intro w' hSw
         skip
         go_simp
         try with_reducible rfl
        simp only[IE,IA,Iy,Iz,qq,IB,IC];refine wpAnyH_take (i:=7) (v:=?_) rfl (by kernel_rfl) (by kernel_rfl) (by kernel_rfl) (fun _ _ _ h=>h) (II ⟨by rfl,?_⟩) hHeld ?_;rotate_left
        ·intro w' hSw
         skip
         go_simp
         try with_reducible rfl
        simp only[IE,IA,Iy,Iz,qq,IB,IC];refine wpAnyH_ready (rs:=[8]) (by kernel_rfl) (by simp) ?_;refine ID (i:=8) rfl (fun K hK=>?_) ?_
        ·go_simp
         refine hK.out _ _ (aq hHeld (bE ((Below.refl _ _).alloc (IF _) _))) (fun hHeld=>?_);have hgb:g<wb.heap.size:=hRd.lt;have hb5:W5.heap.size≤wb.heap.size:=by first|exact hBehind.size|exact hsz0
         have hRd:=hRd.below ((Below.refl _ _).alloc (IF _) (.cells (aI ia).toArray 108));have hN:=aj.new wb 108 (aI ia).toArray wb.heap.size rfl;clear hK K
         try simp only[IE,IA,Iy,Iz,qq,IB,IC]
         refine wpAnyH_ready (rs:=[9]) (by kernel_rfl) (by simp) ?_;refine ID (i:=9) rfl (fun K hK=>?_) ?_
         ·rw[if_pos (by rfl)]
          refine wp_store_mid _ _ _ rfl (wb.heap.size) 0 (aI ((s6,[y0,y1,y2,y3,y4,y5,y6,y7,y8,y9,ya,yb,yc,yd,ye,yf]),(pN:Int),(qN:Int),false)).toArray rfl rfl (aj.there (o:=0) (n:=20) hN (by decide)) iR (gV _) ?_;have hRd:=eY.off hRd (aY _ (wb.heap.size) 0 (aI ((s6,[y0,y1,y2,y3,y4,y5,y6,y7,y8,y9,ya,yb,yc,yd,ye,yf]),(pN:Int),(qN:Int),false)) 0 (IL.refl _ _)) hN (by decide) (by decide);refine hK.out _ _ (cG hHeld hb5 (aY _ (wb.heap.size) 0 _ _ (IL.refl _ _))) (fun hHeld=>?_);have hX9:=aj.setCells (aI ((s6,[y0,y1,y2,y3,y4,y5,y6,y7,y8,y9,ya,yb,yc,yd,ye,yf]),(pN:Int),(qN:Int),false)) 0 hN;rw[bn (vs:=aI ((s6,[y0,y1,y2,y3,y4,y5,y6,y7,y8,y9,ya,yb,yc,yd,ye,yf]),(pN:Int),(qN:Int),false)) (cs:=aI ia) rfl] at hX9;clear hK K hN
          try simp only[IE,IA,Iy,Iz,qq,IB,IC]
          refine wpAnyH_done (by kernel_rfl) ?_ _;refine IK ?_;obtain⟨b9,hb9⟩:∃b,b=wb.heap.size:=⟨_,rfl⟩;rw[←hb9] at hRd hX9 hHeld ⊢;have hb59:W5.heap.size≤b9:=by rw[hb9];exact hb5
          have hgb9:g<b9:=by rw[hb9];exact hgb
          clear hb5 hgb hb9;have h9:=H5.out.after hRd ok3 hHeld;have HX9:=hid hX9;have H9:=hid h9;clear hX9 hRd hHeld h9
          go_wp2
          go_meet
          case rel=>exact⟨b9,rfl,H9,HX9,hb59,hgb9⟩
         exact IG
        exact IG
       refine ID (i:=8) rfl (fun K hK=>?_) ?_
       ·go_simp
        refine hK.out _ _ (aq hHeld (bE ((Below.refl _ _).alloc (IF _) _))) (fun hHeld=>?_);have hgb:g<wa.heap.size:=hRd.lt;have hb5:W5.heap.size≤wa.heap.size:=by first|exact hBehind.size|exact hsz0
        have hRd:=hRd.below ((Below.refl _ _).alloc (IF _) (.cells (aI ia).toArray 108));have hN:=aj.new wa 108 (aI ia).toArray wa.heap.size rfl;clear hK K
        try simp only[IE,IA,Iy,Iz,qq,IB,IC]
        refine wpAnyH_ready (rs:=[5]) (by kernel_rfl) (by simp) ?_;refine ID (i:=5) rfl (fun K hK=>?_) ?_
        ·go_simp
         refine (cV base g l s2 _ 2 true hRd ok2 hl).mono ?_;rw[Hq.out];rintro e wb ⟨rfl,hRd,hgN⟩;have hBehind:=aq hHeld hgN;have hN:=aj.grown hN hgN (fun e=>by injection e with e;omega)
         go_wp2_with fail
         refine hK.out _ _ hBehind (fun hHeld=>?_);clear hK K
         try simp only[IE,IA,Iy,Iz,qq,IB,IC]
         refine wpAnyH_take (i:=6) (v:=?_) rfl (by kernel_rfl) (by kernel_rfl) (by kernel_rfl) (fun _ _ _ h=>h) (II ⟨by rfl,?_⟩) hHeld ?_;rotate_left
         ·intro w' hSw
          skip
          go_simp
          try with_reducible rfl
         simp only[IE,IA,Iy,Iz,qq,IB,IC];refine wpAnyH_take (i:=7) (v:=?_) rfl (by kernel_rfl) (by kernel_rfl) (by kernel_rfl) (fun _ _ _ h=>h) (II ⟨by rfl,?_⟩) hHeld ?_;rotate_left
         ·intro w' hSw
          skip
          go_simp
          try with_reducible rfl
         simp only[IE,IA,Iy,Iz,qq,IB,IC];refine wpAnyH_ready (rs:=[9]) (by kernel_rfl) (by simp) ?_;refine ID (i:=9) rfl (fun K hK=>?_) ?_
         ·rw[if_pos (by rfl)]
          refine wp_store_mid _ _ _ rfl (wa.heap.size) 0 (aI ((s6,[y0,y1,y2,y3,y4,y5,y6,y7,y8,y9,ya,yb,yc,yd,ye,yf]),(pN:Int),(qN:Int),false)).toArray rfl rfl (aj.there (o:=0) (n:=20) hN (by decide)) iR (gV _) ?_;have hRd:=eY.off hRd (aY _ (wa.heap.size) 0 (aI ((s6,[y0,y1,y2,y3,y4,y5,y6,y7,y8,y9,ya,yb,yc,yd,ye,yf]),(pN:Int),(qN:Int),false)) 0 (IL.refl _ _)) hN (by decide) (by decide);refine hK.out _ _ (cG hHeld hb5 (aY _ (wa.heap.size) 0 _ _ (IL.refl _ _))) (fun hHeld=>?_);have hX9:=aj.setCells (aI ((s6,[y0,y1,y2,y3,y4,y5,y6,y7,y8,y9,ya,yb,yc,yd,ye,yf]),(pN:Int),(qN:Int),false)) 0 hN;rw[bn (vs:=aI ((s6,[y0,y1,y2,y3,y4,y5,y6,y7,y8,y9,ya,yb,yc,yd,ye,yf]),(pN:Int),(qN:Int),false)) (cs:=aI ia) rfl] at hX9;clear hK K hN
          try simp only[IE,IA,Iy,Iz,qq,IB,IC]
          refine wpAnyH_done (by kernel_rfl) ?_ _;refine IK ?_;obtain⟨b9,hb9⟩:∃b,b=wa.heap.size:=⟨_,rfl⟩;rw[←hb9] at hRd hX9 hHeld ⊢;have hb59:W5.heap.size≤b9:=by rw[hb9];exact hb5
          have hgb9:g<b9:=by rw[hb9];exact hgb
          clear hb5 hgb hb9;have h9:=H5.out.after hRd ok3 hHeld;have HX9:=hid hX9;have H9:=hid h9;clear hX9 hRd hHeld h9
          go_wp2
          go_meet
          case rel=>exact⟨b9,rfl,H9,HX9,hb59,hgb9⟩
         exact IG
        exact IG
       exact IG
      refine ID (i:=8) rfl (fun K hK=>?_) ?_
      ·go_simp
       refine hK.out _ _ (aq hHeld (bE ((Below.refl _ _).alloc (IF _) _))) (fun hHeld=>?_);have hgb:g<W5.heap.size:=hRd.lt;have hb5:W5.heap.size≤W5.heap.size:=by first|exact hBehind.size|exact hsz0
       have hRd:=hRd.below ((Below.refl _ _).alloc (IF _) (.cells (aI ia).toArray 108));have hN:=aj.new W5.drew 108 (aI ia).toArray W5.heap.size rfl;clear hK K
       try simp only[IE,IA,Iy,Iz,qq,IB,IC]
       refine wpAnyH_ready (rs:=[2]) (by kernel_rfl) (by simp) ?_;refine ID (i:=2) rfl (fun K hK=>?_) ?_
       ·go_simp
        refine (cV base g l (nS l s) _ 1 true hRd oka hl).mono ?_;rw[Hp.out];rintro e wa ⟨rfl,hRd,hgN⟩;have hBehind:=aq hHeld hgN;have hN:=aj.grown hN hgN (fun e=>by injection e with e;omega)
        go_wp2_with fail
        refine hK.out _ _ hBehind (fun hHeld=>?_);clear hK K
        try simp only[IE,IA,Iy,Iz,qq,IB,IC]
        refine wpAnyH_take (i:=3) (v:=?_) rfl (by kernel_rfl) (by kernel_rfl) (by kernel_rfl) (fun _ _ _ h=>h) (II ⟨by rfl,?_⟩) hHeld ?_;rotate_left
        ·intro w' hSw
         skip
         go_simp
         try with_reducible rfl
        simp only[IE,IA,Iy,Iz,qq,IB,IC];refine wpAnyH_ready (rs:=[5]) (by kernel_rfl) (by simp) ?_;refine ID (i:=5) rfl (fun K hK=>?_) ?_
        ·go_simp
         refine (cV base g l s2 _ 2 true hRd ok2 hl).mono ?_;rw[Hq.out];rintro e wb ⟨rfl,hRd,hgN⟩;have hBehind:=aq hHeld hgN;have hN:=aj.grown hN hgN (fun e=>by injection e with e;omega)
         go_wp2_with fail
         refine hK.out _ _ hBehind (fun hHeld=>?_);clear hK K
         try simp only[IE,IA,Iy,Iz,qq,IB,IC]
         refine wpAnyH_take (i:=6) (v:=?_) rfl (by kernel_rfl) (by kernel_rfl) (by kernel_rfl) (fun _ _ _ h=>h) (II ⟨by rfl,?_⟩) hHeld ?_;rotate_left
         ·intro w' hSw
          skip
          go_simp
          try with_reducible rfl
         simp only[IE,IA,Iy,Iz,qq,IB,IC];refine wpAnyH_take (i:=7) (v:=?_) rfl (by kernel_rfl) (by kernel_rfl) (by kernel_rfl) (fun _ _ _ h=>h) (II ⟨by rfl,?_⟩) hHeld ?_;rotate_left
         ·intro w' hSw
          skip
          go_simp
          try with_reducible rfl
         simp only[IE,IA,Iy,Iz,qq,IB,IC];refine wpAnyH_ready (rs:=[9]) (by kernel_rfl) (by simp) ?_;refine ID (i:=9) rfl (fun K hK=>?_) ?_
         ·rw[if_pos (by rfl)]
          refine wp_store_mid _ _ _ rfl (W5.heap.size) 0 (aI ((s6,[y0,y1,y2,y3,y4,y5,y6,y7,y8,y9,ya,yb,yc,yd,ye,yf]),(pN:Int),(qN:Int),false)).toArray rfl rfl (aj.there (o:=0) (n:=20) hN (by decide)) iR (gV _) ?_;have hRd:=eY.off hRd (aY _ (W5.heap.size) 0 (aI ((s6,[y0,y1,y2,y3,y4,y5,y6,y7,y8,y9,ya,yb,yc,yd,ye,yf]),(pN:Int),(qN:Int),false)) 0 (IL.refl _ _)) hN (by decide) (by decide);refine hK.out _ _ (cG hHeld hb5 (aY _ (W5.heap.size) 0 _ _ (IL.refl _ _))) (fun hHeld=>?_);have hX9:=aj.setCells (aI ((s6,[y0,y1,y2,y3,y4,y5,y6,y7,y8,y9,ya,yb,yc,yd,ye,yf]),(pN:Int),(qN:Int),false)) 0 hN;rw[bn (vs:=aI ((s6,[y0,y1,y2,y3,y4,y5,y6,y7,y8,y9,ya,yb,yc,yd,ye,yf]),(pN:Int),(qN:Int),false)) (cs:=aI ia) rfl] at hX9;clear hK K hN
          try simp only[IE,IA,Iy,Iz,qq,IB,IC]
          refine wpAnyH_done (by kernel_rfl) ?_ _;refine IK ?_;obtain⟨b9,hb9⟩:∃b,b=W5.heap.size:=⟨_,rfl⟩;rw[←hb9] at hRd hX9 hHeld ⊢;have hb59:W5.heap.size≤b9:=by rw[hb9];exact hb5
          have hgb9:g<b9:=by rw[hb9];exact hgb
          clear hb5 hgb hb9;have h9:=H5.out.after hRd ok3 hHeld;have HX9:=hid hX9;have H9:=hid h9;clear hX9 hRd hHeld h9
          go_wp2
          go_meet
          case rel=>exact⟨b9,rfl,H9,HX9,hb59,hgb9⟩
         exact IG
        exact IG
       exact IG
      exact IG
     case rest =>
      obtain⟨b9,rfl,H9,HX9,hb59,hgb9⟩:=hcut
      go_wp2_with fail
      refine (cV base g l s3 _ 1 true H9.out.rd ok3 hl).mono ?_;rw[Ht.out];rintro e w10 ⟨rfl,hR10,hg10⟩;have h10:=H9.out.after hR10 ok4 hg10;have hX10:=aj.grown HX9.out hg10 (fun e=>by injection e with e;omega);have c19:w10.cell? ⟨b9,19,none⟩=some (.bool false):=hX10.cell 19;have f19:w10.frozen? ⟨b9,19,none⟩=false:=hX10.frozen 19;have hwb9:w.heap.size+1<b9:=by have:=H.out.box.lt;omega
      have hthN:∀u,(w10.setCell ⟨b9,19,none⟩ u).there w.heap.size 0 54:=fun u=>aj.there (o:=0) (n:=54) (aj.far h10.res (p:=⟨b9,19,none⟩) (by show w.heap.size≠b9;omega) u) (by rw[nC];decide)
      have HthN:=hid hthN;have hZ:∀u,aj ((w10.setCell ⟨b9,19,none⟩ u).setCells w.heap.size 0 (am none 0 0 bH)) w.heap.size 29 (am none 0 0 bH).toArray:=fun u=>by
       have:=aj.setCells (am none 0 0 bH) 0 (aj.far h10.res (p:=⟨b9,19,none⟩) (by show w.heap.size≠b9;omega) u);rw[bn rfl] at this;exact this
      have HZ:=hid hZ;have H10:=hid h10;have HX10:=hid hX10;clear hR10 hg10 h10 hX10 hthN hZ H9 HX9 H5 HX5 HA5 Htake;have hend:ph l s=none→∀u,uM w l (.returned (.tuple #[.agg (am none 0 0 bH).toArray,.int .i64 3])) ((w10.setCell ⟨b9,19,none⟩ u).setCells w.heap.size 0 (am none 0 0 bH)):=fun hvn u=>by
       have hno:=Ec Hm.out h64 hkm (by have:=hat.out;unfold ec at this;rw[if_pos h64] at this;exact this) hvn;exact⟨bq (IF _) _ _ (H10.out.bel.setCell (by show w.heap.size≤b9;omega) _),fun _=>rfl,fun f hf=>by rw[hno] at hf;cases hf⟩
      have Hend:=hid hend;clear hend;rcases hok':okb with _|_
      ·have hvn:ph l s=none:=by
        rw[HvS.out];have:=Hokb.out;rw[hok'] at this;rcases h:(bD l s).2 with _|a
        ·rfl
        ·rw[h] at this;cases this
       have Hvn:=hid hvn;clear hvn hok'
       go_wp2_with (first
        |((with_reducible refine aR 29 ?_);refine wpList_store_mid rfl 29 (.tmp 2) (.tmp 49) rfl w.heap.size 0 (am none 0 0 bH).toArray rfl rfl (HthN.out _) dH (gP none 0 0 bH) ?_))
       refine bodyPost_ret (v:=.tuple #[.agg (am none 0 0 bH).toArray,.int .i64 3]) (aN (P:=IH) (p:=2) (u:=3) rfl _ _ w.heap.size _ _ _ _ rfl (HZ.out _) fB rfl dH) rfl (Hend.out Hvn.out _)
      ·by_cases ht1:tN≤1
       ·have hcase:tN=0∨tN=1:=by omega
        clear ht1;rcases hcase with rfl|rfl
        ·skip
         have h11:=H10.out.other HX10.out (fun e=>by have:=Hrow.out _ e;omega) (by omega) (a8 w10 ⟨b9,19,none⟩ (.bool false));have hX11:aj (w10.setCell ⟨b9,19,none⟩ (.bool false)) b9 108 (aI ((s6,[y0,y1,y2,y3,y4,y5,y6,y7,y8,y9,ya,yb,yc,yd,ye,yf]),(pN:Int),(qN:Int),false)).toArray:=aj.set_ HX10.out 19 (.bool false);have d0:=i8 h11.box;have HR11:Hid ((w10.setCell ⟨b9,19,none⟩ (.bool false)).rangeAt b9 0 [.bool s6,.int .u8 (y0.toNat:Int),.int .u8 (y1.toNat:Int),.int .u8 (y2.toNat:Int),.int .u8 (y3.toNat:Int),.int .u8 (y4.toNat:Int),.int .u8 (y5.toNat:Int),.int .u8 (y6.toNat:Int),.int .u8 (y7.toNat:Int),.int .u8 (y8.toNat:Int),.int .u8 (y9.toNat:Int),.int .u8 (ya.toNat:Int),.int .u8 (yb.toNat:Int),.int .u8 (yc.toNat:Int),.int .u8 (yd.toNat:Int),.int .u8 (ye.toNat:Int),.int .u8 (yf.toNat:Int),.int .i64 (pN:Int),.int .i64 (qN:Int),.bool false]):=ag hX11;have Hown:Hid (∀z,jR ((w10.setCell ⟨b9,19,none⟩ (.bool false)).alloc (.cells z 108)) w.heap.size Av cv vs):=fun z=>h11.row.below ((Below.refl _ _).alloc (IF _) _)
         have Hrg12:Hid (((w10.setCell ⟨b9,19,none⟩ (.bool false)).alloc (.cells (aI ((s6,[y0,y1,y2,y3,y4,y5,y6,y7,y8,y9,ya,yb,yc,yd,ye,yf]),(pN:Int),(qN:Int),false)).toArray 108)).rangeAt w10.heap.size 0 (aI ((s6,[y0,y1,y2,y3,y4,y5,y6,y7,y8,y9,ya,yb,yc,yd,ye,yf]),(pN:Int),(qN:Int),false))):=ag (aj.new _ _ _ w10.heap.size (by simp));have H11:=hid h11;have Hvs:Hid (ph l s=some ((s6,[y0,y1,y2,y3,y4,y5,y6,y7,y8,y9,ya,yb,yc,yd,ye,yf]),(pN:Int),(qN:Int),false)):=by
          show _=_
          rw[HvS.out];have h1:=Hokb.out;rw[hok'] at h1;have h2:=Ha.out;unfold jW at h2;rcases h:(bD l s).2 with _|a
          ·rw[h] at h1;cases h1
          ·rw[h] at h2
           simp only[IS] at h2;rw[←h2];rfl
         have hszb:w.heap.size≤(w10.setCell ⟨b9,19,none⟩ (.bool false)).heap.size:=h11.bel.size;have hvl64:vs.length+1≤65:=by omega
         clear h11 hX11 hok' Hend HZ HthN;go_upto_region 12 with (first
          |((with_reducible refine aB 108 ?_);refine aa (by rfl) 108 (.tmp 9) rfl b9 0 rfl [.bool s6,.int .u8 (y0.toNat:Int),.int .u8 (y1.toNat:Int),.int .u8 (y2.toNat:Int),.int .u8 (y3.toNat:Int),.int .u8 (y4.toNat:Int),.int .u8 (y5.toNat:Int),.int .u8 (y6.toNat:Int),.int .u8 (y7.toNat:Int),.int .u8 (y8.toNat:Int),.int .u8 (y9.toNat:Int),.int .u8 (ya.toNat:Int),.int .u8 (yb.toNat:Int),.int .u8 (yc.toNat:Int),.int .u8 (yd.toNat:Int),.int .u8 (ye.toNat:Int),.int .u8 (yf.toNat:Int),.int .i64 (pN:Int),.int .i64 (qN:Int),.bool false] _ HR11.out IP rfl iR ?_)
          |((with_reducible refine rt .append ?_);refine kT rfl _ _ 22 rfl w.heap.size i0 z0 48 Tryz.underlying22 hi0 hz0 hz1 hz2 hzc Av cv vs ((s6,[y0,y1,y2,y3,y4,y5,y6,y7,y8,y9,ya,yb,yc,yd,ye,yf]),(pN:Int),(qN:Int),false) rfl rfl (Hown.out _) w10.heap.size 1 rfl Hrg12.out (by unfold maxLen;omega) (by omega) (IJ hszb (Below.size ((Below.refl _ _).alloc (IF _) _))) ?_;intro A12 c12 w12 hown12 hg12 hob12;have hbx:=((H11.out.below ((Below.refl _ _).alloc (IF _) _)).appBox hg12);have e0:=i8 hbx;have ef:=hbx.frozen 0))
         have H13:=hid ((H11.out.below ((Below.refl _ _).alloc (IF _) _)).append hown12 hg12);have hat13:=tH hlt hat.out Hvs.out;rw[Hv4.out] at hat13;have Hat13:=hid hat13;clear hat13 hown12 hg12 hob12 hbx e0 ef H11 Hown Hrg12;go_roundg (ec many-(vs.length+1))
         case measure=>omega
         case rel=>exact⟨vs.length+1,s4,A12,c12,vs++[((s6,[y0,y1,y2,y3,y4,y5,y6,y7,y8,y9,ya,yb,yc,yd,ye,yf]),(pN:Int),(qN:Int),false)],by omega,rfl,by simp,H13,Hat13⟩
        ·skip
         have h11:=H10.out.other HX10.out (fun e=>by have:=Hrow.out _ e;omega) (by omega) (a8 w10 ⟨b9,19,none⟩ (.bool true));have hX11:aj (w10.setCell ⟨b9,19,none⟩ (.bool true)) b9 108 (aI ((s6,[y0,y1,y2,y3,y4,y5,y6,y7,y8,y9,ya,yb,yc,yd,ye,yf]),(pN:Int),(qN:Int),true)).toArray:=aj.set_ HX10.out 19 (.bool true);have d0:=i8 h11.box;have HR11:Hid ((w10.setCell ⟨b9,19,none⟩ (.bool true)).rangeAt b9 0 [.bool s6,.int .u8 (y0.toNat:Int),.int .u8 (y1.toNat:Int),.int .u8 (y2.toNat:Int),.int .u8 (y3.toNat:Int),.int .u8 (y4.toNat:Int),.int .u8 (y5.toNat:Int),.int .u8 (y6.toNat:Int),.int .u8 (y7.toNat:Int),.int .u8 (y8.toNat:Int),.int .u8 (y9.toNat:Int),.int .u8 (ya.toNat:Int),.int .u8 (yb.toNat:Int),.int .u8 (yc.toNat:Int),.int .u8 (yd.toNat:Int),.int .u8 (ye.toNat:Int),.int .u8 (yf.toNat:Int),.int .i64 (pN:Int),.int .i64 (qN:Int),.bool true]):=ag hX11;have Hown:Hid (∀z,jR ((w10.setCell ⟨b9,19,none⟩ (.bool true)).alloc (.cells z 108)) w.heap.size Av cv vs):=fun z=>h11.row.below ((Below.refl _ _).alloc (IF _) _)
         have Hrg12:Hid (((w10.setCell ⟨b9,19,none⟩ (.bool true)).alloc (.cells (aI ((s6,[y0,y1,y2,y3,y4,y5,y6,y7,y8,y9,ya,yb,yc,yd,ye,yf]),(pN:Int),(qN:Int),true)).toArray 108)).rangeAt w10.heap.size 0 (aI ((s6,[y0,y1,y2,y3,y4,y5,y6,y7,y8,y9,ya,yb,yc,yd,ye,yf]),(pN:Int),(qN:Int),true))):=ag (aj.new _ _ _ w10.heap.size (by simp));have H11:=hid h11;have Hvs:Hid (ph l s=some ((s6,[y0,y1,y2,y3,y4,y5,y6,y7,y8,y9,ya,yb,yc,yd,ye,yf]),(pN:Int),(qN:Int),true)):=by
          show _=_
          rw[HvS.out];have h1:=Hokb.out;rw[hok'] at h1;have h2:=Ha.out;unfold jW at h2;rcases h:(bD l s).2 with _|a
          ·rw[h] at h1;cases h1
          ·rw[h] at h2
           simp only[IS] at h2;rw[←h2];rfl
         have hszb:w.heap.size≤(w10.setCell ⟨b9,19,none⟩ (.bool true)).heap.size:=h11.bel.size;have hvl64:vs.length+1≤65:=by omega
         clear h11 hX11 hok' Hend HZ HthN;go_upto_region 12 with (first
          |((with_reducible refine aB 108 ?_);refine aa (by rfl) 108 (.tmp 9) rfl b9 0 rfl [.bool s6,.int .u8 (y0.toNat:Int),.int .u8 (y1.toNat:Int),.int .u8 (y2.toNat:Int),.int .u8 (y3.toNat:Int),.int .u8 (y4.toNat:Int),.int .u8 (y5.toNat:Int),.int .u8 (y6.toNat:Int),.int .u8 (y7.toNat:Int),.int .u8 (y8.toNat:Int),.int .u8 (y9.toNat:Int),.int .u8 (ya.toNat:Int),.int .u8 (yb.toNat:Int),.int .u8 (yc.toNat:Int),.int .u8 (yd.toNat:Int),.int .u8 (ye.toNat:Int),.int .u8 (yf.toNat:Int),.int .i64 (pN:Int),.int .i64 (qN:Int),.bool true] _ HR11.out IP rfl iR ?_)
          |((with_reducible refine rt .append ?_);refine kT rfl _ _ 22 rfl w.heap.size i0 z0 48 Tryz.underlying22 hi0 hz0 hz1 hz2 hzc Av cv vs ((s6,[y0,y1,y2,y3,y4,y5,y6,y7,y8,y9,ya,yb,yc,yd,ye,yf]),(pN:Int),(qN:Int),true) rfl rfl (Hown.out _) w10.heap.size 1 rfl Hrg12.out (by unfold maxLen;omega) (by omega) (IJ hszb (Below.size ((Below.refl _ _).alloc (IF _) _))) ?_;intro A12 c12 w12 hown12 hg12 hob12;have hbx:=((H11.out.below ((Below.refl _ _).alloc (IF _) _)).appBox hg12);have e0:=i8 hbx;have ef:=hbx.frozen 0))
         have H13:=hid ((H11.out.below ((Below.refl _ _).alloc (IF _) _)).append hown12 hg12);have hat13:=tH hlt hat.out Hvs.out;rw[Hv4.out] at hat13;have Hat13:=hid hat13;clear hat13 hown12 hg12 hob12 hbx e0 ef H11 Hown Hrg12;go_roundg (ec many-(vs.length+1))
         case measure=>omega
         case rel=>exact⟨vs.length+1,s4,A12,c12,vs++[((s6,[y0,y1,y2,y3,y4,y5,y6,y7,y8,y9,ya,yb,yc,yd,ye,yf]),(pN:Int),(qN:Int),true)],by omega,rfl,by simp,H13,Hat13⟩
       ·skip
        have hvn:ph l s=none:=by
         rw[HvS.out];rcases h:(bD l s).2 with _|a
         ·rfl
         ·exact if_neg (by omega)
        have Hvn:=hid hvn;have htI:(1:Int)<(tN:Int):=by omega
        clear hvn hok'
        go_wp2_with (first
         |((with_reducible refine aR 29 ?_);refine wpList_store_mid rfl 29 (.tmp 2) (.tmp 49) rfl w.heap.size 0 (am none 0 0 bH).toArray rfl rfl (HthN.out _) dH (gP none 0 0 bH) ?_))
        refine bodyPost_ret (v:=.tuple #[.agg (am none 0 0 bH).toArray,.int .i64 3]) (aN (P:=IH) (p:=2) (u:=3) rfl _ _ w.heap.size _ _ _ _ rfl (HZ.out _) fB rfl dH) rfl (Hend.out Hvn.out _)
   ·have hvs0:fw l (ec many) s1=some (s,vs):=by
     have:=hat.out;rw[show ec many-vs.length=0 by omega] at this;simpa[fw] using this
    have hmv:qo l (s1,many)=some (s,vs):=by
     unfold qo;by_cases h64:many≤64
     ·rw[if_pos h64]
      unfold ec at hvs0;rw[if_pos h64] at hvs0;exact hvs0
     ·rw[if_neg h64]
      unfold ec at hvs0;rw[if_neg h64] at hvs0;exact hvs0
    have Hmv:=hid hmv;have hexit:¬((vs.length:Int)<(many:Int))∨((vs.length:Int)<(many:Int)∧¬((many:Int)≤64)):=by
     by_cases h64:many≤64
     ·left
      unfold ec at hlt;rw[if_pos h64] at hlt;omega
     ·right
      unfold ec at hk;rw[if_neg h64] at hk;omega
    have hv64:vs.length≤64:=by
     unfold ec at hk;split at hk<;>omega
    clear hvs0 hmv hat;rcases hexit with hex|⟨hex0,hex⟩
    all_goals
     go_wp2
     go_meet
     case rel=>exact⟨s,Av,cv,vs,H,Hmv,hv64⟩
 case rest =>
  obtain⟨s,Av,cv,vs,H,Hmv,hv64⟩:=hcut;have N1:=hid (fV base g l s wc H.out.rd H.out.ok hl);have k1:=ft H.out.ok;have b1:=iK l s;rcases hn1:bm l s with ⟨t1,m1⟩
  rw[hn1] at N1 k1 b1;have b2:=iK l t1;have k2:=ft (l:=l) (s:=t1) k1;rcases hn2:bm l t1 with ⟨t2,m2⟩
  rw[hn2] at b2 k2;have Hn1:=hid hn1;have Hn2:=hid hn2;clear hn1 hn2
  go_wp2_with fail
  refine N1.out.mono ?_;rintro e w3 ⟨rfl,hR3,hg3⟩;have h3:=H.out.after hR3 k1 hg3;have N2:=hid (fV base g l t1 w3 h3.rd h3.ok hl);rw[Hn2.out] at N2;have H3:=hid h3;clear hR3 hg3 h3 N1 H
  go_wp2_with fail
  refine N2.out.mono ?_;rintro e w4 ⟨rfl,hR4,hg4⟩;have h4:=H3.out.after hR4 k2 hg4;have h5:=(h4.set_ (f':={ bH with vips:=vs,size:=(m1:Int) }) 1 (.int .i64 (m1:Int)) (DY _) rfl (r8 h4.shape _)).set_ (f':={ bH with vips:=vs,size:=(m1:Int),room:=(m2:Int) }) 2 (.int .i64 (m2:Int)) (DZ _) rfl (yW (r8 h4.shape _) _);have e1:=lT h4.box;have e2:=lU h4.box;have ef:∀i,w4.frozen? ⟨w.heap.size+1,i,none⟩=false:=fun i=>h4.box.frozen i
  have H5:=hid h5;clear hR4 hg4 h4 h5 H3 N2
  go_wp2_with fail
  clear e1 e2 ef;have H6:Hid (k9 w ((w4.setCell ⟨w.heap.size+1,1,none⟩ (.int .i64 (m1:Int))).setCell ⟨w.heap.size+1,2,none⟩ (.int .i64 (m2:Int))) base g l t2 Av cv { bH with vips:=vs,size:=(m1:Int),room:=(m2:Int),idle:=eH [] }):=H5;go_loopw [11] (fun i wr=>∃(t:St) (ms:List Nat) (k:Nat),1≤k∧k≤6∧i=.int .i64 (k:Int)∧Hid (ms.length=k-1)∧Hid (dz l (k-1) t2=(t,ms))∧Hid (k9 w wr base g l t Av cv { bH with vips:=vs,size:=(m1:Int),room:=(m2:Int),idle:=eH ms })) (fun i _=>6-(intOf i).toNat)
  case atStart=>exact⟨t2,[],1,by omega,by omega,rfl,rfl,rfl,H6⟩
  case round =>
   obtain⟨t,ms,k,hk1,hk6,rfl,Hml,Hn3,H7⟩:=hrel;by_cases hlt:k<6
   ·have N3:=hid (fV base g l t wr H7.out.rd H7.out.ok hl)
    have k3:=ft H7.out.ok;have b3:=iK l t;rcases hn3:bm l t with ⟨t',m⟩
    rw[hn3] at N3 k3 b3;have Hn4:=hid hn3;clear hn3
    go_wp2_with fail
    refine N3.out.mono ?_;rintro e w5 ⟨rfl,hR5,hg5⟩;have h8:=H7.out.after hR5 k3 hg5;have hsh:=h8.shape;have ef:∀i,w5.frozen? ⟨w.heap.size+1,i,none⟩=false:=fun i=>h8.box.frozen i
    obtain⟨z,hz⟩:∃z,(eH ms)[k]?=some z:=by
     have:=zg (ms:=ms) (by have:=Hml.out;omega);exact⟨_,List.getElem?_eq_getElem (by omega)⟩
    have e3:w5.cell? ⟨w.heap.size+1,3+k,none⟩=some (iv z):=by rw[jv h8.box hsh hlt];show ((eH ms)[k]?).map iv=_;rw[hz];rfl
    have h9:=h8.set_ (f':={ bH with vips:=vs,size:=(m1:Int),room:=(m2:Int),idle:=eH (ms++[m]) }) (3+k) (.int .i64 (m:Int)) (by
     rw[D0 hsh hlt];have:=r9 (ms:=ms) (by have:=Hml.out;omega) m;rw[←this,show 1+ms.length=k by have:=Hml.out;omega]) rfl (by
     have:=zc hsh k (m:Int);have e:=r9 (ms:=ms) (by have:=Hml.out;omega) m;rw[←e,show 1+ms.length=k by have:=Hml.out;omega];exact this)
    have H9:=hid h9;have Hn5:Hid (dz l (k+1-1) t2=(t',ms++[m])):=by
     show _=_
     rw[show k+1-1=(k-1)+1 by omega,ze,Hn3.out];simp only;rw[Hn4.out]
    have Hml5:Hid ((ms++[m]).length=k+1-1):=by
     show _=_
     rw[IQ,Hml.out];simp only[List.length_singleton];omega
    clear hR5 hg5 h8 h9 hz H7 N3
    go_wp2_with fail
    go_roundw
    case rel=>exact⟨t',ms++[m],k+1,by omega,by omega,by go_num,Hml5,Hn5,H9⟩
    case measure=>simp[intOf];omega
   ·obtain rfl:k=6:=by omega
    have hl5:ms.length=5:=Hml.out;have Hl5:=hid hl5;have Hns:Hid (dz l 5 t2=(t,ms)):=Hn3;clear hl5 Hml Hn3 hk1 hk6 hlt;have N8:=hid (fV base g l t wr H7.out.rd H7.out.ok hl);have q8:=ft H7.out.ok;have b8:=iK l t;rcases hn8:bm l t with ⟨t4,m8⟩
    rw[hn8] at N8 q8 b8;have Hn8:=hid hn8;clear hn8
    go_wp2_with fail
    refine N8.out.mono ?_;rintro e w8 ⟨rfl,hR8,hg8⟩;have H8:=hid (H7.out.after hR8 q8 hg8);clear hR8 hg8 q8 N8;have N9:=hid (fV base g l t4 w8 H8.out.rd H8.out.ok hl);have q9:=ft H8.out.ok;have b9:=iK l t4;rcases hn9:bm l t4 with ⟨t5,m9⟩
    rw[hn9] at N9 q9 b9;have Hn9:=hid hn9;clear hn9
    go_wp2_with fail
    refine N9.out.mono ?_;rintro e w9 ⟨rfl,hR9,hg9⟩;have H9:=hid (H8.out.after hR9 q9 hg9);clear hR9 hg9 q9 N9;have hA:=(H9.out.set_ (f':={ bH with vips:=vs,size:=(m1:Int),room:=(m2:Int),idle:=eH ms,rise:=(m8:Int) }) 9 (.int .i64 (m8:Int)) (D1 H9.out.shape _) rfl (yX H9.out.shape _));have hBx:=hA.set_ (f':={ bH with vips:=vs,size:=(m1:Int),room:=(m2:Int),idle:=eH ms,rise:=(m8:Int),fall:=(m9:Int) }) 10 (.int .i64 (m9:Int)) (D2 hA.shape _) rfl (yY hA.shape _);have e1:=lV H9.out.box H9.out.shape;have e2:=lW H9.out.box H9.out.shape;have ef:∀i,w9.frozen? ⟨w.heap.size+1,i,none⟩=false:=fun i=>H9.out.box.frozen i
    have HB0:=hid hBx;clear hA hBx H7 H8 H9;go_upto_region 2 with fail
    clear e1 e2 ef;obtain⟨wx,hwx⟩:∃wx,wx=(w9.setCell ⟨w.heap.size+1,9,none⟩ (.int .i64 (m8:Int))).setCell ⟨w.heap.size+1,10,none⟩ (.int .i64 (m9:Int)):=⟨_,rfl⟩;rw[←hwx] at HB0 ⊢;clear hwx;have qx1:=dX HB0.out.ok 6;rcases hx1:bG l t5 6 with ⟨u1,x1⟩
    rw[hx1] at qx1;have le1:x1.length≤6:=uN (n:=6) hx1;have Tk1:=hid (ew base g l t5 wx.drew 6 HB0.out.rd.drew HB0.out.ok hl (by omega));rw[hx1] at Tk1;have Hx1:=hid hx1;have Qx1:=hid qx1;clear hx1 qx1;refine wp_region_noPanic ?_;refine wp_region_held_drew (S:=fun _=>True) (by kernel_rfl) trivial (fun hHeld=>?_);refine wpAnyH_take (i:=0) (v:=?_) rfl (by kernel_rfl) (by kernel_rfl) (by kernel_rfl) (fun _ _ _ h=>h) (II ⟨by rfl,?_⟩) hHeld ?_;rotate_left
    ·intro w' hSw
     skip
     go_simp
     try with_reducible rfl
    try simp only[IE,IA,Iy,Iz,qq,IB,IC]
    refine wpAnyH_take (i:=1) (v:=?_) rfl (by kernel_rfl) (by kernel_rfl) (by kernel_rfl) (fun _ _ _ h=>h) (II ⟨by rfl,?_⟩) hHeld ?_;rotate_left
    ·intro w' hSw
     skip
     go_simp
     try with_reducible rfl
    try simp only[IE,IA,Iy,Iz,qq,IB,IC]
    refine wpAnyH_take (i:=2) (v:=?_) rfl (by kernel_rfl) (by kernel_rfl) (by kernel_rfl) (fun _ _ _ h=>h) (II ⟨by rfl,?_⟩) hHeld ?_;rotate_left
    ·intro w' hSw
     skip
     go_simp
     try with_reducible rfl
    try simp only[IE,IA,Iy,Iz,qq,IB,IC]
    refine wpAnyH_ready (rs:=[3]) (by kernel_rfl) (by simp) ?_;refine ID (i:=3) rfl (fun K hK=>?_) IG;go_simp
    refine Tk1.out.mono ?_;rintro e wyc ⟨Ax1,cx1,rfl,hown1,hR1,hg1⟩;have hd1:=(HB0.out.below ((Below.refl _ _).drew)).after hR1 Qx1.out hg1;have hbs1:=(IW hown1).1;have Hd1:=hid hd1;have Hbs1:=hid hbs1;clear hown1 hR1 hg1 hd1 hbs1 Tk1 Qx1
    go_wp2_with fail
    refine hK.out _ _ trivial (fun hHeld=>?_);clear hK K
    try simp only[IE,IA,Iy,Iz,qq,IB,IC]
    refine wpAnyH_ready (rs:=[4]) (by kernel_rfl) (by simp) ?_;refine ID (i:=4) rfl (fun K hK=>?_) IG;rw[if_pos (by rfl)];obtain⟨pre1,post1,hcs1,hpre1⟩:=wv (A:=Av) (n:=vs.length) (c:=cv) Hd1.out.shape;refine jJ (.tmp 78) (.tmp 80) 43 43 rfl 5 IM mP (w.heap.size+1) 11 6 6 Ax1 cx1 x1 rfl rfl _ Hbs1.out (IJ le1 (by decide)) 29 (fun b=>am Av vs.length cv { { bH with vips:=vs,size:=(m1:Int),room:=(m2:Int),idle:=eH ms,rise:=(m8:Int),fall:=(m9:Int) } with mac:=b }) pre1 post1 hcs1 hpre1 Hd1.out.box ?_;intro wy z1 hbox1 hgr1;have HB1:=hid (k9.boxed (f':={ bH with vips:=vs,size:=(m1:Int),room:=(m2:Int),idle:=eH ms,rise:=(m8:Int),fall:=(m9:Int),mac:=ej x1 6 }) Hd1.out hbox1 rfl hgr1 (uO Hd1.out.shape _ (IJ le1 (by decide))));clear hbox1 hgr1 hcs1 hpre1 Hbs1 Hd1 HB0;refine hK.out _ _ trivial (fun hHeld=>?_);clear hK K
    try simp only[IE,IA,Iy,Iz,qq,IB,IC]
    refine wpAnyH_done (by kernel_rfl) ?_ _;refine IK ?_
    go_wp2_with fail
    have qx2:=dX HB1.out.ok 4;rcases hx2:bG l u1 4 with ⟨u2,x2⟩
    rw[hx2] at qx2;have le2:x2.length≤4:=uN (n:=4) hx2;have Tk2:=hid (ew base g l u1 wy.drew 4 HB1.out.rd.drew HB1.out.ok hl (by omega));rw[hx2] at Tk2;have Hx2:=hid hx2;have Qx2:=hid qx2;clear hx2 qx2;refine wp_region_noPanic ?_;refine wp_region_held_drew (S:=fun _=>True) (by kernel_rfl) trivial (fun hHeld=>?_);refine wpAnyH_take (i:=0) (v:=?_) rfl (by kernel_rfl) (by kernel_rfl) (by kernel_rfl) (fun _ _ _ h=>h) (II ⟨by rfl,?_⟩) hHeld ?_;rotate_left
    ·intro w' hSw
     skip
     go_simp
     try with_reducible rfl
    simp only[IE,IA,Iy,Iz,qq,IB,IC];refine wpAnyH_take (i:=1) (v:=?_) rfl (by kernel_rfl) (by kernel_rfl) (by kernel_rfl) (fun _ _ _ h=>h) (II ⟨by rfl,?_⟩) hHeld ?_;rotate_left
    ·intro w' hSw
     skip
     go_simp
     try with_reducible rfl
    simp only[IE,IA,Iy,Iz,qq,IB,IC];refine wpAnyH_take (i:=2) (v:=?_) rfl (by kernel_rfl) (by kernel_rfl) (by kernel_rfl) (fun _ _ _ h=>h) (II ⟨by rfl,?_⟩) hHeld ?_;rotate_left
    ·intro w' hSw
     skip
     go_simp
     try with_reducible rfl
    simp only[IE,IA,Iy,Iz,qq,IB,IC];refine wpAnyH_take (i:=3) (v:=?_) rfl (by kernel_rfl) (by kernel_rfl) (by kernel_rfl) (fun _ _ _ h=>h) (II ⟨by rfl,?_⟩) hHeld ?_;rotate_left
    ·intro w' hSw
     skip
     go_simp
     try with_reducible rfl
    simp only[IE,IA,Iy,Iz,qq,IB,IC];refine wpAnyH_ready (rs:=[4]) (by kernel_rfl) (by simp) ?_;refine ID (i:=4) rfl (fun K hK=>?_) IG;go_simp
    refine Tk2.out.mono ?_;rintro e wzc ⟨Ax2,cx2,rfl,hown2,hR2,hg2⟩;have hd2:=(HB1.out.below ((Below.refl _ _).drew)).after hR2 Qx2.out hg2;have hbs2:=(IW hown2).1;have Hd2:=hid hd2;have Hbs2:=hid hbs2;clear hown2 hR2 hg2 hd2 hbs2 Tk2 Qx2
    go_wp2_with fail
    refine hK.out _ _ trivial (fun hHeld=>?_);clear hK K
    try simp only[IE,IA,Iy,Iz,qq,IB,IC]
    refine wpAnyH_ready (rs:=[5]) (by kernel_rfl) (by simp) ?_;refine ID (i:=5) rfl (fun K hK=>?_) IG;rw[if_pos (by rfl)];obtain⟨pre2,post2,hcs2,hpre2⟩:=uz (A:=Av) (n:=vs.length) (c:=cv) Hd2.out.shape;refine jJ (.tmp 84) (.tmp 86) 43 43 rfl 5 IM mP (w.heap.size+1) 18 16 16 Ax2 cx2 x2 rfl rfl _ Hbs2.out (IJ le2 (by decide)) 29 (fun b=>am Av vs.length cv { { bH with vips:=vs,size:=(m1:Int),room:=(m2:Int),idle:=eH ms,rise:=(m8:Int),fall:=(m9:Int),mac:=ej x1 6 } with four:=(false,b) }) pre2 post2 hcs2 hpre2 Hd2.out.box ?_;intro wz z2 hbox2 hgr2;have HB2:=hid (k9.boxed (f':={ bH with vips:=vs,size:=(m1:Int),room:=(m2:Int),idle:=eH ms,rise:=(m8:Int),fall:=(m9:Int),mac:=ej x1 6,four:=(false,ej x2 16) }) Hd2.out hbox2 rfl hgr2 (sP Hd2.out.shape _ (IJ le2 (by decide))));clear hbox2 hgr2 hcs2 hpre2 Hbs2 Hd2 HB1;refine hK.out _ _ trivial (fun hHeld=>?_);clear hK K
    try simp only[IE,IA,Iy,Iz,qq,IB,IC]
    refine wpAnyH_done (by kernel_rfl) ?_ _;refine IK ?_
    go_wp2_with fail
    have qx3:=dX HB2.out.ok 16;rcases hx3:bG l u2 16 with ⟨u3,x3⟩
    rw[hx3] at qx3;have le3:x3.length≤16:=uN (n:=16) hx3;have Tk3:=hid (ew base g l u2 wz.drew 16 HB2.out.rd.drew HB2.out.ok hl (by omega));rw[hx3] at Tk3;have Hx3:=hid hx3;have Qx3:=hid qx3;clear hx3 qx3;refine wp_region_noPanic ?_;refine wp_region_held_drew (S:=fun _=>True) (by kernel_rfl) trivial (fun hHeld=>?_);refine wpAnyH_take (i:=0) (v:=?_) rfl (by kernel_rfl) (by kernel_rfl) (by kernel_rfl) (fun _ _ _ h=>h) (II ⟨by rfl,?_⟩) hHeld ?_;rotate_left
    ·intro w' hSw
     skip
     go_simp
     try with_reducible rfl
    simp only[IE,IA,Iy,Iz,qq,IB,IC];refine wpAnyH_take (i:=1) (v:=?_) rfl (by kernel_rfl) (by kernel_rfl) (by kernel_rfl) (fun _ _ _ h=>h) (II ⟨by rfl,?_⟩) hHeld ?_;rotate_left
    ·intro w' hSw
     skip
     go_simp
     try with_reducible rfl
    simp only[IE,IA,Iy,Iz,qq,IB,IC];refine wpAnyH_take (i:=2) (v:=?_) rfl (by kernel_rfl) (by kernel_rfl) (by kernel_rfl) (fun _ _ _ h=>h) (II ⟨by rfl,?_⟩) hHeld ?_;rotate_left
    ·intro w' hSw
     skip
     go_simp
     try with_reducible rfl
    simp only[IE,IA,Iy,Iz,qq,IB,IC];refine wpAnyH_take (i:=3) (v:=?_) rfl (by kernel_rfl) (by kernel_rfl) (by kernel_rfl) (fun _ _ _ h=>h) (II ⟨by rfl,?_⟩) hHeld ?_;rotate_left
    ·intro w' hSw
     skip
     go_simp
     try with_reducible rfl
    simp only[IE,IA,Iy,Iz,qq,IB,IC];refine wpAnyH_ready (rs:=[4]) (by kernel_rfl) (by simp) ?_;refine ID (i:=4) rfl (fun K hK=>?_) IG;go_simp
    refine Tk3.out.mono ?_;rintro e wqc ⟨Ax3,cx3,rfl,hown3,hR3,hg3⟩;have hd3:=(HB2.out.below ((Below.refl _ _).drew)).after hR3 Qx3.out hg3;have hbs3:=(IW hown3).1;have Hd3:=hid hd3;have Hbs3:=hid hbs3;clear hown3 hR3 hg3 hd3 hbs3 Tk3 Qx3
    go_wp2_with fail
    refine hK.out _ _ trivial (fun hHeld=>?_);clear hK K
    try simp only[IE,IA,Iy,Iz,qq,IB,IC]
    refine wpAnyH_ready (rs:=[5]) (by kernel_rfl) (by simp) ?_;refine ID (i:=5) rfl (fun K hK=>?_) IG;rw[if_pos (by rfl)];obtain⟨pre3,post3,hcs3,hpre3⟩:=ww (A:=Av) (n:=vs.length) (c:=cv) Hd3.out.shape;refine jJ (.tmp 90) (.tmp 92) 43 43 rfl 5 IM mP (w.heap.size+1) 35 16 16 Ax3 cx3 x3 rfl rfl _ Hbs3.out (IJ le3 (by decide)) 29 (fun b=>am Av vs.length cv { { bH with vips:=vs,size:=(m1:Int),room:=(m2:Int),idle:=eH ms,rise:=(m8:Int),fall:=(m9:Int),mac:=ej x1 6,four:=(false,ej x2 16) } with six:=(false,b) }) pre3 post3 hcs3 hpre3 Hd3.out.box ?_;intro wq z3 hbox3 hgr3;have HB3:=hid (k9.boxed (f':={ bH with vips:=vs,size:=(m1:Int),room:=(m2:Int),idle:=eH ms,rise:=(m8:Int),fall:=(m9:Int),mac:=ej x1 6,four:=(false,ej x2 16),six:=(false,ej x3 16) }) Hd3.out hbox3 rfl hgr3 (uP Hd3.out.shape _ (IJ le3 (by decide))));clear hbox3 hgr3 hcs3 hpre3 Hbs3 Hd3 HB2;refine hK.out _ _ trivial (fun hHeld=>?_);clear hK K
    try simp only[IE,IA,Iy,Iz,qq,IB,IC]
    refine wpAnyH_done (by kernel_rfl) ?_ _;refine IK ?_;have hB4:=HB3.out.set_ (f':={ bH with vips:=vs,size:=(m1:Int),room:=(m2:Int),idle:=eH ms,rise:=(m8:Int),fall:=(m9:Int),mac:=ej x1 6,four:=(false,ej x2 16),six:=(true,ej x3 16) }) 34 (.bool true) (D3 HB3.out.shape _) rfl (zb HB3.out.shape _);have e1:=uf HB3.out.box HB3.out.shape;have ef:wq.frozen? ⟨w.heap.size+1,34,none⟩=false:=HB3.out.box.frozen 34;have HB4:=hid hB4;clear hB4 HB3;obtain⟨wk,hwk⟩:∃wk,wk=wq.setCell ⟨w.heap.size+1,34,none⟩ (.bool true):=⟨_,rfl⟩;rw[←hwk] at HB4;go_upto_region 1 with fail
    rw[←hwk];clear hwk e1 ef;have N20:=hid (fV base g l u3 wk HB4.out.rd HB4.out.ok hl);have q20:=ft HB4.out.ok;have b20:=iK l u3;rcases hn20:bm l u3 with ⟨v1,k1⟩
    rw[hn20] at N20 q20 b20;have Hn20:=hid hn20;clear hn20;skip
    refine N20.out.mono ?_;rintro e wk1 ⟨rfl,hR20,hg20⟩;have HC1:=hid (HB4.out.after hR20 q20 hg20);clear hR20 hg20 q20 N20 HB4;have N21:=hid (fV base g l v1 wk1 HC1.out.rd HC1.out.ok hl);have q21:=ft HC1.out.ok;have b21:=iK l v1;rcases hn21:bm l v1 with ⟨v2,k2⟩
    rw[hn21] at N21 q21 b21;have Hn21:=hid hn21;clear hn21
    go_wp2_with fail
    refine N21.out.mono ?_;rintro e wk2 ⟨rfl,hR21,hg21⟩;have HC2:=hid (HC1.out.after hR21 q21 hg21);clear hR21 hg21 q21 N21 HC1;have N22:=hid (fV base g l v2 wk2 HC2.out.rd HC2.out.ok hl);have q22:=ft HC2.out.ok;have b22:=iK l v2;rcases hn22:bm l v2 with ⟨v3,k3⟩
    rw[hn22] at N22 q22 b22;have Hn22:=hid hn22;clear hn22
    go_wp2_with fail
    refine N22.out.mono ?_;rintro e wk3 ⟨rfl,hR22,hg22⟩;have HC3:=hid (HC2.out.after hR22 q22 hg22);clear hR22 hg22 q22 N22 HC2;have hA:=(HC3.out.set_ (f':={ bH with vips:=vs,size:=(m1:Int),room:=(m2:Int),idle:=eH ms,rise:=(m8:Int),fall:=(m9:Int),mac:=ej x1 6,four:=(false,ej x2 16),six:=(true,ej x3 16),most:=(k1:Int) }) 51 (.int .i64 (k1:Int)) (D4 HC3.out.shape _) rfl (yZ HC3.out.shape _));have hA2:=(hA.set_ (f':={ bH with vips:=vs,size:=(m1:Int),room:=(m2:Int),idle:=eH ms,rise:=(m8:Int),fall:=(m9:Int),mac:=ej x1 6,four:=(false,ej x2 16),six:=(true,ej x3 16),most:=(k1:Int),keep:=(k2:Int) }) 52 (.int .i64 (k2:Int)) (D5 hA.shape _) rfl (za hA.shape _));have hA3:k9 w _ base g l v3 Av cv (sc vs m1 m2 ms m8 m9 x1 x2 x3 k1 k2 k3):=hA2.set_ (f':=sc vs m1 m2 ms m8 m9 x1 x2 x3 k1 k2 k3) 53 (.int .i64 (k3:Int)) (BI hA2.shape _) rfl (wX hA2.shape _);have e1:=lY HC3.out.box HC3.out.shape;have e2:=lZ HC3.out.box HC3.out.shape;have e3:=ko HC3.out.box HC3.out.shape;have ef:∀i,wk3.frozen? ⟨w.heap.size+1,i,none⟩=false:=fun i=>HC3.out.box.frozen i
    have HD0:=hid hA3;have hgi:=GM Hm.out Hmv.out Hn1.out Hn2.out Hns.out Hn8.out Hn9.out Hx1.out Hx2.out Hx3.out Hn20.out Hn21.out Hn22.out;have Hgi:=hid hgi;clear hgi;obtain⟨F,hF⟩:∃F,F=sc vs m1 m2 ms m8 m9 x1 x2 x3 k1 k2 k3:=⟨_,rfl⟩;have hFv:F.vips=vs:=by rw[hF];rfl
    rw[←hF] at HD0 Hgi;clear hA hA2 hA3 HC3 hF;obtain⟨wm,hwm⟩:∃wm,wm=((wk3.setCell ⟨w.heap.size+1,51,none⟩ (.int .i64 (k1:Int))).setCell ⟨w.heap.size+1,52,none⟩ (.int .i64 (k2:Int))).setCell ⟨w.heap.size+1,53,none⟩ (.int .i64 (k3:Int)):=⟨_,rfl⟩;rw[←hwm] at HD0;have HFv:=hid hFv;clear hFv;go_upto_region 1 with fail
    rw[←hwm];clear hwm e1 e2 e3 ef;refine (pQ base g l v3 wm HD0.out.rd HD0.out.ok hl).mono ?_;rintro e wn ⟨rfl,hRe,hge⟩;have hE:=HD0.out.after hRe (xS HD0.out.ok) hge;rcases hend:jM l v3 with ⟨p4,fa,fe⟩
    rw[hend] at hE Hgi;have HE0:=hid hE;have Fl:=hid (zh base g l (p4,fa,fe) wn HE0.out.rd);clear hend hRe hge HD0 hE
    go_wp2_with fail
    refine Fl.out.mono ?_;rintro e wf ⟨rfl,hbf⟩;have HF0:=hid (HE0.out.below hbf);clear hbf HE0 Fl;rcases IR fa with rfl|hfa
    ·rcases IR fe with rfl|hfe
     ·have c0:=i8 HF0.out.box
      rw[HFv.out] at c0;by_cases hlen:vs.length=many
      ·have HR:=hid (ag HF0.out.box)
       have Hsz:Hid ((IH.info? 29).map (·.size)=some (am Av F.vips.length cv F).length):=by
        show _=_
        rw[dD HF0.out.shape];exact dH
       have Hrt:=hid (p9 Av F.vips.length cv F HF0.out.shape wf rfl (jb HF0.out.row.1) HF0.out.row.vs (by rw[HFv.out];omega));have hlenI:(vs.length:Int)=(many:Int):=by rw[hlen]
       have Hlen:=hid hlen;unfold iT at Hrt;clear hlen;rcases hrb:aQ F with _|_
       ·have hno:cz l=none:=by
         rw[Hgi.out,if_neg];rintro⟨_,_,_,h⟩;rw[hrb] at h;cases h
        have Hno:=hid hno;rw[hrb] at Hrt;clear hno hrb
        go_wp2_with (first
         |((with_reducible refine aB 29 ?_);refine aa (by rfl) 29 (.tmp 4) rfl (w.heap.size+1) 0 rfl (am Av F.vips.length cv F) _ HR.out fB rfl Hsz.out ?_))
        refine Hrt.out.mono ?_;rintro e wg ⟨rfl,hbg⟩;have HG0:=hid (HF0.out.below hbg);clear hbg c0;have HZ:=hid HG0.out.badBlk;have Hth:=hid HG0.out.thereR;have Hpost:=hid (HG0.out.bad Hno.out)
        go_wp2_with (first
         |((with_reducible refine aR 29 ?_);refine wpList_store_mid rfl 29 (.tmp 2) (.tmp 123) rfl w.heap.size 0 (am none 0 0 bH).toArray rfl rfl Hth.out dH (gP none 0 0 bH) ?_))
        refine bodyPost_ret (v:=.tuple #[.agg (am none 0 0 bH).toArray,.int .i64 3]) (aN (P:=IH) (p:=2) (u:=3) rfl _ _ w.heap.size _ _ _ _ rfl HZ.out fB rfl dH) rfl Hpost.out
       ·have hyes:cz l=some F:=by
         rw[Hgi.out,if_pos ⟨rfl,rfl,Hlen.out,hrb⟩]
        have Hyes:=hid hyes;rw[hrb] at Hrt;clear hyes hrb
        go_wp2_with (first
         |((with_reducible refine aB 29 ?_);refine aa (by rfl) 29 (.tmp 4) rfl (w.heap.size+1) 0 rfl (am Av F.vips.length cv F) _ HR.out fB rfl Hsz.out ?_))
        refine Hrt.out.mono ?_;rintro e wg ⟨rfl,hbg⟩;have HG0:=hid (HF0.out.below hbg);clear hbg c0 HR;have HR:=hid (ag HG0.out.box);have HZ:=hid HG0.out.goodBlk;have Hth:=hid HG0.out.thereF;have Hsz2:Hid ((IH.info? 29).map (·.size)=some (am Av F.vips.length cv F).toArray.size):=Hsz;have Hpost:=hid (HG0.out.good Hyes.out)
        go_wp2_with (first
         |((with_reducible refine aB 29 ?_);refine aa (by rfl) 29 (.tmp 4) rfl (w.heap.size+1) 0 rfl (am Av F.vips.length cv F) _ HR.out fB rfl Hsz.out ?_)
         |((with_reducible refine aR 29 ?_);refine wpList_store_mid rfl 29 (.tmp 2) (.tmp 124) rfl w.heap.size 0 (am Av F.vips.length cv F).toArray rfl rfl Hth.out Hsz2.out (gP _ _ _ _) ?_))
        refine bodyPost_ret (v:=.tuple #[.agg (am Av F.vips.length cv F).toArray,.int .i64 0]) (aN (P:=IH) (p:=2) (u:=3) rfl _ _ w.heap.size _ _ _ _ rfl HZ.out fB rfl Hsz2.out) rfl Hpost.out
      ·have hno:cz l=none:=by
        rw[Hgi.out,if_neg];rintro⟨_,_,h,_⟩;exact hlen h
       have Hno:=hid hno;have hlenI:¬(vs.length:Int)=(many:Int):=by omega
       clear hno;have HZ:=hid HF0.out.badBlk;have Hth:=hid HF0.out.thereR;have Hpost:=hid (HF0.out.bad Hno.out)
       go_wp2_with (first
        |((with_reducible refine aR 29 ?_);refine wpList_store_mid rfl 29 (.tmp 2) (.tmp 123) rfl w.heap.size 0 (am none 0 0 bH).toArray rfl rfl Hth.out dH (gP none 0 0 bH) ?_))
       refine bodyPost_ret (v:=.tuple #[.agg (am none 0 0 bH).toArray,.int .i64 3]) (aN (P:=IH) (p:=2) (u:=3) rfl _ _ w.heap.size _ _ _ _ rfl HZ.out fB rfl dH) rfl Hpost.out
     ·have hno:cz l=none:=by
       rw[Hgi.out,if_neg];rintro⟨_,h,_,_⟩;omega
      have Hno:=hid hno;have hfI:((fe:Int)==0)=false:=by simp;omega
      clear hno;have HZ:=hid HF0.out.badBlk;have Hth:=hid HF0.out.thereR;have Hpost:=hid (HF0.out.bad Hno.out)
      go_wp2_with (first
       |((with_reducible refine aR 29 ?_);refine wpList_store_mid rfl 29 (.tmp 2) (.tmp 123) rfl w.heap.size 0 (am none 0 0 bH).toArray rfl rfl Hth.out dH (gP none 0 0 bH) ?_))
      refine bodyPost_ret (v:=.tuple #[.agg (am none 0 0 bH).toArray,.int .i64 3]) (aN (P:=IH) (p:=2) (u:=3) rfl _ _ w.heap.size _ _ _ _ rfl HZ.out fB rfl dH) rfl Hpost.out
    ·have hno:cz l=none:=by
      rw[Hgi.out,if_neg];rintro⟨h,_,_,_⟩;omega
     have Hno:=hid hno;have hfI:((fa:Int)==0)=false:=by simp;omega
     clear hno;have HZ:=hid HF0.out.badBlk;have Hth:=hid HF0.out.thereR;have Hpost:=hid (HF0.out.bad Hno.out)
     go_wp2_with (first
      |((with_reducible refine aR 29 ?_);refine wpList_store_mid rfl 29 (.tmp 2) (.tmp 123) rfl w.heap.size 0 (am none 0 0 bH).toArray rfl rfl Hth.out dH (gP none 0 0 bH) ?_))
     refine bodyPost_ret (v:=.tuple #[.agg (am none 0 0 bH).toArray,.int .i64 3]) (aN (P:=IH) (p:=2) (u:=3) rfl _ _ w.heap.size _ _ _ _ rfl HZ.out fB rfl dH) rfl Hpost.out
theorem qd:(aI ia).toArray=(#[.bool false,.int .u8 0,.int .u8 0,.int .u8 0,.int .u8 0,.int .u8 0,.int .u8 0,.int .u8 0,.int .u8 0,.int .u8 0,.int .u8 0,.int .u8 0,.int .u8 0,.int .u8 0,.int .u8 0,.int .u8 0,.int .u8 0,.int .i64 0,.int .i64 0,.bool false]:Array Value):=rfl
theorem VS.blk{w:World}{g:Nat}{t:TypeId}{v:ct}(h:aj w g t (aI v).toArray):VS w w.heap.size (some ⟨g,0,none⟩) [v]:=by
 intro _;refine⟨g,0,rfl,h.lt,fun j u hj=>?_⟩;rcases j with _|j
 ·simp only[List.getElem?_cons_zero,IT.injEq] at hj
  subst hj;exact ag h
 ·simp at hj
theorem oB{f:bf}(hs:ao f)(hr:aQ f=true):(bM f).length≤2000:=by
 have hv:=(ot hs (gH.1 hr)).1;have h1:=lI f.vips hs.vips;have h2:(aC f.vips.length).length≤10:=by
  have:=fK (ns:=[f.vips.length]) (by simp;omega);simpa[aJ] using this
 have h3:=fK (ns:=dd f) (fun n hn=>by have:=mN hs (gH.1 hr) n hn;omega);have h4:=fK (ns:=dN f) (fun n hn=>by have:=mO (gH.1 hr) n hn;omega);have h5:(dd f).length=9:=by simp[dd,hs.idle]
 have h6:(dN f).length=3:=rfl;have hm:=hs.mac;have h16:f.six.2.length=16:=hs.six;unfold bM;simp only[IQ,List.length_take];omega
