import Derived.Test.YtaafkokfdgfabaaGreatP24
import Derived.Lib.BytesEntry
import Derived.Lib.Bytealg
set_option maxHeartbeats 8000000
set_option maxRecDepth 100000
set_option linter.unusedVariables false
set_option linter.unusedSimpArgs false
open List renaming getElem?_eq_getElem→Iz,take_of_length_le→IC,take_add_one→IG
open Nat renaming lt_of_lt_of_le→IA,le_refl→IE,reduceAdd→IF
open UInt8 renaming toNat_inj→ID
namespace Go.Proofs.YtaafkokfdgfabaaGreat
open Go.RowKit
open Lib (hid)
open BS renaming of_own→IH
open Lib renaming compareBytes→qq
open On renaming call→II
open Op renaming bytesLess→Iy
open Sd renaming done→IJ
open Tryz renaming prog→IB
theorem wE:∀(a b:List UInt8),decide (qq a b<0)=Iy a b
 |[],[]=>by simp[qq,Iy]
 |[],_::_=>by simp[qq,Iy]
 |_::_,[]=>by simp[qq,Iy]
 |a::xs,b::ys=>by
  unfold qq Iy;rw[←wE xs ys];by_cases h1:a<b
  ·simp[h1]
  ·by_cases h2:b<a
   ·have h3:¬a=b:=fun e=>by subst e;exact h1 h2
    simp[h1,h2,h3]
   ·have h3:a=b:=ID.1 (by rw[UInt8.lt_iff_toNat_lt] at h1 h2;omega)
    simp[h1,h2,h3]
theorem yN(l:List UInt8):Lib.bytesOf (l.map fun c=>(c.toNat:Int))=l:=by
 unfold Lib.bytesOf;rw[List.map_map];conv=>rhs;rw[←List.map_id l]
 refine List.map_congr_left fun c _=>?_
 exact ID.1 (by simp)
theorem qs{P:Program}{w:World}{B:Nat}{A:Option Addr}{n c:Nat}{l:List UInt8}(hb:BS w B A l)(hn:n=l.length)(h0:0<l.length):(Extern.Bytes.bytesOf (.slice A n c)).run P w=.ok ⟨l.toArray⟩ w:=by
 subst hn;obtain⟨ad,rfl,_,hc⟩:=hb h0;have hl:=Lib.run_loadBytesX (P:=P) w (l.map fun c=>(c.toNat:Int)) ad .empty (fun j x hj=>by
  rw[List.getElem?_map] at hj;rcases hq:l[j]? with _|c
  ·rw[hq] at hj;cases hj
  ·rw[hq] at hj;injection hj with hj;subst hj
   exact hc j c hq)
 rw[List.length_map,yN] at hl;unfold Extern.Bytes.bytesOf;rw[hl];congr 1
 apply ByteArray.ext
 show (#[]:Array UInt8)++l.toArray=l.toArray
 simp
theorem wF{P:Program}{w:World}{B:Nat}{A A':Option Addr}{n c n' c':Nat}{l l':List UInt8}(hb:BS w B A l)(hn:n=l.length)(h0:0<l.length)(hb':BS w B A' l')(hn':n'=l'.length)(h0':0<l'.length) :
  (Extern.BytealgCompare.compare #[.slice A n c,.slice A' n' c']).run P w=.ok (.int .i64 (qq l l')) w:=by
 change Sem.run P (do pure (goInt (Extern.BytealgCompare.cmp (←Extern.Bytes.bytesOf (.slice A n c)) (←Extern.Bytes.bytesOf (.slice A' n' c'))))) w=_
 simp only[Sem.run_bind,qs hb hn h0,qs hb' hn' h0',Sem.run_pure,Result.andThen];rw[Lib.cmp_eq];rfl
theorem wH(A A':Option Addr)(n c n' c':Nat)(l l':List UInt8)(w:World)(hb:BS w w.heap.size A l)(hn:n=l.length)(h0:0<l.length)(hb':BS w w.heap.size A' l')(hn':n'=l'.length)(h0':0<l'.length) :
  Calls IB 188 #[.slice A n c,.slice A' n' c'] w fun e w'=>e=.returned (.int .i64 (qq l l'))∧w=w':=by
 have hcall:(callFunc 197 #[.slice A n c,.slice A' n' c']).run IB w=.ok (.value (.int .i64 (qq l l'))) w:=by
  rw[run_callFunc_extern Tryz.func197 (by kernel_rfl) (by kernel_rfl) (by kernel_rfl) (e:=Extern.BytealgCompare.compare) (by kernel_rfl),wF hb hn h0 hb' hn' h0'];rfl
 clear hb hb' hn hn' h0 h0';go_enter Tryz.func188,Tryz.ntmps188
 go_wp2
 go_ret
 exact⟨rfl,rfl⟩
def ox(a b:dE):Int:=if a.no=b.no then qq (aZ a.key) (aZ b.key) else a.no-b.no
theorem wI(a b:dE):decide (ox a b<0)=fQ a b:=by
 unfold ox fQ;by_cases h:a.no=b.no
 ·rw[if_pos h,if_pos h];exact wE _ _
 ·rw[if_neg h,if_neg h];exact decide_eq_decide.2 (by omega)
theorem pp(k:fL):0<(aZ k).length:=by simp[aZ]
theorem BO(f g:dE)(hf:cy f.key)(hg:cy g.key)(kf:dC f.key=true)(kg:dC g.key=true)(nf:0≤f.no∧f.no≤1152921504606846976)(ng:0≤g.no∧g.no≤1152921504606846976)(w:World) :
  Calls IB 170 #[.agg (aw f).toArray,.agg (aw g).toArray] w fun e w'=>e=.returned (.int .i64 (ox f g))∧Below w.heap.size w w':=by
 obtain⟨W1,hW1⟩:∃W,W=w.alloc (.cells (aw f).toArray 120):=⟨_,rfl⟩;obtain⟨W,hW⟩:∃W,W=W1.alloc (.cells (aw g).toArray 120):=⟨_,rfl⟩;have X1:aj W1 w.heap.size 120 (aw f).toArray:=by rw[hW1];exact aj.new w _ _ _ rfl
 have B1:Below W1.heap.size W1 W:=by rw[hW];exact (Below.refl _ _).alloc (IE _) _
 have HX:=hid (X1.below B1 X1.lt);have HY:Hid (aj W (w.heap.size+1) 120 (aw g).toArray):=by rw[hW];exact aj.new W1 _ _ _ (by rw[hW1];simp)
 have HB:Hid (Below w.heap.size w W):=by
  have:Below w.heap.size w W1:=by rw[hW1];exact (Below.refl _ _).alloc (IE _) _
  exact this.trans (B1.mono this.size)
 have c1:W.cell? ⟨w.heap.size,40,none⟩=some (.int .i64 f.no):=cj hf HX.out 3;have c2:W.cell? ⟨w.heap.size+1,40,none⟩=some (.int .i64 g.no):=cj hg HY.out 3;have HW1:=hid hW1;have HW:=hid hW;have l0:w.heap.size<W.heap.size:=HX.out.lt;have l1:w.heap.size+1<W.heap.size:=HY.out.lt;clear hW hW1 X1 B1;go_enter Tryz.func170,Tryz.ntmps170
 go_upto_region 1 with fail
 rw[←HW1.out,←HW.out];clear HW HW1;by_cases hno:f.no=g.no
 ·have Hr:Hid (ox f g=qq (aZ f.key) (aZ g.key)):=by show _=_;unfold ox;rw[if_pos hno]
  rw[hno] at c1;clear hno;go_upto_region 3 with fail
  refine Wh.start fun hH=>?_
  have hH:=hH.out;refine tw 0 hH ?_;simp only[ld,lg,lf];refine lw 1 hH (yieldsIf_load_mid rfl _ _ rfl w.heap.size 0 rfl (aM f.key) _ (fun w' hS i c hc=>(bg hS _ _ l0).trans (fR hf HX.out i c hc)) cI rfl (gK hf)) ?_;simp only[ld,lg,lf];refine tw 3 hH ?_;simp only[ld,lg,lf];refine lw 4 hH (yieldsIf_load_mid rfl _ _ rfl (w.heap.size+1) 0 rfl (aM g.key) _ (fun w' hS i c hc=>(bg hS _ _ l1).trans (fR hg HY.out i c hc)) cI rfl (gK hg)) ?_;simp only[ld,lg,lf];refine one 2 (II (mm f.key hf kf _) ?_);rintro e w1 ⟨A1,n1,rfl,hown1,hb1⟩;have hH1:=hH.trans (hb1.mono hH.size);refine⟨_,rfl,hH1,?_⟩;simp only[ld,lg,lf];refine one 5 (II (mm g.key hg kg _) ?_);rintro e w2 ⟨A2,n2,rfl,hown2,hb2⟩;have hH2:=hH1.trans (hb2.mono hH1.size);refine⟨_,rfl,hH2,?_⟩;simp only[ld,lg,lf];refine one 6 (II (wH A1 A2 _ n1 _ n2 _ _ w2 (IH (an hown1 hb2)).1 rfl (pp _) (IH hown2).1 rfl (pp _)) ?_);rintro e w3 ⟨rfl,rfl⟩;refine⟨_,rfl,hH2,?_⟩;simp only[ld,lg,lf];refine tw 7 hH2 ?_;simp only[ld,lg,lf];refine Wh.done ?_;have Hb2:=hid (HB.out.trans (hH2.mono HB.out.size));clear hH hH1 hH2 hown1 hown2 hb1 hb2
  go_wp2
  go_ret
  exact⟨by rw[Hr.out];rfl,Hb2.out⟩
 ·have Hr:Hid (ox f g=f.no-g.no):=by show _=_;unfold ox;rw[if_neg hno]
  have hne:(f.no != g.no)=true:=by simpa using hno
  clear hno
  go_wp2
  go_ret
  exact⟨by rw[Hr.out];rfl,HB.out⟩
theorem bI:IB.underlying 120=some (.struct (IB.fieldsOf 120)):=by kernel_rfl
theorem ny:(IB.info? 120).map (·.size)=some 41:=by kernel_rfl
theorem iu{f:dE}(h:cy f.key):(IB.info? 120).map (·.size)=some (aw f).length:=by rw[ib h];exact ny
theorem BP(f g:dE)(hf:cy f.key)(hg:cy g.key)(kf:dC f.key=true)(kg:dC g.key=true)(nf:0≤f.no∧f.no≤1152921504606846976)(ng:0≤g.no∧g.no≤1152921504606846976)(w:World) :
  Calls IB 124 #[.agg (aw f).toArray,.agg (aw g).toArray] w fun e w'=>e=.returned (.bool (fQ f g))∧Below w.heap.size w w':=by
 obtain⟨W1,hW1⟩:∃W,W=w.alloc (.cells (aw f).toArray 120):=⟨_,rfl⟩;obtain⟨W,hW⟩:∃W,W=W1.alloc (.cells (aw g).toArray 120):=⟨_,rfl⟩;have X1:aj W1 w.heap.size 120 (aw f).toArray:=by rw[hW1];exact aj.new w _ _ _ rfl
 have B1:Below W1.heap.size W1 W:=by rw[hW];exact (Below.refl _ _).alloc (IE _) _
 have HX:=hid (X1.below B1 X1.lt);have HY:Hid (aj W (w.heap.size+1) 120 (aw g).toArray):=by rw[hW];exact aj.new W1 _ _ _ (by rw[hW1];simp)
 have HB:Hid (Below w.heap.size w W):=by
  have:Below w.heap.size w W1:=by rw[hW1];exact (Below.refl _ _).alloc (IE _) _
  exact this.trans (B1.mono this.size)
 have HW1:=hid hW1;have HW:=hid hW;have HK:=hid (BO f g hf hg kf kg nf ng);clear hW hW1 X1 B1 nf ng kf kg;go_enter Tryz.func124,Tryz.ntmps124
 go_upto_region 1 with fail
 rw[←HW1.out,←HW.out];clear HW HW1;refine Sd.plain ?_
 repeat ((first|refine sl (ag HX.out) HX.out.lt bI (iu hf) ?_|refine sl (ag HY.out) HY.out.lt bI (iu hg) ?_|refine cl (fun w _=>HK.out w) ?_|refine pt ?_);simp only[ld,lg,lf,IF])
 refine IJ fun w2 hb2=>?_
 have Hb2:=hid (HB.out.trans (hb2.mono HB.out.size));clear hb2
 go_wp2
 go_ret
 exact⟨by rw[←wI];rfl,Hb2.out⟩
theorem tS:∀a:List UInt8,Iy a a=false
 |[]=>by simp[Iy]
 |x::a=>by unfold Iy;simp[tS a]
theorem AD:∀(a b:List UInt8) (i:Nat) {x y:UInt8},a.take i=b.take i→a[i]?=some x→b[i]?=some y→x≠y→Iy a b=decide (x.toNat<y.toNat)
 |[],_,_,_,_,_,h,_,_=>by simp at h
 |_::_,[],_,_,_,_,_,h,_=>by simp at h
 |u::a,v::b,0,x,y,_,h1,h2,h3=>by
  simp only[List.getElem?_cons_zero,Option.some.injEq] at h1 h2;subst h1 h2;unfold Iy;rw[Bool.eq_iff_iff];simp[UInt8.lt_iff_toNat_lt,h3]
 |u::a,v::b,i+1,x,y,h,h1,h2,h3=>by
  simp only[List.take_succ_cons,List.cons.injEq] at h;obtain⟨rfl,h⟩:=h;have:=AD a b i h (by simpa using h1) (by simpa using h2) h3;unfold Iy;simp[this]
theorem pD{k:fL}(h:cy k):(aZ k).length=38:=by
 have h1:k.src.2.length=16:=h.src;have h2:k.dst.2.length=16:=h.dst;simp[aZ,h1,h2,az]
theorem zx(f g:dE)(hf0:cy f.key)(hg0:cy g.key)(kf:dC f.key=true)(kg:dC g.key=true)(w:World) :
  Calls IB 73 #[.agg (aw f).toArray,.agg (aw g).toArray] w fun e w'=>e=.returned (.bool (fQ f g))∧Below w.heap.size w w':=by
 obtain⟨W1,W,HW1,HW,Hs1,HX,HY,HB⟩:=mf w 120 120 (aw f).toArray (aw g).toArray;have hf:=hid hf0;have hg:=hid hg0;have Kf:=hid kf;have Kg:=hid kg;have d0:W.cell? ⟨w.heap.size,40,none⟩=some (.int .i64 f.no):=cj hf0 HX.out 3;have d1:W.cell? ⟨w.heap.size+1,40,none⟩=some (.int .i64 g.no):=cj hg0 HY.out 3;have R0:=hid (fR hf0 HX.out);clear hf0 hg0 kf kg;go_enter Tryz.func73,Tryz.ntmps73
 go_upto_region 1 with fail
 rw[←HW1.out,←HW.out];by_cases hno:f.no=g.no
 rotate_left
 ·have Hr:Hid (fQ f g=decide (f.no<g.no)):=by show _=_;unfold fQ;rw[if_neg hno]
  go_wp2
  go_ret
  exact⟨by rw[Hr.out];rfl,HB.out⟩
 have Hr:Hid (fQ f g=Iy (aZ f.key) (aZ g.key)):=by show _=_;unfold fQ;rw[if_pos hno]
 obtain⟨X,hX⟩:∃X,X=aZ f.key:=⟨_,rfl⟩;obtain⟨Y,hY⟩:∃X,X=aZ g.key:=⟨_,rfl⟩;have hXl:X.length=38:=by rw[hX];exact pD hf.out
 have hYl:Y.length=38:=by rw[hY];exact pD hg.out
 have CX:Hid (∀u,Calls IB 83 #[.agg (aM f.key).toArray] u fun e w'=>∃A c,e=.returned (.slice A 38 c)∧w'.ownsRow u.heap.size 5 1 (.slice A 38 c) 38 (ab X)∧Below u.heap.size u w'):=fun u=>by
  have:=oG f.key hf.out Kf.out u;rwa [←hX,hXl] at this
 have CY:Hid (∀u,Calls IB 83 #[.agg (aM g.key).toArray] u fun e w'=>∃A c,e=.returned (.slice A 38 c)∧w'.ownsRow u.heap.size 5 1 (.slice A 38 c) 38 (ab Y)∧Below u.heap.size u w'):=fun u=>by
  have:=oG g.key hg.out Kg.out u;rwa [←hY,hYl] at this
 rw[←hX,←hY] at Hr;clear hX hY
 go_wp2_with ((with_reducible refine aB 118 ?_);refine aa (by rfl) 118 (.tmp 18) rfl w.heap.size 0 rfl (aM f.key) _ R0.out cI rfl (gK hf.out) ?_)
 refine (CX.out W).mono ?_;rintro e w2 ⟨A2,c2,rfl,ho2,hb2⟩;have HB2:=hid (HB.out.trans (hb2.mono HB.out.size));have HY2:=hid (HY.out.below hb2 HY.out.lt);have R2:=hid (fR hg.out HY2.out);obtain⟨g2,cap2,hv2,_,hlt2⟩:=ho2.form (by decide);have hA2:A2=some ⟨g2,0,none⟩:=by injection hv2
 subst hA2;have Ho2:=hid ho2;clear ho2 hv2 R0 d0 d1
 go_wp2_with ((with_reducible refine aB 118 ?_);refine aa (by rfl) 118 (.tmp 21) rfl (w.heap.size+1) 0 rfl (aM g.key) _ R2.out cI rfl (gK hg.out) ?_)
 refine (CY.out w2).mono ?_;rintro e w3 ⟨A3,c3,rfl,ho3,hb3⟩;have HB3:=hid (HB2.out.trans (hb3.mono HB2.out.size));have hlt2:g2<w3.heap.size:=IA hlt2 hb3.size;obtain⟨g3,cap3,hv3,_,hlt3⟩:=ho3.form (by decide);have hA3:A3=some ⟨g3,0,none⟩:=by injection hv3
 subst hA3;have BX:=hid (IH (an Ho2.out hb3)).1;have BY:=hid (IH ho3).1;clear ho3 hv3 hb2 hb3 Ho2 HY2 R2 CX CY
 go_wp2_with fail
 go_loopw [7] (fun i wr=>∃k:Nat,k≤38∧i=.int .i64 (k:Int)∧Hid (Below w3.heap.size w3 wr)∧Hid (X.take k=Y.take k)) (fun i _=>38-(intOf i).toNat)
 case atStart=>exact⟨0,by omega,rfl,Below.refl _ _,rfl⟩
 case round =>
  obtain⟨k,hk,rfl,hbel,hat⟩:=hrel;rename World=>wr
  by_cases hlt:k<38
  ·have hltI:(k:Int)<38:=by omega
   have hk0:(0:Int)≤(k:Int):=by omega
   obtain⟨ax,hax,_,hcx⟩:=(BX.out.below hbel.out).at_ (show k<X.length by omega);obtain⟨ay,hay,_,hcy⟩:=(BY.out.below hbel.out).at_ (show k<Y.length by omega);injection hax with hax
   injection hay with hay
   subst hax hay;obtain⟨x,hx⟩:∃x,X[k]?=some x:=⟨_,Iz (by omega)⟩;obtain⟨y,hy⟩:∃x,Y[k]?=some x:=⟨_,Iz (by omega)⟩;have ex:X[k]=x:=by have:=hx;rw[Iz (by omega)] at this;injection this
   have ey:Y[k]=y:=by have:=hy;rw[Iz (by omega)] at this;injection this
   rw[ex] at hcx;rw[ey] at hcy;rw[Go.WideShapes.add_plain,Nat.zero_add] at hcx hcy;obtain⟨p,hp⟩:∃p,p=x.toNat:=⟨_,rfl⟩;obtain⟨q,hq⟩:∃p,p=y.toNat:=⟨_,rfl⟩;replace hcx:wr.cell? ⟨g2,k,none⟩=some (.int .u8 (p:Int)):=by rw[hp];exact hcx
   replace hcy:wr.cell? ⟨g3,k,none⟩=some (.int .u8 (q:Int)):=by rw[hq];exact hcy
   have Hne:Hid (p≠q→fQ f g=decide (p<q)):=fun h=>by
    rw[Hr.out,hp,hq];exact AD X Y k hat.out hx hy (fun e=>h (by rw[hp,hq,e]))
   have Heq:Hid (p=q→X.take (k+1)=Y.take (k+1)):=fun h=>by
    have e:x=y:=ID.1 (by rw[←hp,←hq,h]);rw[IG,IG,hat.out,hx,hy,e]
   clear hp hq ex ey hx hy hat;have m2:g2<wr.heap.size:=IA hlt2 hbel.out.size;have m3:g3<wr.heap.size:=IA hlt3 hbel.out.size;go_upto_region 8 with fail
   refine Sd.start ?_
   try simp only[Act.put]
   repeat ((first|refine pt ?_);simp only[ld,lg,lf,IF])
   refine IJ fun w4 hb4=>?_
   have Hb4:=hid (hbel.out.trans (hb4.mono hbel.out.size));have hcx:=(bg hb4 _ k m2).trans hcx;have hcy:=(bg hb4 _ k m3).trans hcy;have m2:g2<w4.heap.size:=IA m2 hb4.size;have m3:g3<w4.heap.size:=IA m3 hb4.size;clear hb4 hbel;by_cases hpq:p=q
   ·have b1:((p:Int) != (q:Int))=false:=by rw[hpq];simp
    have H2:=hid (Heq.out hpq);rw[b1];clear hpq
    go_wp2
    go_roundw
    case rel=>exact⟨k+1,by omega,by go_num,Hb4,H2⟩
    case measure=>simp[intOf];omega
   ·have b1:((p:Int) != (q:Int))=true:=by rw[bne_iff_ne];omega
    have H2:Hid (fQ f g=decide (p<q)):=Hne.out hpq;rw[b1];clear hpq b1;go_upto_region 9 with fail
    refine Sd.start ?_
    try simp only[Act.put]
    repeat ((first|refine pt ?_);simp only[ld,lg,lf,IF])
    refine IJ fun w5 hb5=>?_
    have Hb5:=hid (HB3.out.trans ((Hb4.out.trans (hb5.mono Hb4.out.size)).mono HB3.out.size));clear hb5
    go_wp2
    go_ret
    exact⟨by rw[H2.out];rfl,Hb5.out⟩
  ·have hltI:¬(k:Int)<38:=by omega
   obtain rfl:k=38:=by omega
   have Hf:Hid (fQ f g=false):=by
    show _=_
    have h:=hat.out;rw[IC (by omega),IC (by omega)] at h;rw[Hr.out,h,tS]
   clear hat
   go_wp2
   go_ret
   exact⟨by rw[Hf.out];rfl,HB3.out.trans (hbel.out.mono HB3.out.size)⟩
